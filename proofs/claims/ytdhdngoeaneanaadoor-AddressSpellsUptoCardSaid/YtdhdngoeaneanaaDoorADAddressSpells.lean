/-
  Texts of one proof in one file (wip/some.py): AT0, AT6, AT7, AT8, AT9, AT10.
  Conditions: none.
-/
import Derived.Test.YtdhdngoeaneanaaDoorXL
import Derived.Test.YtdhdngoeaneanaaDoorXO
import Derived.Test.YtdhdngoeaneanaaDoorX7
import Derived.Test.YtdhdngoeaneanaaDoorX8
import Derived.Test.YtdhdngoeaneanaaDoorATAddressSpells
import Derived.Test.YtdhdngoeaneanaaDoorXRS
section
namespace Go.Proofs.YtdhdngoeaneanaaDoor.AD
open Go.RowKit Go.Proofs.YtdhdngoeaneanaaDoorW.PrintWords Go.Proofs.YtdhdngoeaneanaaDoorW.PrintMore Go.Proofs.YtdhdngoeaneanaaDoor.X Go.Proofs.YtdhdngoeaneanaaDoor.XL Go.Proofs.YtdhdngoeaneanaaDoor.XO
set_option linter.unusedVariables false
set_option linter.unusedSimpArgs false
def isD (x : Int) : Bool := decide (48 ≤ x ∧ x ≤ 57)
def digs (l : List Int) : List Int := l.takeWhile isD
def valN : Int → List Int → Int
  | n, [] => n
  | n, x :: l => valN (n * 10 + (x - 48)) l
def numV (l : List Int) : Int × Int × Bool := if (digs l).length ≤ 9 then (valN 0 (digs l), ((digs l).length : Int), true) else (0, 0, false)
theorem rd_mid (pre suf : List Int) (x : Int) : rd (pre ++ x :: suf) (pre.length : Int) = x := by
  unfold rd
  rw [Int.toNat_natCast]
  exact getD_mid pre suf x 0
def clos (sign : Int) : List Int → Nat
  | [] => 0
  | [x] => if x = 92 then 1 else if x = sign then 0 else 1
  | x :: y :: l => if x = 92 then clos sign l + 2 else if x = sign then 0 else clos sign (y :: l) + 1
def alon : List Int → Bool
  | [] => false
  | [x] => decide (x = 92)
  | x :: y :: l => if x = 92 then alon l else alon (y :: l)
theorem clos_le (sign : Int) : ∀ l : List Int, clos sign l ≤ l.length
  | [] => Nat.le_refl _
  | [x] => by unfold clos; repeat (first | split | simp)
  | x :: y :: l => by
    have h1 := clos_le sign l
    have h2 := clos_le sign (y :: l)
    unfold clos
    simp only [List.length_cons] at h2 ⊢
    split
    · omega
    · split <;> omega
theorem clos_l0 (t : List Int) (sign : Int) (hl : t.length ≤ 1099511627776) : ∀ (suf pre : List Int), t = pre ++ suf → Ev (fun k => address_closing.l0 k t sign (pre.length : Int)) ((pre.length + clos sign suf : Nat) : Int)
  | [], pre, ht => by
    refine Ev.step (fun k => address_closing.l0.eq_2 ..) (Ev.neg (by rw [ht]; simp) ?_)
    exact Ev.eq (Ev.now _) (by rw [ht]; simp [clos])
  | [x], pre, ht => by
    have hlen : t.length = pre.length + 1 := by rw [ht]; simp
    have hx : rd t (pre.length : Int) = x := by rw [ht]; exact rd_mid pre [] x
    refine Ev.step (fun k => address_closing.l0.eq_2 ..) (Ev.pos (by omega) (Ev.pos (by omega) ?_))
    rw [hx]
    by_cases h92 : x = 92
    · refine Ev.pos h92 ?_
      rw [wrap64_id (n := (pre.length : Int) + 1) (by omega) (by omega), wrap64_id (n := (pre.length : Int) + 1 + 1) (by omega) (by omega)]
      refine Ev.step (fun k => address_closing.l0.eq_2 ..) (Ev.neg (by omega) ?_)
      exact Ev.eq (Ev.now _) (by rw [show clos sign [x] = 1 from if_pos h92, hlen])
    · refine Ev.neg h92 ?_
      by_cases hs : x = sign
      · refine Ev.pos hs (Ev.eq (Ev.now _) ?_)
        rw [show clos sign [x] = 0 from by unfold clos; rw [if_neg h92, if_pos hs]]; rfl
      · refine Ev.neg hs ?_
        rw [wrap64_id (n := (pre.length : Int) + 1) (by omega) (by omega)]
        refine Ev.step (fun k => address_closing.l0.eq_2 ..) (Ev.neg (by omega) ?_)
        exact Ev.eq (Ev.now _) (by rw [show clos sign [x] = 1 from by unfold clos; rw [if_neg h92, if_neg hs], hlen])
  | x :: y :: l, pre, ht => by
    have hlen : t.length = pre.length + l.length + 2 := by rw [ht]; simp; omega
    have hx : rd t (pre.length : Int) = x := by rw [ht]; exact rd_mid pre (y :: l) x
    refine Ev.step (fun k => address_closing.l0.eq_2 ..) (Ev.pos (by omega) (Ev.pos (by omega) ?_))
    rw [hx]
    by_cases h92 : x = 92
    · refine Ev.pos h92 ?_
      have h := clos_l0 t sign hl l (pre ++ [x, y]) (by rw [ht]; simp)
      rw [wrap64_id (n := (pre.length : Int) + 1) (by omega) (by omega), wrap64_id (n := (pre.length : Int) + 1 + 1) (by omega) (by omega)]
      rw [show ((pre ++ [x, y]).length : Int) = (pre.length : Int) + 1 + 1 from by rw [List.length_append]; simp; omega] at h
      refine Ev.eq h ?_
      rw [show clos sign (x :: y :: l) = clos sign l + 2 from if_pos h92, List.length_append]
      simp; omega
    · refine Ev.neg h92 ?_
      by_cases hs : x = sign
      · refine Ev.pos hs (Ev.eq (Ev.now _) ?_)
        rw [show clos sign (x :: y :: l) = 0 from by unfold clos; rw [if_neg h92, if_pos hs]]; rfl
      · refine Ev.neg hs ?_
        have h := clos_l0 t sign hl (y :: l) (pre ++ [x]) (by rw [ht]; simp)
        rw [wrap_len pre x (by omega)]
        refine Ev.eq h ?_
        rw [show clos sign (x :: y :: l) = clos sign (y :: l) + 1 from by rw [clos]; rw [if_neg h92, if_neg hs], List.length_append, List.length_singleton]
        omega
theorem clos_ev (t : List Int) (sign : Int) (hl : t.length ≤ 1099511627776) : Ev (fun k => address_closing.f k t sign) (clos sign t : Int) := by
  have h := clos_l0 t sign hl t [] rfl
  show Ev (fun k => address_closing.l0 k t sign 0) _
  simpa using h
abbrev PA := Int × Int × Int × List Int × Int × Bool × Int × Int
def badA : PA := (0, 0, 0, [], 0, false, 0, 230)
def baseC (c : Int) (rest : List Int) : PA :=
    if isD c = true then (if (numV (c :: rest)).2.2 = true then (110, (numV (c :: rest)).1, 0, [], 0, true, (numV (c :: rest)).2.1, 0) else badA)
    else if c = 46 ∨ c = 36 then (c, 0, 0, [], 0, true, 1, 0)
    else if c = 39 then (if rest = [] then badA else (39, 0, rd rest 0, [], 0, true, 2, 0))
    else if c = 47 ∨ c = 63 then (if clos c rest = rest.length ∧ alon rest = true then badA else (c, 0, 0, rest.take (clos c rest), 0, true, min ((clos c rest : Int) + 2) ((rest.length : Int) + 1), 0))
    else (0, 0, 0, [], 0, false, 0, 0)
def baseV : List Int → PA
  | [] => (0, 0, 0, [], 0, false, 0, 0)
  | c :: rest => baseC c rest
theorem clone_eq {x : List Int} (h : x.length ≤ 1099511627776) : bytes_Clone.f x = some x := if_pos (by omega)
end Go.Proofs.YtdhdngoeaneanaaDoor.AD
end
section
namespace Go.Proofs.YtdhdngoeaneanaaDoor.AD
open Go.RowKit Go.Proofs.YtdhdngoeaneanaaDoorW.PrintWords Go.Proofs.YtdhdngoeaneanaaDoorW.PrintMore Go.Proofs.YtdhdngoeaneanaaDoor.X Go.Proofs.YtdhdngoeaneanaaDoor.XL Go.Proofs.YtdhdngoeaneanaaDoor.XO
set_option linter.unusedVariables false
set_option linter.unusedSimpArgs false
theorem valN_bound : ∀ (ds : List Int) (n : Int), (∀ x ∈ ds, isD x = true) → 0 ≤ n → 0 ≤ valN n ds ∧ valN n ds < (n + 1) * 10 ^ ds.length
  | [], n, _, h0 => ⟨h0, by show n < (n + 1) * 10 ^ 0; omega⟩
  | x :: ds, n, h, h0 => by
    have hx : 48 ≤ x ∧ x ≤ 57 := of_decide_eq_true (h x (by simp))
    have h1 := valN_bound ds (n * 10 + (x - 48)) (fun y hy => h y (by simp [hy])) (by omega)
    refine ⟨h1.1, Int.lt_of_lt_of_le h1.2 ?_⟩
    rw [List.length_cons, Int.pow_succ, show (n + 1) * (10 ^ ds.length * 10) = ((n + 1) * 10) * 10 ^ ds.length from by rw [Int.mul_comm (10 ^ ds.length) 10, Int.mul_assoc]]
    exact Int.mul_le_mul_of_nonneg_right (by omega) (Int.pow_nonneg (by decide))
theorem digs_all (l : List Int) : ∀ x ∈ digs l, isD x = true := by
  intro x hx
  unfold digs at hx
  induction l with
  | nil => cases hx
  | cons y l ih =>
    rw [List.takeWhile_cons] at hx
    cases hd : isD y with
    | false => rw [hd] at hx; cases hx
    | true =>
      rw [hd] at hx
      rcases List.mem_cons.1 hx with e | e
      · rw [e]; exact hd
      · exact ih e
theorem digs_le (l : List Int) : (digs l).length ≤ l.length := by
  unfold digs
  induction l with
  | nil => exact Nat.le_refl _
  | cons y l ih =>
    rw [List.takeWhile_cons]
    split
    · rw [List.length_cons, List.length_cons]; omega
    · exact Nat.zero_le _
theorem numV_ok {l : List Int} (h : (numV l).2.2 = true) : (numV l).2.1 = ((digs l).length : Int) ∧ (numV l).1 = valN 0 (digs l) ∧ (digs l).length ≤ 9 ∧ 0 ≤ (numV l).1 ∧ (numV l).1 ≤ 999999999 := by
  unfold numV at h ⊢
  by_cases h9 : (digs l).length ≤ 9
  · rw [if_pos h9]
    have hb := valN_bound (digs l) 0 (digs_all l) (by decide)
    have hp : (10 : Int) ^ (digs l).length ≤ 1000000000 := by
      have h : (digs l).length = 0 ∨ (digs l).length = 1 ∨ (digs l).length = 2 ∨ (digs l).length = 3 ∨ (digs l).length = 4 ∨ (digs l).length = 5 ∨ (digs l).length = 6 ∨ (digs l).length = 7 ∨ (digs l).length = 8 ∨ (digs l).length = 9 := by omega
      rcases h with h | h | h | h | h | h | h | h | h | h <;> rw [h] <;> decide
    exact ⟨rfl, rfl, h9, hb.1, by have := hb.2; simp only; omega⟩
  · rw [if_neg h9] at h; cases h
/-- What is added for a sign: its number, or 1. -/
def stepN (x : Int) (l : List Int) : Int := if x = 45 then -(if (numV l).2.1 = 0 then 1 else (numV l).1) else (if (numV l).2.1 = 0 then 1 else (numV l).1)
/-- The steps at the head of a text: the sum, how many bytes, was one given, is all well. -/
def stepsV : Nat → List Int → Int → Bool → Int × Nat × Bool × Bool
  | 0, _, add, g => (add, 0, g, true)
  | _ + 1, [], add, g => (add, 0, g, true)
  | f + 1, x :: l, add, g =>
    if x = 43 ∨ x = 45 then
      if (numV l).2.2 = true then ((stepsV f (l.drop (digs l).length) (add + stepN x l) true).1, (stepsV f (l.drop (digs l).length) (add + stepN x l) true).2.1 + (1 + (digs l).length), (stepsV f (l.drop (digs l).length) (add + stepN x l) true).2.2.1, (stepsV f (l.drop (digs l).length) (add + stepN x l) true).2.2.2)
      else (0, 0, false, false)
    else (add, 0, g, true)
def fuelA : Nat := 2097153
def endV (b1 b2 b3 : Int) (b4 : List Int) (p : Nat) (r : Int × Nat × Bool × Bool) : PA :=
  if r.2.2.2 = false then badA else if r.1 < -999999999 ∨ r.1 > 999999999 then badA else (b1, b2, b3, b4, r.1, r.2.2.1, ((p + r.2.1 : Nat) : Int), 0)
/-- What Parse comes to. -/
def parseV (t : List Int) : PA := if (baseV t).2.2.2.2.2.2.2 = 0 then endV (baseV t).1 (baseV t).2.1 (baseV t).2.2.1 (baseV t).2.2.2.1 (baseV t).2.2.2.2.2.2.1.toNat (stepsV fuelA (t.drop (baseV t).2.2.2.2.2.2.1.toNat) 0 (baseV t).2.2.2.2.2.1) else badA
/-- What a base is: nothing, a fault, or some bytes at the head of the line. -/
theorem base_kinds (t : List Int) : (baseV t = badA) ∨ ((baseV t).2.2.2.2.2.2.2 = 0 ∧ (baseV t).2.2.2.2.1 = 0 ∧ 0 ≤ (baseV t).2.2.2.2.2.2.1 ∧ (baseV t).2.2.2.2.2.2.1 ≤ (t.length : Int) ∧ ((baseV t).2.2.2.2.2.1 = true ↔ 0 < (baseV t).2.2.2.2.2.2.1)) := by
  cases t with
  | nil => exact .inr ⟨rfl, rfl, by decide, by decide, by decide⟩
  | cons c rest =>
    show baseC c rest = badA ∨ _
    rw [show baseV (c :: rest) = baseC c rest from rfl]
    unfold baseC
    split
    · rename_i hd
      split
      · rename_i hn
        have h := numV_ok hn
        have h2 := digs_le (c :: rest)
        have h3 : 0 < (digs (c :: rest)).length := by unfold digs; rw [List.takeWhile_cons, hd]; simp
        exact .inr ⟨rfl, rfl, by simp only; omega, by simp only; omega, ⟨fun _ => (by have e := h.1; show 0 < (numV (c :: rest)).2.1; omega), fun _ => rfl⟩⟩
      · exact .inl rfl
    · split
      · exact .inr ⟨rfl, rfl, by simp only; omega, by simp only [List.length_cons]; omega, by simp⟩
      · split
        · split
          · exact .inl rfl
          · rename_i hr
            have : 0 < rest.length := List.length_pos_iff.2 hr
            exact .inr ⟨rfl, rfl, by simp only; omega, by simp only [List.length_cons]; omega, by simp⟩
        · split
          · split
            · exact .inl rfl
            · have := clos_le c rest
              exact .inr ⟨rfl, rfl, by simp only; omega, by simp only [List.length_cons]; omega, ⟨fun _ => (by show 0 < min ((clos c rest : Int) + 2) ((rest.length : Int) + 1); omega), fun _ => rfl⟩⟩
          · exact .inr ⟨rfl, rfl, by simp, by simp only [List.length_cons]; omega, by simp⟩
end Go.Proofs.YtdhdngoeaneanaaDoor.AD
end
section
namespace Go.Proofs.YtdhdngoeaneanaaDoor.AD
open Go.RowKit Go.Proofs.YtdhdngoeaneanaaDoorW.PrintWords Go.Proofs.YtdhdngoeaneanaaDoorW.PrintMore Go.Proofs.YtdhdngoeaneanaaDoor.X Go.Proofs.YtdhdngoeaneanaaDoor.XL Go.Proofs.YtdhdngoeaneanaaDoor.XO
set_option linter.unusedVariables false
set_option linter.unusedSimpArgs false
theorem digs_take : ∀ (l : List Int) (m : Nat), digs (l.take m) = (digs l).take m
  | [], m => by simp [digs]
  | x :: l, 0 => by simp [digs]
  | x :: l, m + 1 => by
    have ih := digs_take l m
    unfold digs at ih ⊢
    rw [List.take_succ_cons, List.takeWhile_cons, List.takeWhile_cons]
    split
    · rw [ih, List.take_succ_cons]
    · simp
theorem digs_long {l : List Int} {m : Nat} (h : (digs l).length ≤ m) : digs (l.take m) = digs l := by rw [digs_take, List.take_of_length_le h]
theorem numV_long {l : List Int} {m : Nat} (h : (digs l).length ≤ m) : numV (l.take m) = numV l := by unfold numV; rw [digs_long h]
theorem rd_cons (x : Int) (l : List Int) (n : Nat) : rd (x :: l) ((n + 1 : Nat) : Int) = rd l (n : Int) := by unfold rd; rw [Int.toNat_natCast, Int.toNat_natCast]; rfl
theorem rd_drop (l : List Int) (d n : Nat) : rd (l.drop d) (n : Int) = rd l ((d + n : Nat) : Int) := by unfold rd; rw [Int.toNat_natCast, Int.toNat_natCast, List.getD_eq_getElem?_getD, List.getD_eq_getElem?_getD, List.getElem?_drop]
theorem steps_take : ∀ (f : Nat) (l : List Int) (add : Int) (g : Bool), (stepsV f l add g).2.2.2 = true →
    (stepsV f l add g).2.1 ≤ l.length ∧ ((stepsV f l add g).2.2.1 = (g || decide (0 < (stepsV f l add g).2.1))) ∧ (∀ m, (stepsV f l add g).2.1 ≤ m → stepsV f (l.take m) add g = stepsV f l add g) ∧ (l.length < f → (stepsV f l add g).2.1 = l.length ∨ (rd l ((stepsV f l add g).2.1 : Int) ≠ 43 ∧ rd l ((stepsV f l add g).2.1 : Int) ≠ 45)) := by
  intro f
  induction f with
  | zero => intro l add g _; exact ⟨Nat.zero_le _, by simp [stepsV], fun m _ => rfl, fun h => by omega⟩
  | succ f ih =>
    intro l add g hok
    cases l with
    | nil => exact ⟨Nat.le_refl _, by simp [stepsV], fun m _ => by simp, fun _ => .inl rfl⟩
    | cons x l =>
      by_cases hs : x = 43 ∨ x = 45
      · by_cases hn : (numV l).2.2 = true
        · have e : stepsV (f + 1) (x :: l) add g = ((stepsV f (l.drop (digs l).length) (add + stepN x l) true).1, (stepsV f (l.drop (digs l).length) (add + stepN x l) true).2.1 + (1 + (digs l).length), (stepsV f (l.drop (digs l).length) (add + stepN x l) true).2.2.1, (stepsV f (l.drop (digs l).length) (add + stepN x l) true).2.2.2) := by
            rw [stepsV, if_pos hs, if_pos hn]
          rw [e] at hok ⊢
          simp only at hok ⊢
          have hd := digs_le l
          obtain ⟨i1, i2, i3, i4⟩ := ih (l.drop (digs l).length) (add + stepN x l) true hok
          rw [List.length_drop] at i1 i4
          refine ⟨by rw [List.length_cons]; omega, by rw [i2, decide_eq_true (show 0 < (stepsV f (l.drop (digs l).length) (add + stepN x l) true).2.1 + (1 + (digs l).length) by omega)]; simp, fun m hm => ?_, fun hf => ?_⟩
          · obtain ⟨m', rfl⟩ : ∃ m', m = m' + 1 := ⟨m - 1, by omega⟩
            have h1 : numV (l.take m') = numV l := numV_long (by omega)
            have h2 : digs (l.take m') = digs l := digs_long (by omega)
            have h3 : stepN x (l.take m') = stepN x l := by unfold stepN; rw [h1]
            have h4 := i3 (m' - (digs l).length) (by omega)
            rw [List.take_succ_cons, stepsV, if_pos hs, h1, if_pos hn, h2, h3, List.drop_take, h4]
          · rw [List.length_cons] at hf ⊢
            rcases i4 (by omega) with h | h
            · exact .inl (by omega)
            · refine .inr ?_
              rw [rd_drop] at h
              rw [show (stepsV f (l.drop (digs l).length) (add + stepN x l) true).2.1 + (1 + (digs l).length) = ((digs l).length + (stepsV f (l.drop (digs l).length) (add + stepN x l) true).2.1) + 1 from by omega, rd_cons]
              exact h
        · rw [stepsV, if_pos hs, if_neg hn] at hok
          cases hok
      · have e : ∀ l2 : List Int, stepsV (f + 1) (x :: l2) add g = (add, 0, g, true) := fun l2 => by rw [stepsV, if_neg hs]
        rw [e]
        refine ⟨Nat.zero_le _, by simp, fun m _ => ?_, fun _ => .inr ⟨fun h => hs (.inl h), fun h => hs (.inr h)⟩⟩
        cases m with
        | zero => rfl
        | succ m => rw [List.take_succ_cons, e]
theorem clos_take (s : Int) : ∀ (l : List Int) (j : Nat), clos s l < j → j ≤ l.length → clos s (l.take j) = clos s l
  | [], j, h1, h2 => by simp at h2; omega
  | [x], j, h1, h2 => by rw [List.take_of_length_le (by simp only [List.length_cons, List.length_nil] at h2 ⊢; omega)]
  | x :: y :: l, j, h1, h2 => by
    simp only [List.length_cons] at h2
    unfold clos at h1
    by_cases h92 : x = 92
    · rw [if_pos h92] at h1
      obtain ⟨j', rfl⟩ : ∃ j', j = j' + 2 := ⟨j - 2, by omega⟩
      have h := clos_take s l j' (by omega) (by omega)
      rw [List.take_succ_cons, List.take_succ_cons, show clos s (x :: y :: l.take j') = clos s (l.take j') + 2 from if_pos h92, show clos s (x :: y :: l) = clos s l + 2 from if_pos h92, h]
    · rw [if_neg h92] at h1
      by_cases hs : x = s
      · rw [show clos s (x :: y :: l) = 0 from by rw [clos, if_neg h92, if_pos hs]]
        match j with
        | 0 => omega
        | 1 => show clos s [x] = 0; rw [clos, if_neg h92, if_pos hs]
        | j + 2 => rw [List.take_succ_cons, List.take_succ_cons, clos, if_neg h92, if_pos hs]
      · rw [if_neg hs] at h1
        obtain ⟨j', rfl⟩ : ∃ j', j = j' + 2 := ⟨j - 2, by omega⟩
        have h := clos_take s (y :: l) (j' + 1) (by omega) (by simp only [List.length_cons]; omega)
        rw [List.take_succ_cons] at h
        rw [List.take_succ_cons, List.take_succ_cons, clos, if_neg h92, if_neg hs, h, show clos s (x :: y :: l) = clos s (y :: l) + 1 from by rw [clos, if_neg h92, if_neg hs]]
theorem base_take (t : List Int) (h : (baseV t).2.2.2.2.2.2.2 = 0) (m : Nat) (hm : (baseV t).2.2.2.2.2.2.1 ≤ (m : Int)) : baseV (t.take m) = baseV t := by
  cases t with
  | nil => rw [List.take_nil]
  | cons c rest =>
    rw [show baseV (c :: rest) = baseC c rest from rfl] at h hm ⊢
    cases m with
    | zero =>
      show baseV [] = _
      unfold baseC at h hm ⊢
      split at h
      · rename_i hd
        split at h
        · rename_i hn
          rw [if_pos hd, if_pos hn] at hm
          have h2 := (numV_ok hn).1
          have h3 : 0 < (digs (c :: rest)).length := by unfold digs; rw [List.takeWhile_cons, hd]; simp
          simp only at hm
          omega
        · cases h
      · rename_i hd
        rw [if_neg hd] at hm ⊢
        split at h
        · rename_i h1
          rw [if_pos h1] at hm
          simp at hm
        · rename_i h1
          rw [if_neg h1] at hm ⊢
          split at h
          · rename_i h2
            rw [if_pos h2] at hm
            split at h
            · cases h
            · rename_i h3
              rw [if_neg h3] at hm
              simp at hm
          · rename_i h2
            rw [if_neg h2] at hm ⊢
            split at h
            · rename_i h3
              rw [if_pos h3] at hm
              split at h
              · cases h
              · rename_i h4
                rw [if_neg h4] at hm
                simp only at hm
                omega
            · rename_i h3
              rw [if_neg h3]
              rfl
    | succ m =>
      rw [List.take_succ_cons, show baseV (c :: rest.take m) = baseC c (rest.take m) from rfl]
      have hdg : isD c = true → (numV (c :: rest)).2.2 = true → (numV (c :: rest)).2.1 ≤ ((m + 1 : Nat) : Int) → numV (c :: rest.take m) = numV (c :: rest) := fun _ hn hk => by
        have h2 := (numV_ok hn).1
        have h3 := numV_long (l := c :: rest) (m := m + 1) (by omega)
        rw [List.take_succ_cons] at h3
        exact h3
      unfold baseC at h hm ⊢
      split at h
      · rename_i hd
        rw [if_pos hd] at hm ⊢
        split at h
        · rename_i hn
          rw [if_pos hn] at hm
          rw [if_pos hd, hdg hd hn hm]
        · cases h
      · rename_i hd
        rw [if_neg hd] at hm ⊢
        rw [if_neg hd]
        split at h
        · rename_i h1
          rw [if_pos h1, if_pos h1]
        · rename_i h1
          rw [if_neg h1] at hm ⊢
          rw [if_neg h1]
          split at h
          · rename_i h2
            rw [if_pos h2] at hm ⊢
            rw [if_pos h2]
            split at h
            · cases h
            · rename_i h3
              rw [if_neg h3] at hm ⊢
              simp only at hm
              cases rest with
              | nil => exact absurd rfl h3
              | cons y r =>
                cases m with
                | zero => omega
                | succ m => rw [List.take_succ_cons, if_neg (by simp)]; rfl
          · rename_i h2
            rw [if_neg h2] at hm ⊢
            rw [if_neg h2]
            split at h
            · rename_i h3
              rw [if_pos h3] at hm ⊢
              rw [if_pos h3]
              split at h
              · cases h
              · rename_i h4
                rw [if_neg h4] at hm
                simp only at hm
                have hcl := clos_le c rest
                by_cases hk : clos c rest = rest.length
                · rw [List.take_of_length_le (by omega)]
                · have h5 := clos_take c rest (min m rest.length) (by omega) (by omega)
                  have h6 : rest.take (min m rest.length) = rest.take m := by
                    by_cases hmm : m ≤ rest.length
                    · rw [Nat.min_eq_left hmm]
                    · rw [Nat.min_eq_right (by omega), List.take_length, List.take_of_length_le (by omega)]
                  rw [h6] at h5
                  rw [h5, if_neg (fun h => by have := h.1; rw [List.length_take] at this; omega), if_neg h4, List.take_take, List.length_take]
                  rw [show min (clos c rest) m = clos c rest from by omega]
                  rw [show min ((clos c rest : Int) + 2) (((min m rest.length : Nat) : Int) + 1) = min ((clos c rest : Int) + 2) ((rest.length : Int) + 1) from by omega]
            · rename_i h3
              rw [if_neg h3, if_neg h3]
theorem longest (t : List Int) (ht : t.length ≤ 2097152) (h : (parseV t).2.2.2.2.2.2.2 = 0) : 0 ≤ (parseV t).2.2.2.2.2.2.1 ∧ (parseV t).2.2.2.2.2.2.1 ≤ (t.length : Int) ∧ ((parseV t).2.2.2.2.2.1 = decide (0 < (parseV t).2.2.2.2.2.2.1)) ∧ parseV (t.take (parseV t).2.2.2.2.2.2.1.toNat) = parseV t ∧
    ((parseV t).2.2.2.2.2.2.1 = (t.length : Int) ∨ (rd t (parseV t).2.2.2.2.2.2.1 ≠ 43 ∧ rd t (parseV t).2.2.2.2.2.2.1 ≠ 45)) := by
  have hk := base_kinds t
  have hbt := base_take t
  by_cases hb : (baseV t).2.2.2.2.2.2.2 = 0
  · rcases hk with hk | ⟨_, k2, k3, k4, k5⟩
    · rw [hk] at hb; cases hb
    have hst := steps_take fuelA (t.drop (baseV t).2.2.2.2.2.2.1.toNat) 0 (baseV t).2.2.2.2.2.1
    have e : parseV t = endV (baseV t).1 (baseV t).2.1 (baseV t).2.2.1 (baseV t).2.2.2.1 (baseV t).2.2.2.2.2.2.1.toNat (stepsV fuelA (t.drop (baseV t).2.2.2.2.2.2.1.toNat) 0 (baseV t).2.2.2.2.2.1) := if_pos hb
    have e2 : ∀ n : Nat, baseV (t.take n) = baseV t → parseV (t.take n) = endV (baseV t).1 (baseV t).2.1 (baseV t).2.2.1 (baseV t).2.2.2.1 (baseV t).2.2.2.2.2.2.1.toNat (stepsV fuelA ((t.take n).drop (baseV t).2.2.2.2.2.2.1.toNat) 0 (baseV t).2.2.2.2.2.1) := fun n hn => by
      unfold parseV
      rw [hn, if_pos hb]
    generalize hr : stepsV fuelA (t.drop (baseV t).2.2.2.2.2.2.1.toNat) 0 (baseV t).2.2.2.2.2.1 = r at e hst
    rw [e] at h
    have hr4 : r.2.2.2 = true := by
      unfold endV at h
      cases hq : r.2.2.2 with
      | true => rfl
      | false => rw [if_pos hq] at h; cases h
    obtain ⟨s1, s2, s3, s4⟩ := hst hr4
    have hr1 : ¬ (r.1 < -999999999 ∨ r.1 > 999999999) := fun hq => by
      unfold endV at h
      rw [if_neg (by rw [hr4]; decide), if_pos hq] at h
      cases h
    have e3 : parseV t = ((baseV t).1, (baseV t).2.1, (baseV t).2.2.1, (baseV t).2.2.2.1, r.1, r.2.2.1, (((baseV t).2.2.2.2.2.2.1.toNat + r.2.1 : Nat) : Int), 0) := by
      rw [e]
      unfold endV
      rw [if_neg (by rw [hr4]; decide), if_neg hr1]
    rw [List.length_drop] at s1 s4
    rw [e3]
    simp only
    generalize hkk : (baseV t).2.2.2.2.2.2.1 = k at *
    obtain ⟨q, rfl⟩ : ∃ q : Nat, k = (q : Int) := ⟨k.toNat, by omega⟩
    simp only [Int.toNat_natCast] at *
    refine ⟨by omega, by omega, ?_, ?_, ?_⟩
    · rw [s2, Bool.eq_iff_iff]
      simp only [Bool.or_eq_true, decide_eq_true_eq, k5]
      omega
    · rw [e2 (q + r.2.1) (hbt hb _ (by omega)), List.drop_take, show q + r.2.1 - q = r.2.1 from by omega, s3 _ (Nat.le_refl _), ← e3]
      exact e.symm
    · rcases s4 (by unfold fuelA; omega) with h | h
      · exact .inl (by omega)
      · rw [rd_drop] at h
        exact .inr h
  · unfold parseV at h
    rw [if_neg hb] at h
    cases h
end Go.Proofs.YtdhdngoeaneanaaDoor.AD
end
section
namespace Go.Proofs.YtdhdngoeaneanaaDoor.AD
open Go.RowKit Go.Proofs.YtdhdngoeaneanaaDoorW.PrintWords Go.Proofs.YtdhdngoeaneanaaDoorW.PrintMore Go.Proofs.YtdhdngoeaneanaaDoor.X Go.Proofs.YtdhdngoeaneanaaDoor.XL Go.Proofs.YtdhdngoeaneanaaDoor.XO Go.Proofs.YtdhdngoeaneanaaDoor.PT
set_option linter.unusedVariables false
set_option linter.unusedSimpArgs false
def soundB (base num : Int) (text : List Int) : Bool := if base = 0 ∨ base = 46 ∨ base = 36 ∨ base = 39 then true else if base = 110 then decide (0 ≤ num ∧ num ≤ 999999999) else if base = 47 ∨ base = 63 then decide (clos base (text ++ [base]) = text.length) else false
def soundV (base num : Int) (text : List Int) (add : Int) (given : Bool) : Bool := if given = true ∧ -999999999 ≤ add ∧ add ≤ 999999999 then soundB base num text else false
theorem sound_ev (base num name : Int) (text : List Int) (add : Int) (given : Bool) (hl : text.length ≤ 1048576) : Ev (fun k => address_sound.f k base num name text add given) (soundV base num text add given) := by
  have hno : ∀ (h : ¬ (given = true ∧ -999999999 ≤ add ∧ add ≤ 999999999)), Ev (fun k => address_sound.j0 k true base num name text add given) (soundV base num text add given) := fun h =>
    Ev.step (fun k => address_sound.j0.eq_2 ..) (Ev.eq (Ev.pos rfl (Ev.now _)) (if_neg h).symm)
  have hyes : given = true ∧ -999999999 ≤ add ∧ add ≤ 999999999 → Ev (fun k => address_sound.j0 k false base num name text add given) (soundV base num text add given) := fun h => by
    refine Ev.eq (r := soundB base num text) ?_ (if_pos h).symm
    refine Ev.step (fun k => address_sound.j0.eq_2 ..) (Ev.neg (by decide) ?_)
    have hj : ∀ z : Bool, z = decide (base = 0 ∨ base = 46 ∨ base = 36 ∨ base = 39) → Ev (fun k => address_sound.j1 k base z base num name text add given) (soundB base num text) := by
      rintro z rfl
      unfold soundB
      by_cases h1 : base = 0 ∨ base = 46 ∨ base = 36 ∨ base = 39
      · rw [if_pos h1, decide_eq_true h1]
        exact Ev.step (fun k => address_sound.j1.eq_2 ..) (Ev.pos rfl (Ev.now _))
      · rw [if_neg h1, decide_eq_false h1]
        refine Ev.step (fun k => address_sound.j1.eq_2 ..) (Ev.neg (by decide) ?_)
        by_cases h2 : base = 110
        · rw [if_pos h2]
          refine Ev.pos h2 ?_
          by_cases h3 : num ≥ 0
          · exact Ev.pos h3 (Ev.eq (Ev.now _) (decide_eq_decide.2 ⟨fun h => ⟨h3, h⟩, fun h => h.2⟩))
          · exact Ev.neg h3 (Ev.eq (Ev.now _) (decide_eq_false (fun h => h3 h.1)).symm)
        · rw [if_neg h2]
          refine Ev.neg h2 ?_
          have hj2 : ∀ z : Bool, z = decide (base = 47 ∨ base = 63) → Ev (fun k => address_sound.j2 k z base num name text add given) (if base = 47 ∨ base = 63 then decide (clos base (text ++ [base]) = text.length) else false) := by
            rintro z rfl
            by_cases h3 : base = 47 ∨ base = 63
            · rw [if_pos h3, decide_eq_true h3]
              have hc := clos_ev (text ++ [base]) base (by rw [List.length_append, List.length_singleton]; omega)
              refine Ev.step (fun k => address_sound.j2.eq_2 ..) (Ev.pos rfl (Ev.cbind (clone_eq (by omega)) (Ev.cbind rfl (Ev.pos (by rw [List.length_singleton]; omega) (Ev.bind hc (Ev.eq (Ev.now _) ?_))))))
              rw [Bool.eq_iff_iff]
              simp only [beq_iff_eq, decide_eq_true_eq]
              omega
            · rw [if_neg h3, decide_eq_false h3]
              exact Ev.step (fun k => address_sound.j2.eq_2 ..) (Ev.neg (by decide) (Ev.now _))
          by_cases h47 : base = 47
          · exact Ev.pos h47 (hj2 _ (by rw [Bool.eq_iff_iff]; simp [h47]))
          · exact Ev.neg h47 (hj2 _ (by rw [Bool.eq_iff_iff]; simp [h47]))
    by_cases e0 : base = 0
    · exact Ev.pos e0 (hj _ (by rw [Bool.eq_iff_iff]; simp [e0]))
    · refine Ev.neg e0 ?_
      by_cases e1 : base = 46
      · exact Ev.pos e1 (hj _ (by rw [Bool.eq_iff_iff]; simp [e1]))
      · refine Ev.neg e1 ?_
        by_cases e2 : base = 36
        · exact Ev.pos e2 (hj _ (by rw [Bool.eq_iff_iff]; simp [e2]))
        · exact Ev.neg e2 (hj _ (by rw [Bool.eq_iff_iff]; simp [e0, e1, e2]))
  by_cases hg : given = true
  · refine Ev.pos hg ?_
    by_cases h1 : add < -999999999
    · exact Ev.pos h1 (hno (fun h => by omega))
    · refine Ev.neg h1 ?_
      by_cases h2 : add > 999999999
      · rw [decide_eq_true h2]
        exact hno (fun h => by omega)
      · rw [decide_eq_false h2]
        exact hyes ⟨hg, by omega, by omega⟩
  · exact Ev.neg hg (hno (fun h => hg h.1))
/-! numerals -/
def decL (u : Nat) : List Int := (Lib.decDigits u).map fun b => (b.toNat : Int)
theorem dec_pos {i : Int} (h : 0 ≤ i) : dec i = decL i.toNat := by unfold dec decL Lib.itoa; rw [if_neg (by omega)]
theorem dec_neg {i : Int} (h : i < 0) : dec i = 45 :: decL i.natAbs := by unfold dec decL Lib.itoa; rw [if_pos h]; rfl
theorem decL_small {u : Nat} (h : u < 10) : decL u = [48 + (u : Int)] := by
  unfold decL
  rw [Lib.decDigits, dif_pos h]
  have : ∀ v : Fin 10, (([UInt8.ofNat (48 + v.val)] : List UInt8).map fun b => (b.toNat : Int)) = [48 + (v.val : Int)] := by decide
  first | exact this ⟨u, h⟩ | simpa using this ⟨u, h⟩
theorem decL_big {u : Nat} (h : ¬ u < 10) : decL u = decL (u / 10) ++ [48 + ((u % 10 : Nat) : Int)] := by
  unfold decL
  rw [Lib.decDigits, dif_neg h, List.map_append]
  have : ∀ v : Fin 10, (([UInt8.ofNat (48 + v.val)] : List UInt8).map fun b => (b.toNat : Int)) = [48 + (v.val : Int)] := by decide
  congr 1
  first | exact this ⟨u % 10, Nat.mod_lt _ (by decide)⟩ | simpa using this ⟨u % 10, Nat.mod_lt _ (by decide)⟩
theorem decL_all : ∀ (u : Nat), ∀ x ∈ decL u, isD x = true := by
  intro u
  induction u using Nat.strongRecOn with
  | _ u ih =>
    intro x hx
    by_cases h : u < 10
    · rw [decL_small h] at hx
      rw [List.mem_singleton.1 hx]
      exact decide_eq_true (by omega)
    · rw [decL_big h] at hx
      rcases List.mem_append.1 hx with h1 | h1
      · exact ih (u / 10) (by omega) x h1
      · rw [List.mem_singleton.1 h1]
        exact decide_eq_true (by omega)
theorem decL_pos (u : Nat) : 1 ≤ (decL u).length := by
  by_cases h : u < 10
  · rw [decL_small h]; exact Nat.le_refl _
  · rw [decL_big h, List.length_append, List.length_singleton]; omega
theorem decL_len : ∀ (k u : Nat), u < 10 ^ (k + 1) → (decL u).length ≤ k + 1
  | 0, u, h => by rw [decL_small (by omega)]; exact Nat.le_refl _
  | k + 1, u, h => by
    by_cases h1 : u < 10
    · rw [decL_small h1]; simp
    · rw [decL_big h1, List.length_append, List.length_singleton]
      have := decL_len k (u / 10) (by rw [Nat.pow_succ] at h; omega)
      omega
theorem valN_app (x : Int) : ∀ (l : List Int) (n : Int), valN n (l ++ [x]) = valN n l * 10 + (x - 48)
  | [], n => rfl
  | y :: l, n => valN_app x l (n * 10 + (y - 48))
theorem valN_dec : ∀ (u : Nat), valN 0 (decL u) = (u : Int) := by
  intro u
  induction u using Nat.strongRecOn with
  | _ u ih =>
    by_cases h : u < 10
    · rw [decL_small h]; show (0 : Int) * 10 + (48 + (u : Int) - 48) = u; omega
    · rw [decL_big h, valN_app, ih (u / 10) (by omega)]; omega
theorem digs_app : ∀ (l r : List Int), (∀ x ∈ l, isD x = true) → digs (l ++ r) = l ++ digs r
  | [], r, _ => rfl
  | x :: l, r, h => by
    have ih := digs_app l r (fun y hy => h y (by simp [hy]))
    unfold digs at ih ⊢
    rw [List.cons_append, List.takeWhile_cons, h x (by simp), if_pos rfl, ih, List.cons_append]
/-- What may stand behind a number. -/
def noD (r : List Int) : Prop := digs r = []
theorem numV_dec {u : Nat} (hu : u ≤ 999999999) {r : List Int} (hr : noD r) : digs (decL u ++ r) = decL u ∧ numV (decL u ++ r) = ((u : Int), ((decL u).length : Int), true) := by
  have h1 : digs (decL u ++ r) = decL u := by rw [digs_app _ _ (decL_all u), hr, List.append_nil]
  refine ⟨h1, ?_⟩
  unfold numV
  rw [h1, if_pos (decL_len 8 u (by omega)), valN_dec]
theorem noD_tail (b add : Int) : noD (tailV b add) := by
  unfold noD tailV
  split
  · rfl
  · split
    · rename_i h
      rw [dec_neg h]
      unfold digs
      rw [List.takeWhile_cons]
      rfl
    · rw [List.singleton_append]
      unfold digs
      rw [List.takeWhile_cons]
      rfl
theorem steps_one (f : Nat) (x : Int) (hx : x = 43 ∨ x = 45) {u : Nat} (hu : u ≤ 999999999) (g : Bool) : stepsV (f + 2) (x :: decL u) 0 g = ((if x = 45 then -(u : Int) else (u : Int)), (decL u).length + 1, true, true) := by
  obtain ⟨h1, h2⟩ := numV_dec hu (r := []) rfl
  rw [List.append_nil] at h1 h2
  have h3 := decL_pos u
  rw [stepsV, if_pos hx, h2, if_pos rfl, h1, List.drop_length]
  have h4 : stepN x (decL u) = if x = 45 then -(u : Int) else (u : Int) := by
    unfold stepN
    rw [h2]
    have hne : ¬ ((decL u).length : Int) = 0 := by omega
    simp only [if_neg hne]
  rw [h4]
  simp only [stepsV]
  refine Prod.ext ?_ (Prod.ext ?_ rfl)
  · show (0 : Int) + _ = _; omega
  · show 0 + (1 + (decL u).length) = (decL u).length + 1; omega
theorem steps_tail (f : Nat) (b add : Int) (h1 : -999999999 ≤ add) (h2 : add ≤ 999999999) (g : Bool) : stepsV (f + 2) (tailV b add) 0 g = (add, (tailV b add).length, (g || decide (0 < (tailV b add).length)), true) := by
  unfold tailV
  split
  · rename_i h
    rw [h.1]
    simp [stepsV]
  · split
    · rename_i h
      rw [dec_neg h, steps_one f 45 (.inr rfl) (by omega), if_pos rfl]
      refine Prod.ext ?_ (Prod.ext ?_ (Prod.ext ?_ rfl))
      · show -((add.natAbs : Nat) : Int) = add; omega
      · simp
      · simp
    · rename_i h
      rw [dec_pos (by omega), List.singleton_append, steps_one f 43 (.inl rfl) (by omega), if_neg (by decide)]
      refine Prod.ext ?_ (Prod.ext ?_ (Prod.ext ?_ rfl))
      · show ((add.toNat : Nat) : Int) = add; omega
      · simp
      · simp
theorem clos_app (s : Int) (hs : s ≠ 92) (r : List Int) : ∀ text : List Int, clos s (text ++ [s]) = text.length → clos s (text ++ s :: r) = text.length
  | [], _ => by
    show clos s (s :: r) = 0
    cases r with
    | nil => rw [clos, if_neg hs, if_pos rfl]
    | cons y r => rw [clos, if_neg hs, if_pos rfl]
  | [x], h => by
    have h' : clos s (x :: s :: []) = 1 := h
    show clos s (x :: s :: r) = 1
    rw [clos] at h' ⊢
    by_cases h92 : x = 92
    · rw [if_pos h92] at h'; simp [clos] at h'
    · rw [if_neg h92] at h' ⊢
      by_cases hx : x = s
      · rw [if_pos hx] at h'; cases h'
      · rw [if_neg hx] at h' ⊢
        have := clos_app s hs r [] (by show clos s [s] = 0; rw [clos, if_neg hs, if_pos rfl])
        show clos s (s :: r) + 1 = 1
        have e : clos s (s :: r) = 0 := this
        rw [e]
  | x :: y :: l, h => by
    have h' : clos s (x :: y :: (l ++ [s])) = l.length + 2 := h
    show clos s (x :: y :: (l ++ s :: r)) = l.length + 2
    rw [clos] at h' ⊢
    by_cases h92 : x = 92
    · rw [if_pos h92] at h' ⊢
      rw [clos_app s hs r l (by omega)]
    · rw [if_neg h92] at h' ⊢
      by_cases hx : x = s
      · rw [if_pos hx] at h'; cases h'
      · rw [if_neg hx] at h' ⊢
        have h2 := clos_app s hs r (y :: l) (by show clos s (y :: (l ++ [s])) = l.length + 1; omega)
        have h3 : clos s (y :: (l ++ s :: r)) = l.length + 1 := h2
        rw [h3]
/-- A base at the head, and what is added behind it. -/
theorem parse_parts {s hd tl : List Int} {b num name : Int} {text : List Int} {g : Bool} {bb add : Int} (hs : s = hd ++ tl) (hb : baseV s = (b, num, name, text, 0, g, (hd.length : Int), 0)) (ht : tl = tailV bb add) (h1 : -999999999 ≤ add) (h2 : add ≤ 999999999) (hg : g = true ∨ 0 < tl.length) :
    parseV s = (b, num, name, text, add, true, (s.length : Int), 0) := by
  unfold parseV
  rw [hb]
  simp only [if_true]
  rw [Int.toNat_natCast, show s.drop hd.length = tl from by rw [hs, List.drop_left], ht, show fuelA = 2097151 + 2 from rfl, steps_tail _ _ _ h1 h2]
  show (if (true = false) then badA else if add < -999999999 ∨ add > 999999999 then badA else (b, num, name, text, add, (g || decide (0 < (tailV bb add).length)), ((hd.length + (tailV bb add).length : Nat) : Int), 0)) = _
  rw [if_neg (show ¬ (true = false) by decide), if_neg (show ¬ (add < -999999999 ∨ add > 999999999) by omega), ← ht, show (g || decide (0 < tl.length)) = true from by rcases hg with h | h <;> simp [h], hs, List.length_append]
theorem back {b num name add : Int} {text : List Int} {given : Bool} (hs : soundV b num text add given = true) : ∃ (num' name' : Int) (text' : List Int), parseV (headV b num name text ++ tailV b add) = (b, num', name', text', add, true, ((headV b num name text ++ tailV b add).length : Int), 0) ∧ soundV b num' text' add true = true ∧ headV b num' name' text' = headV b num name text ∧ 0 < (headV b num name text ++ tailV b add).length ∧ given = true ∧ text'.length ≤ text.length ∧ -999999999 ≤ add ∧ add ≤ 999999999 := by
  unfold soundV at hs
  by_cases hq : given = true ∧ -999999999 ≤ add ∧ add ≤ 999999999
  · rw [if_pos hq] at hs
    obtain ⟨q1, q2, q3⟩ := hq
    have hsv : ∀ n' t', soundB b n' t' = true → soundV b n' t' add true = true := fun n' t' h => by unfold soundV; rw [if_pos ⟨rfl, q2, q3⟩]; exact h
    unfold soundB at hs
    by_cases h0 : b = 0
    · subst h0
      have ht : 0 < (tailV 0 add).length := by
        unfold tailV
        rw [if_neg (fun h => h.2 rfl)]
        split
        · rename_i h; rw [dec_neg h]; simp
        · simp
      refine ⟨0, 0, [], parse_parts (hd := []) (g := false) rfl ?_ rfl q2 q3 (.inr ht), hsv _ _ rfl, rfl, ?_, q1, Nat.zero_le _, q2, q3⟩
      · show baseV (tailV 0 add) = _
        unfold tailV
        rw [if_neg (fun h => h.2 rfl)]
        split
        · rename_i h; rw [dec_neg h]; rfl
        · rfl
      · rw [List.length_append]; omega
    by_cases h46 : b = 46
    · subst h46
      exact ⟨0, 0, [], parse_parts (hd := [46]) (g := true) rfl rfl rfl q2 q3 (.inl rfl), hsv _ _ rfl, rfl, by simp [headV], q1, Nat.zero_le _, q2, q3⟩
    by_cases h36 : b = 36
    · subst h36
      exact ⟨0, 0, [], parse_parts (hd := [36]) (g := true) rfl rfl rfl q2 q3 (.inl rfl), hsv _ _ rfl, rfl, by simp [headV], q1, Nat.zero_le _, q2, q3⟩
    by_cases h39 : b = 39
    · subst h39
      exact ⟨0, name, [], parse_parts (hd := [39, name]) (g := true) rfl rfl rfl q2 q3 (.inl rfl), hsv _ _ rfl, rfl, by simp [headV], q1, Nat.zero_le _, q2, q3⟩
    rw [if_neg (by omega)] at hs
    by_cases h110 : b = 110
    · subst h110
      rw [if_pos rfl] at hs
      have hn := of_decide_eq_true hs
      have e : headV 110 num name text = decL num.toNat := by show dec num = _; exact dec_pos hn.1
      obtain ⟨d1, d2⟩ := numV_dec (u := num.toNat) (by omega) (noD_tail 110 add)
      have hp := decL_pos num.toNat
      refine ⟨num, 0, [], parse_parts (hd := decL num.toNat) (g := true) (by rw [e]) ?_ rfl q2 q3 (.inl rfl), hsv _ _ hs, rfl, by rw [List.length_append, e]; omega, q1, Nat.zero_le _, q2, q3⟩
      rw [e]
      cases hl : decL num.toNat ++ tailV 110 add with
      | nil => rw [List.append_eq_nil_iff] at hl; rw [hl.1] at hp; cases hp
      | cons c rest =>
        have hc : isD c = true := by
          cases hl2 : decL num.toNat with
          | nil => rw [hl2] at hp; cases hp
          | cons c2 r2 =>
            rw [hl2, List.cons_append] at hl
            injection hl with e1 e2
            rw [← e1]
            exact decL_all num.toNat c2 (by rw [hl2]; simp)
        show baseC c rest = _
        unfold baseC
        rw [if_pos hc, ← hl, d2, if_pos rfl]
        simp only
        rw [show ((num.toNat : Nat) : Int) = num from by omega]
    rw [if_neg h110] at hs
    by_cases hsl : b = 47 ∨ b = 63
    · rw [if_pos hsl] at hs
      have hc := of_decide_eq_true hs
      have e : headV b num name text = [b] ++ text ++ [b] := by unfold headV; rw [if_neg h110, if_neg h39, if_pos hsl]
      have hcl := clos_app b (by omega) (tailV b add) text hc
      refine ⟨0, 0, text, parse_parts (hd := [b] ++ text ++ [b]) (g := true) (by rw [e]) ?_ rfl q2 q3 (.inl rfl), hsv _ _ (by unfold soundB; rw [if_neg (by omega), if_neg h110, if_pos hsl]; exact hs), ?_, by rw [e]; simp, q1, Nat.le_refl _, q2, q3⟩
      · rw [e]
        show baseV (b :: (text ++ [b] ++ tailV b add)) = _
        rw [show text ++ [b] ++ tailV b add = text ++ b :: tailV b add from by simp]
        show baseC b (text ++ b :: tailV b add) = _
        unfold baseC
        rw [if_neg (show ¬ isD b = true from by rcases hsl with h | h <;> rw [h] <;> decide), if_neg (by omega), if_neg h39, if_pos hsl, hcl, if_neg (fun h => by have := h.1; rw [List.length_append, List.length_cons] at this; omega), List.take_left]
        refine Prod.ext rfl (Prod.ext rfl (Prod.ext rfl (Prod.ext rfl (Prod.ext rfl (Prod.ext rfl (Prod.ext ?_ rfl))))))
        simp only [List.length_append, List.length_cons, List.length_nil]
        omega
      · unfold headV; simp only [if_neg h110, if_neg h39, if_pos hsl]
    · rw [if_neg hsl] at hs
      cases hs
  · rw [if_neg hq] at hs
    cases hs
theorem sound_num {b num add : Int} {text : List Int} {given : Bool} (hs : soundV b num text add given = true) : b = 110 → 0 ≤ num ∧ num ≤ 999999999 := by
  rintro rfl
  unfold soundV at hs
  by_cases hq : given = true ∧ -999999999 ≤ add ∧ add ≤ 999999999
  · rw [if_pos hq] at hs
    exact of_decide_eq_true hs
  · rw [if_neg hq] at hs
    cases hs
theorem head_len {b num name : Int} {text : List Int} (hn : b = 110 → 0 ≤ num ∧ num ≤ 999999999) : (headV b num name text).length ≤ text.length + 21 := by
  unfold headV
  split
  · rename_i h
    have h1 := dec_len (i := num) (by have := hn h; omega) (by have := hn h; omega)
    omega
  · split
    · simp only [List.length_cons, List.length_nil]; omega
    · split
      · simp only [List.length_append, List.length_cons, List.length_nil]; omega
      · split
        · simp only [List.length_cons, List.length_nil]; omega
        · exact Nat.zero_le _
theorem tail_len {b add : Int} (h : -999999999 ≤ add ∧ add ≤ 999999999) : (tailV b add).length ≤ 22 := by
  have h1 := dec_len (i := add) (by omega) (by omega)
  unfold tailV
  split
  · exact Nat.zero_le _
  · split
    · omega
    · rw [List.length_append, List.length_singleton]; omega
end Go.Proofs.YtdhdngoeaneanaaDoor.AD
end
section
namespace Go.Proofs.YtdhdngoeaneanaaDoor.AD
open Go.RowKit Go.Proofs.YtdhdngoeaneanaaDoorW.PrintWords Go.Proofs.YtdhdngoeaneanaaDoorW.PrintMore Go.Proofs.YtdhdngoeaneanaaDoor.X Go.Proofs.YtdhdngoeaneanaaDoor.XL Go.Proofs.YtdhdngoeaneanaaDoor.XO Go.Proofs.YtdhdngoeaneanaaDoor.PT
set_option linter.unusedVariables false
set_option linter.unusedSimpArgs false
theorem sound_calls {base num name add : Int} {text : List Int} {given : Bool} (hl : text.length ≤ 1048576) : ∀ (W : World) (A : Option Addr) (c : Nat), (Kd.int .u8).C W A text.length text → text.length ≤ c → Calls Tryd.prog 28 #[.agg #[.int .u8 base, .int .i64 num, .int .u8 name, .slice A text.length c, .int .i64 add, .bool given]] W fun e w' => e = .returned (.bool (soundV base num text add given)) ∧ Below W.heap.size W w' := by
  obtain ⟨k, h⟩ := sound_ev base num name text add given hl
  exact fun W A c hC hc => address_sound.calls k base num name A c text add given _ W hC hc (h k (Nat.le_refl _))
set_option maxHeartbeats 2000000 in
set_option maxRecDepth 100000 in
theorem spell_no {w : World} {A : Option Addr} {c : Nat} {base num name add : Int} {text : List Int} {given : Bool} (hr : Kd.C (Kd.int .u8) w A text.length text) (hc : text.length ≤ c) (hl : text.length ≤ 1048576) (hs : soundV base num text add given = false) :
    Calls Tryd.prog 15 #[.agg #[.int .u8 base, .int .i64 num, .int .u8 name, .slice A text.length c, .int .i64 add, .bool given]] w fun e w' => e = .returned (.slice none 0 0) ∧ Below w.heap.size w w' := by
  have h := sound_calls (base := base) (num := num) (name := name) (add := add) (text := text) (given := given) hl
  rw [hs] at h
  have HB := Aside0.mk (below_alloc (Below.refl w.heap.size w) (.cells #[.int .u8 base, .int .i64 num, .int .u8 name, .slice A text.length c, .int .i64 add, .bool given] 25))
  have HS := Aside0.mk (h _ A c (Kd.C_below hr HB.out) hc)
  clear h hr hs
  go_enter Tryd.func15, Tryd.ntmps15
  go_wp2_with (go_at_call 28; (with_reducible refine HS.out.mono ?_); rintro e w1 ⟨rfl, hx⟩; have H1 := Aside0.mk (below_step HB.out hx); clear hx)
  exact bodyPost_ret (v := .slice none 0 0) (by simp [results, Tryd.results15, go_sem]) rfl ⟨rfl, H1.out⟩
theorem spell_yes {w : World} {A : Option Addr} {c : Nat} {base num name add : Int} {text : List Int} {given : Bool} (hr : Kd.C (Kd.int .u8) w A text.length text) (hc : text.length ≤ c) (hl : text.length ≤ 1048576) (htab : Tab w) (hs : soundV base num text add given = true) :
    Calls Tryd.prog 15 #[.agg #[.int .u8 base, .int .i64 num, .int .u8 name, .slice A text.length c, .int .i64 add, .bool given]] w fun e w' => ∃ v, e = .returned v ∧ (Kd.int .u8).R 5 w' w.heap.size (fun _ => True) v (headV base num name text ++ tailV base add) ∧ Below w.heap.size w w' := by
  have h := sound_calls (base := base) (num := num) (name := name) (add := add) (text := text) (given := given) hl
  rw [hs] at h
  have HS := fun (W : World) (hW : Below w.heap.size w W) => h W A c (Kd.C_below hr hW) hc
  unfold soundV at hs
  by_cases hq : given = true ∧ -999999999 ≤ add ∧ add ≤ 999999999
  · rw [if_pos hq] at hs
    unfold soundB at hs
    by_cases h0 : base = 0
    · subst h0; exact spell_0 hr hl htab hq.2.1 hq.2.2 HS
    by_cases h46 : base = 46
    · subst h46; exact spell_46 hr hl htab hq.2.1 hq.2.2 HS
    by_cases h36 : base = 36
    · subst h36; exact spell_36 hr hl htab hq.2.1 hq.2.2 HS
    by_cases h39 : base = 39
    · subst h39; exact spell_39 hr hl htab hq.2.1 hq.2.2 HS
    rw [if_neg (by omega)] at hs
    by_cases h110 : base = 110
    · subst h110
      rw [if_pos rfl] at hs
      have hn := of_decide_eq_true hs
      exact spell_110 hr hl htab hq.2.1 hq.2.2 (by omega) (by omega) HS
    rw [if_neg h110] at hs
    by_cases h47 : base = 47
    · subst h47; exact spell_47 hr hl htab hq.2.1 hq.2.2 HS
    by_cases h63 : base = 63
    · subst h63; exact spell_63 hr hl htab hq.2.1 hq.2.2 HS
    rw [if_neg (by omega)] at hs
    cases hs
  · rw [if_neg hq] at hs
    cases hs
end Go.Proofs.YtdhdngoeaneanaaDoor.AD
end
section
namespace Go.Proofs.YtdhdngoeaneanaaDoor.AD
open Go.RowKit Go.Proofs.YtdhdngoeaneanaaDoorW.PrintWords Go.Proofs.YtdhdngoeaneanaaDoorW.PrintMore Go.Proofs.YtdhdngoeaneanaaDoor.X Go.Proofs.YtdhdngoeaneanaaDoor.XL Go.Proofs.YtdhdngoeaneanaaDoor.XO Go.Proofs.YtdhdngoeaneanaaDoor.PT
set_option linter.unusedVariables false
set_option linter.unusedSimpArgs false
theorem rdig_ev : ∀ u : Nat, u ≤ 999999999 → Ev (fun k => quoinref23_digits.f k (u : Int)) (decL u) := by
  intro u
  induction u using Nat.strongRecOn with
  | _ u ih =>
    intro hu
    by_cases h : u < 10
    · refine Ev.step (fun k => quoinref23_digits.f.eq_2 ..) (Ev.pos (by omega) ?_)
      refine Ev.eq (Ev.now _) ?_
      rw [decL_small h, wrap64_id (n := 48 + (u : Int)) (by omega) (by omega), show (48 + (u : Int)) % 256 = 48 + (u : Int) from by omega]
    · have h1 := ih (u / 10) (by omega) (by omega)
      have h2 := decL_len 8 (u / 10) (by omega)
      have e1 : wrap64 (Int.tdiv (u : Int) 10) = ((u / 10 : Nat) : Int) := by rw [Int.tdiv_eq_ediv_of_nonneg (by omega), wrap64_id (by omega) (by omega)]; omega
      have e2 : (wrap64 (48 + (Int.tmod (u : Int) 10))) % 256 = 48 + ((u % 10 : Nat) : Int) := by rw [Int.tmod_eq_emod_of_nonneg (by omega), wrap64_id (by omega) (by omega)]; omega
      refine Ev.step (fun k => quoinref23_digits.f.eq_2 ..) (Ev.neg (by omega) ?_)
      rw [e1, e2]
      refine Ev.bind h1 (Ev.pos (by omega) (Ev.eq (Ev.now _) ?_))
      rw [decL_big h]
def wholeP (s : Int) : List Int → Bool
  | [] => true
  | [x] => if x = s then false else if x = 92 then false else true
  | x :: y :: l => if x = s then false else if x = 92 then wholeP s l else wholeP s (y :: l)
theorem whole_clos (s : Int) (hs : s ≠ 92) : ∀ l : List Int, wholeP s l = decide (clos s (l ++ [s]) = l.length)
  | [] => by
    rw [show clos s ([] ++ [s]) = 0 from by show clos s [s] = 0; rw [clos, if_neg hs, if_pos rfl]]
    rfl
  | [x] => by
    show (if x = s then false else if x = 92 then false else true) = decide (clos s (x :: s :: []) = 1)
    rw [clos]
    by_cases h92 : x = 92
    · have hx : ¬ x = s := fun h => hs (h.symm.trans h92)
      simp only [if_neg hx, if_pos h92]
      simp [clos]
    · by_cases hx : x = s
      · simp only [if_pos hx, if_neg h92]
        rfl
      · simp only [if_neg hx, if_neg h92, show clos s [s] = 0 from by rw [clos, if_neg hs, if_pos rfl]]
        rfl
  | x :: y :: l => by
    show (if x = s then false else if x = 92 then wholeP s l else wholeP s (y :: l)) = decide (clos s (x :: y :: (l ++ [s])) = l.length + 2)
    rw [clos]
    by_cases h92 : x = 92
    · have hx : ¬ x = s := fun h => hs (h.symm.trans h92)
      simp only [if_neg hx, if_pos h92]
      rw [whole_clos s hs l]
      exact decide_eq_decide.2 (by omega)
    · by_cases hx : x = s
      · simp only [if_pos hx, if_neg h92]
        exact (decide_eq_false (by omega)).symm
      · simp only [if_neg hx, if_neg h92]
        rw [whole_clos s hs (y :: l)]
        exact decide_eq_decide.2 (by show clos s (y :: (l ++ [s])) = l.length + 1 ↔ _; omega)
theorem whole_l0 (t : List Int) (s : Int) (hs : s ≠ 92) (hl : t.length ≤ 1099511627776) : ∀ (suf pre : List Int), t = pre ++ suf → Ev (fun k => quoinref23_whole.l0 k t s (pre.length : Int)) (wholeP s suf)
  | [], pre, ht => Ev.step (fun k => quoinref23_whole.l0.eq_2 ..) (Ev.neg (by rw [ht]; simp) (Ev.now _))
  | [x], pre, ht => by
    have hlen : t.length = pre.length + 1 := by rw [ht]; simp
    have hx : rd t (pre.length : Int) = x := by rw [ht]; exact rd_mid pre [] x
    refine Ev.step (fun k => quoinref23_whole.l0.eq_2 ..) (Ev.pos (by omega) (Ev.pos (by omega) ?_))
    rw [hx]
    have hbad : x = s ∨ x = 92 → Ev (fun k => quoinref23_whole.j1 k t s (pre.length : Int) true) (wholeP s [x]) := fun h =>
      Ev.step (fun k => quoinref23_whole.j1.eq_2 ..) (Ev.eq (Ev.pos rfl (Ev.now _)) (by
        show false = if x = s then false else if x = 92 then false else true
        rcases h with h | h
        · rw [if_pos h]
        · rw [if_neg (show ¬ x = s from fun e => hs (e.symm.trans h)), if_pos h]))
    by_cases h1 : x = s
    · exact Ev.pos h1 (hbad (.inl h1))
    · refine Ev.neg h1 ?_
      by_cases h92 : x = 92
      · refine Ev.pos h92 ?_
        rw [show (wrap64 ((pre.length : Int) + 1) == (t.length : Int)) = true from by rw [wrap64_id (by omega) (by omega), beq_iff_eq]; omega]
        exact hbad (.inr h92)
      · refine Ev.neg h92 (Ev.step (fun k => quoinref23_whole.j1.eq_2 ..) (Ev.neg (by decide) (Ev.pos (by omega) (Ev.pos (by omega) ?_))))
        rw [hx]
        refine Ev.neg h92 ?_
        rw [wrap_len pre x (by omega)]
        refine Ev.eq (whole_l0 t s hs hl [] (pre ++ [x]) (by rw [ht]; simp)) ?_
        show true = if x = s then false else if x = 92 then false else true
        rw [if_neg h1, if_neg h92]
  | x :: y :: l, pre, ht => by
    have hlen : t.length = pre.length + l.length + 2 := by rw [ht]; simp; omega
    have hx : rd t (pre.length : Int) = x := by rw [ht]; exact rd_mid pre (y :: l) x
    refine Ev.step (fun k => quoinref23_whole.l0.eq_2 ..) (Ev.pos (by omega) (Ev.pos (by omega) ?_))
    rw [hx]
    by_cases h1 : x = s
    · exact Ev.pos h1 (Ev.step (fun k => quoinref23_whole.j1.eq_2 ..) (Ev.eq (Ev.pos rfl (Ev.now _)) (by
        show false = if x = s then false else if x = 92 then wholeP s l else wholeP s (y :: l)
        rw [if_pos h1])))
    · refine Ev.neg h1 ?_
      by_cases h92 : x = 92
      · refine Ev.pos h92 ?_
        rw [show (wrap64 ((pre.length : Int) + 1) == (t.length : Int)) = false from by rw [wrap64_id (by omega) (by omega), beq_eq_false_iff_ne]; omega]
        refine Ev.step (fun k => quoinref23_whole.j1.eq_2 ..) (Ev.neg (by decide) (Ev.pos (by omega) (Ev.pos (by omega) ?_)))
        rw [hx]
        refine Ev.pos h92 ?_
        have h := whole_l0 t s hs hl l (pre ++ [x, y]) (by rw [ht]; simp)
        rw [wrap64_id (n := (pre.length : Int) + 1) (by omega) (by omega), wrap64_id (n := (pre.length : Int) + 1 + 1) (by omega) (by omega)]
        rw [show ((pre ++ [x, y]).length : Int) = (pre.length : Int) + 1 + 1 from by rw [List.length_append]; simp; omega] at h
        refine Ev.eq h ?_
        show wholeP s l = if x = s then false else if x = 92 then wholeP s l else wholeP s (y :: l)
        rw [if_neg h1, if_pos h92]
      · refine Ev.neg h92 (Ev.step (fun k => quoinref23_whole.j1.eq_2 ..) (Ev.neg (by decide) (Ev.pos (by omega) (Ev.pos (by omega) ?_))))
        rw [hx]
        refine Ev.neg h92 ?_
        rw [wrap_len pre x (by omega)]
        refine Ev.eq (whole_l0 t s hs hl (y :: l) (pre ++ [x]) (by rw [ht]; simp)) ?_
        show wholeP s (y :: l) = if x = s then false else if x = 92 then wholeP s l else wholeP s (y :: l)
        rw [if_neg h1, if_neg h92]
theorem whole_ev (t : List Int) (s : Int) (hs : s ≠ 92) (hl : t.length ≤ 1099511627776) : Ev (fun k => quoinref23_whole.f k t s) (decide (clos s (t ++ [s]) = t.length)) := by
  have h := whole_l0 t s hs hl t [] rfl
  rw [whole_clos s hs] at h
  show Ev (fun k => quoinref23_whole.l0 k t s 0) _
  simpa using h
def spellV (b num name : Int) (text : List Int) (add : Int) (given : Bool) : List Int := if soundV b num text add given = true then headV b num name text ++ tailV b add else []
theorem rtail_ev (hd : List Int) (hh : hd.length ≤ 2097152) (b num name : Int) (text : List Int) (add : Int) (given : Bool) (h1 : -999999999 ≤ add) (h2 : add ≤ 999999999) : Ev (fun k => quoinref23_Spell.j3 k hd b num name text add given) (hd ++ tailV b add) := by
  have hgo : ¬ (add = 0 ∧ b ≠ 0) → Ev (fun k => quoinref23_Spell.j4 k hd false b num name text add given) (hd ++ tailV b add) := fun hz => by
    unfold tailV
    rw [if_neg hz]
    refine Ev.step (fun k => quoinref23_Spell.j4.eq_2 ..) (Ev.neg (by decide) ?_)
    by_cases hn : add < 0
    · rw [if_pos hn, dec_neg hn]
      have hd2 := rdig_ev add.natAbs (by omega)
      have hl2 := decL_len 8 add.natAbs (by omega)
      rw [show ((add.natAbs : Nat) : Int) = -add from by omega] at hd2
      refine Ev.pos hn (Ev.pos (by omega) (Ev.cbind rfl ?_))
      rw [wrap64_id (n := -add) (by omega) (by omega)]
      exact Ev.bind hd2 (Ev.pos (by rw [List.length_append, List.length_singleton]; omega) (Ev.eq (Ev.now _) (by simp)))
    · rw [if_neg hn, dec_pos (by omega)]
      have hd2 := rdig_ev add.toNat (by omega)
      have hl2 := decL_len 8 add.toNat (by omega)
      rw [show ((add.toNat : Nat) : Int) = add from by omega] at hd2
      exact Ev.neg hn (Ev.pos (by omega) (Ev.cbind rfl (Ev.bind hd2 (Ev.pos (by rw [List.length_append, List.length_singleton]; omega) (Ev.eq (Ev.now _) (by simp))))))
  refine Ev.step (fun k => quoinref23_Spell.j3.eq_2 ..) ?_
  by_cases h0 : add = 0
  · refine Ev.pos h0 ?_
    by_cases hb : b = 0
    · rw [show (b != 0) = false from by rw [hb]; rfl]
      exact hgo (fun h => h.2 hb)
    · rw [show (b != 0) = true from bne_iff_ne.2 hb]
      refine Ev.step (fun k => quoinref23_Spell.j4.eq_2 ..) (Ev.eq (Ev.pos rfl (Ev.now _)) ?_)
      unfold tailV
      rw [if_pos ⟨h0, hb⟩, List.append_nil]
  · exact Ev.neg h0 (hgo (fun h => h0 h.1))
theorem rspell_ev (b num name : Int) (text : List Int) (add : Int) (given : Bool) (hl : text.length ≤ 1048576) : Ev (fun k => quoinref23_Spell.f k b num name text add given) (spellV b num name text add given) := by
  have hno : ∀ (h : ¬ (given = true ∧ -999999999 ≤ add ∧ add ≤ 999999999)), Ev (fun k => quoinref23_Spell.j0 k true b num name text add given) (spellV b num name text add given) := fun h =>
    Ev.step (fun k => quoinref23_Spell.j0.eq_2 ..) (Ev.eq (Ev.pos rfl (Ev.now _)) (by unfold spellV soundV; rw [if_neg h]; rfl))
  have hyes : given = true ∧ -999999999 ≤ add ∧ add ≤ 999999999 → Ev (fun k => quoinref23_Spell.j0 k false b num name text add given) (spellV b num name text add given) := fun hq => by
    have hsv : spellV b num name text add given = if soundB b num text = true then headV b num name text ++ tailV b add else [] := by unfold spellV soundV; rw [if_pos hq]
    have hok : ∀ hd : List Int, hd.length ≤ 2097152 → soundB b num text = true → headV b num name text = hd → Ev (fun k => quoinref23_Spell.j3 k hd b num name text add given) (spellV b num name text add given) := fun hd hh h1 h2 => by
      rw [hsv, if_pos h1, h2]
      exact rtail_ev hd hh b num name text add given hq.2.1 hq.2.2
    have hbad : soundB b num text = false → ([] : List Int) = spellV b num name text add given := fun h => by rw [hsv, h]; rfl
    refine Ev.step (fun k => quoinref23_Spell.j0.eq_2 ..) (Ev.neg (by decide) ?_)
    by_cases h110 : b = 110
    · have hsb : soundB b num text = decide (0 ≤ num ∧ num ≤ 999999999) := by unfold soundB; rw [if_neg (by omega), if_pos h110]
      refine Ev.pos h110 ?_
      by_cases hn1 : num < 0
      · exact Ev.eq (Ev.pos hn1 (Ev.now _)) (hbad (by rw [hsb]; exact decide_eq_false (by omega)))
      · by_cases hn2 : num > 999999999
        · exact Ev.eq (Ev.neg hn1 (Ev.pos hn2 (Ev.now _))) (hbad (by rw [hsb]; exact decide_eq_false (by omega)))
        · have hd := rdig_ev num.toNat (by omega)
          have hl2 := decL_len 8 num.toNat (by omega)
          rw [show ((num.toNat : Nat) : Int) = num from by omega] at hd
          exact Ev.neg hn1 (Ev.neg hn2 (Ev.bind hd (hok _ (by omega) (by rw [hsb]; exact decide_eq_true (by omega)) (by unfold headV; rw [if_pos h110, dec_pos (by omega)]))))
    · refine Ev.neg h110 ?_
      have hj : ∀ z : Bool, z = decide (b = 46 ∨ b = 36) → Ev (fun k => quoinref23_Spell.j1 k [] b z b num name text add given) (spellV b num name text add given) := by
        rintro z rfl
        by_cases h1 : b = 46 ∨ b = 36
        · rw [decide_eq_true h1]
          refine Ev.step (fun k => quoinref23_Spell.j1.eq_2 ..) (Ev.pos rfl (Ev.pos (by simp) ?_))
          exact hok _ (by simp) (by unfold soundB; rw [if_pos (by omega)]) (by unfold headV; rw [if_neg h110, if_neg (by omega), if_neg (by omega), if_pos h1]; rfl)
        · rw [decide_eq_false h1]
          refine Ev.step (fun k => quoinref23_Spell.j1.eq_2 ..) (Ev.neg (by decide) ?_)
          by_cases h39 : b = 39
          · refine Ev.pos h39 (Ev.cbind rfl (Ev.pos (by simp) ?_))
            exact hok _ (by simp) (by unfold soundB; rw [if_pos (by omega)]) (by unfold headV; rw [if_neg h110, if_pos h39, h39]; rfl)
          · refine Ev.neg h39 ?_
            have hj2 : ∀ z : Bool, z = decide (b = 47 ∨ b = 63) → Ev (fun k => quoinref23_Spell.j2 k [] b z b num name text add given) (spellV b num name text add given) := by
              rintro z rfl
              by_cases h2 : b = 47 ∨ b = 63
              · have hsb : soundB b num text = decide (clos b (text ++ [b]) = text.length) := by unfold soundB; rw [if_neg (by omega), if_neg h110, if_pos h2]
                rw [decide_eq_true h2]
                refine Ev.step (fun k => quoinref23_Spell.j2.eq_2 ..) (Ev.pos rfl (Ev.bind (whole_ev text b (by omega) (by omega)) ?_))
                rw [← hsb]
                cases hw : soundB b num text with
                | true =>
                  refine Ev.pos rfl (Ev.pos (by simp) (Ev.cbind rfl (Ev.pos (by simp; omega) (Ev.cbind rfl (Ev.pos (by simp; omega) ?_)))))
                  exact hok _ (by simp; omega) hw (by unfold headV; rw [if_neg h110, if_neg h39, if_pos h2]; simp)
                | false => exact Ev.eq (Ev.neg (by decide) (Ev.now _)) (hbad hw)
              · rw [decide_eq_false h2]
                refine Ev.step (fun k => quoinref23_Spell.j2.eq_2 ..) (Ev.neg (by decide) ?_)
                by_cases h0 : b = 0
                · exact Ev.pos h0 (hok _ (by simp) (by unfold soundB; rw [if_pos (by omega)]) (by unfold headV; rw [if_neg h110, if_neg h39, if_neg h2, if_neg h1]))
                · exact Ev.eq (Ev.neg h0 (Ev.now _)) (hbad (by unfold soundB; rw [if_neg (by omega), if_neg h110, if_neg h2]))
            by_cases h47 : b = 47
            · exact Ev.pos h47 (hj2 _ (by rw [Bool.eq_iff_iff]; simp [h47]))
            · exact Ev.neg h47 (hj2 _ (by rw [Bool.eq_iff_iff]; simp [h47]))
      by_cases h46 : b = 46
      · exact Ev.pos h46 (hj _ (by rw [Bool.eq_iff_iff]; simp [h46]))
      · exact Ev.neg h46 (hj _ (by rw [Bool.eq_iff_iff]; simp [h46]))
  by_cases hg : given = true
  · refine Ev.pos hg ?_
    by_cases h1 : add < -999999999
    · exact Ev.pos h1 (hno (fun h => by omega))
    · refine Ev.neg h1 ?_
      by_cases h2 : add > 999999999
      · rw [decide_eq_true h2]
        exact hno (fun h => by omega)
      · rw [decide_eq_false h2]
        exact hyes ⟨hg, by omega, by omega⟩
  · exact Ev.neg hg (hno (fun h => hg h.1))
end Go.Proofs.YtdhdngoeaneanaaDoor.AD
end
