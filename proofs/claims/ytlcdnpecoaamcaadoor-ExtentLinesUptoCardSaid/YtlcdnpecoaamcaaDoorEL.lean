/-
  ExtentLines, plainly: whole lines, out and in.
  Conditions: the text has at most 1048576 bytes.
-/
import Derived.Test.YtlcdnpecoaamcaaDoorTK
import Derived.Test.YtlcdnpecoaamcaaDoorLN
import Derived.Test.YtlcdnpecoaamcaaDoorX16
import Derived.Test.YtlcdnpecoaamcaaDoorX4
namespace Go.Proofs.YtlcdnpecoaamcaaDoor.EL
open Go.RowKit Go.Proofs.YtlcdnpecoaamcaaDoorW.PrintWords Go.Proofs.YtlcdnpecoaamcaaDoorW.PrintMore Go.Proofs.YtlcdnpecoaamcaaDoor.X Go.Proofs.YtlcdnpecoaamcaaDoor.XL Go.Proofs.YtlcdnpecoaamcaaDoor.XO Go.Proofs.YtlcdnpecoaamcaaDoor.TK Go.Proofs.YtlcdnpecoaamcaaDoor.LN
set_option linter.unusedVariables false
set_option linter.unusedSimpArgs false
/-- Lines, with line ends between. -/
def jn : List (List Int) → List Int
  | [] => []
  | [r] => r
  | r :: s :: rs => r ++ 10 :: jn (s :: rs)
/-- Lines, each with its line end. -/
def lnN (rs : List (List Int)) : List Int := rs.flatMap (fun r => r ++ [10])
theorem lnN_app (A B : List (List Int)) : lnN (A ++ B) = lnN A ++ lnN B := by simp [lnN]
theorem lnN_cons (r : List Int) (B : List (List Int)) : lnN (r :: B) = r ++ 10 :: lnN B := by simp [lnN]
theorem jn_app (A : List (List Int)) {B : List (List Int)} (h : B ≠ []) : jn (A ++ B) = lnN A ++ jn B := by
  induction A with
  | nil => rfl
  | cons r A ih =>
    obtain ⟨s, rs, e⟩ : ∃ s rs, A ++ B = s :: rs := by
      cases A with
      | nil => cases B with
        | nil => exact absurd rfl h
        | cons b B => exact ⟨b, B, rfl⟩
      | cons a A => exact ⟨a, A ++ B, rfl⟩
    rw [List.cons_append, e]
    show r ++ 10 :: jn (s :: rs) = _
    rw [← e, ih, lnN_cons, List.append_assoc, List.cons_append]
theorem lnN_jn {A : List (List Int)} (h : A ≠ []) : lnN A = jn A ++ [10] := by
  induction A with
  | nil => exact absurd rfl h
  | cons r A ih =>
    cases A with
    | nil => simp [lnN, jn]
    | cons s A =>
      rw [lnN_cons, ih (by simp)]
      show _ = (r ++ 10 :: jn (s :: A)) ++ [10]
      simp
theorem jn_snoc (B : List (List Int)) (r : List Int) : jn (B ++ [r]) = if B.length = 0 then r else jn B ++ 10 :: r := by
  cases B with
  | nil => rfl
  | cons b B =>
    rw [jn_app (b :: B) (by simp), lnN_jn (by simp), if_neg (by simp)]
    simp [jn]
theorem jn_split (t : List Int) : jn (splitR t) = t := by
  induction t with
  | nil => rfl
  | cons x t ih =>
    unfold splitR
    by_cases h : x = 10
    · rw [if_pos h]
      cases e : splitR t with
      | nil => exact absurd e (splitR_ne t)
      | cons p r =>
        rw [e] at ih
        show [] ++ 10 :: jn (p :: r) = _
        rw [ih, h]
        rfl
    · rw [if_neg h]
      cases e : splitR t with
      | nil => exact absurd e (splitR_ne t)
      | cons p r =>
        rw [e] at ih
        cases r with
        | nil => show x :: p = _; rw [← ih]; rfl
        | cons q r => show (x :: p) ++ 10 :: jn (q :: r) = _; rw [← ih]; rfl
theorem split_ten (t : List Int) : ∀ l ∈ splitR t, ∀ x ∈ l, x ≠ 10 := by
  induction t with
  | nil => intro l hl; simp [splitR] at hl; subst hl; intro x hx; cases hx
  | cons y t ih =>
    intro l hl
    unfold splitR at hl
    by_cases hy : y = 10
    · rw [if_pos hy] at hl
      rcases List.mem_cons.1 hl with rfl | h
      · intro x hx; cases hx
      · exact ih l h
    · rw [if_neg hy] at hl
      cases e : splitR t with
      | nil => exact absurd e (splitR_ne t)
      | cons p r =>
        rw [e] at hl
        rcases List.mem_cons.1 hl with rfl | h
        · intro x hx
          rcases List.mem_cons.1 hx with rfl | hx
          · exact hy
          · exact ih p (by rw [e]; simp) x hx
        · exact ih l (by rw [e]; simp [h])
theorem rd_last (x : List Int) (b : Int) : rd (x ++ [b]) (((x ++ [b]).length : Int) - 1) = b := by
  unfold rd
  rw [List.length_append, List.length_singleton, show (((x.length + 1 : Nat) : Int) - 1).toNat = x.length from by omega, List.getD_eq_getElem?_getD, List.getElem?_append_right (Nat.le_refl _), Nat.sub_self]
  rfl
/-- What is told of whole lines that have others behind them. -/
theorem close_lines {M : List (List Int)} (h : M ≠ []) : closeV true false (lnN M) = lnN M := by
  refine close_off ?_
  rintro ⟨_, h1 | h1 | h1⟩
  · cases h1
  · rw [lnN_jn h] at h1; simp at h1; omega
  · rw [lnN_jn h] at h1; exact h1 (rd_last _ _)
/-- The last line, where nothing can tell it from those ahead of it. -/
def lastE (M : List (List Int)) : Bool := decide (1 < M.length) && (M.getLastD []).isEmpty
theorem close_all {M : List (List Int)} (h : M ≠ []) (h10 : ∀ l ∈ M, ∀ x ∈ l, x ≠ 10) : closeV true false (jn M) = lnN (if lastE M = true then M.dropLast else M) := by
  obtain ⟨D, z, rfl⟩ : ∃ D z, M = D ++ [z] := ⟨M.dropLast, M.getLast h, (List.dropLast_concat_getLast h).symm⟩
  have hz : (D ++ [z]).getLastD [] = z := by simp [List.getLastD_eq_getLast?]
  have hj : jn (D ++ [z]) = lnN D ++ z := by rw [jn_app D (by simp)]; rfl
  by_cases hE : lastE (D ++ [z]) = true
  · rw [if_pos hE, List.dropLast_concat]
    unfold lastE at hE
    rw [Bool.and_eq_true, hz] at hE
    have h1 : 1 < (D ++ [z]).length := of_decide_eq_true hE.1
    have h2 : z = [] := by simpa using hE.2
    subst h2
    rw [hj, List.append_nil]
    exact close_lines (by intro h3; subst h3; simp at h1)
  · rw [if_neg hE]
    rw [lnN_jn h]
    refine close_on ⟨rfl, .inr ?_⟩
    cases hzz : z with
    | nil =>
      subst hzz
      have hD : D = [] := by
        cases D with
        | nil => rfl
        | cons d D =>
          exfalso
          apply hE
          unfold lastE
          rw [hz]
          simp
      subst hD
      exact .inl (by simp [jn])
    | cons y ys =>
      right
      have hne : z ≠ [] := by rw [hzz]; simp
      rw [← hzz, hj]
      obtain ⟨z0, zl, e⟩ : ∃ z0 zl, z = z0 ++ [zl] := ⟨z.dropLast, z.getLast hne, (List.dropLast_concat_getLast hne).symm⟩
      rw [e, ← List.append_assoc, rd_last]
      exact h10 z (by simp) zl (by rw [e]; simp)
theorem split_run : ∀ l : List Int, splitR l = l.take (run10 l) :: (if run10 l < l.length then splitR (l.drop (run10 l + 1)) else [])
  | [] => by simp [splitR, run10]
  | x :: l => by
    have ih := split_run l
    conv => lhs; unfold splitR
    by_cases h : x = 10
    · rw [if_pos h]
      simp [run10, h]
    · rw [if_neg h, ih]
      simp only [run10, if_neg h, List.take_succ_cons, List.length_cons, List.drop_succ_cons]
      by_cases h2 : run10 l < l.length
      · rw [if_pos h2, if_pos (by omega)]
      · rw [if_neg h2, if_neg (by omega)]
theorem lnN_len (r : List Int) (B : List (List Int)) : (lnN (r :: B)).length = r.length + 1 + (lnN B).length := by rw [lnN_cons, List.length_append, List.length_cons]; omega
theorem sg_rows {t : List Int} : ∀ (n p : Nat), p ≤ t.length → sg t p n = if n < (splitR (t.drop p)).length then some (p + (lnN ((splitR (t.drop p)).take n)).length) else none := by
  intro n
  induction n with
  | zero =>
    intro p hp
    have h : 0 < (splitR (t.drop p)).length := by
      have h1 := splitR_ne (t.drop p)
      cases e : splitR (t.drop p) with
      | nil => exact absurd e h1
      | cons a b => simp
    rw [if_pos h]
    rfl
  | succ n ih =>
    intro p hp
    have hr := run10_le (t.drop p)
    have hd : (t.drop p).length = t.length - p := List.length_drop
    have hf : fin t p = p + run10 (t.drop p) := rfl
    rw [split_run (t.drop p)]
    show (if fin t p < t.length then sg t (fin t p + 1) n else none) = _
    by_cases h : fin t p < t.length
    · rw [if_pos h, ih (fin t p + 1) (by omega), if_pos (show run10 (t.drop p) < (t.drop p).length by omega)]
      rw [List.drop_drop, show p + (run10 (t.drop p) + 1) = fin t p + 1 from by omega, List.length_cons, List.take_succ_cons]
      by_cases h2 : n < (splitR (t.drop (fin t p + 1))).length
      · rw [if_pos h2, if_pos (by omega), lnN_len, List.length_take]
        congr 1
        omega
      · rw [if_neg h2, if_neg (by omega)]
    · rw [if_neg h, if_neg (show ¬ run10 (t.drop p) < (t.drop p).length by omega), if_neg (by simp)]
/-- Where a line begins. -/
def stR (t : List Int) (n : Nat) : Int := ((lnN ((splitR t).take n)).length : Int)
theorem startR_rows (t : List Int) (n : Int) : startR t n = if 0 ≤ n ∧ n < ((splitR t).length : Int) then (stR t n.toNat, 0) else (0, 2) := by
  unfold startR
  by_cases h0 : n < 0
  · rw [if_pos h0, if_neg (by omega)]
  · rw [if_neg h0, sg_rows n.toNat 0 (Nat.zero_le _), List.drop_zero]
    by_cases h1 : n.toNat < (splitR t).length
    · rw [if_pos h1, if_pos (by omega)]
      simp [stR]
    · rw [if_neg h1, if_neg (by omega)]
theorem lnN_le (t : List Int) (n : Nat) (h : n < (splitR t).length) : (lnN ((splitR t).take n)).length ≤ t.length ∧ t = lnN ((splitR t).take n) ++ jn ((splitR t).drop n) := by
  have h1 : t = lnN ((splitR t).take n) ++ jn ((splitR t).drop n) := by
    rw [← jn_app _ (by intro h2; have h3 := congrArg List.length h2; rw [List.length_drop] at h3; simp at h3; omega), List.take_append_drop, jn_split]
  refine ⟨?_, h1⟩
  conv => rhs; rw [h1]
  rw [List.length_append]
  omega
/-- What Whole tells. -/
def wholeV (t : List Int) (a b : Int) : Int × Int × Bool × Bool × Int :=
  if a < 0 ∨ b < a ∨ ((splitR t).length : Int) ≤ b then (0, 0, false, false, 2) else if b + 1 < ((splitR t).length : Int) then (stR t a.toNat, stR t (b + 1).toNat, true, false, 0) else if a > 0 then (stR t a.toNat - 1, (t.length : Int), true, true, 0) else (0, (t.length : Int), true, false, 0)
/-- The lines that are told: the last of them goes where nothing tells it from those ahead of it. -/
def toldV (rows : List (List Int)) (a b : Nat) : List (List Int) := if a = 0 ∧ b = rows.length - 1 ∧ 0 < b ∧ (rows.getD b []).length = 0 then (rows.drop a).take (b - a) else (rows.drop a).take (b - a + 1)
theorem cut_rows {rows : List (List Int)} {a b : Nat} (h1 : a ≤ b) (h2 : b < rows.length) : rows = rows.take a ++ ((rows.drop a).take (b - a + 1) ++ rows.drop (b + 1)) := by
  have h3 : (rows.drop a).drop (b - a + 1) = rows.drop (b + 1) := by rw [List.drop_drop, show a + (b - a + 1) = b + 1 from by omega]
  rw [← h3, List.take_append_drop, List.take_append_drop]
/-- What Take tells of whole lines, and what is left. -/
theorem lines_law {t : List Int} {a b : Nat} (h1 : a ≤ b) (h2 : b < (splitR t).length) : ∃ F T D, wholeV t a b = (F, T, true, D, 0) ∧ 0 ≤ F ∧ F ≤ T ∧ T ≤ (t.length : Int) ∧ takeV t F T true D = (true, true, lnN (toldV (splitR t) a b), 0) ∧ t.take F.toNat ++ t.drop T.toNat = jn ((splitR t).take a ++ (splitR t).drop (b + 1)) := by
  have hj := jn_split t
  have h10 := split_ten t
  have hM : ((splitR t).drop a).take (b - a + 1) ≠ [] := by intro h; have h3 := congrArg List.length h; rw [List.length_take, List.length_drop] at h3; simp at h3; omega
  have hc := cut_rows h1 h2
  unfold wholeV
  rw [if_neg (by omega)]
  generalize hrows : splitR t = rows at hj h10 hM hc h2 ⊢
  have hst : ∀ n : Nat, stR t n = ((lnN (rows.take n)).length : Int) := fun n => by unfold stR; rw [hrows]
  by_cases hb : (b : Int) + 1 < (rows.length : Int)
  · -- others behind them
    rw [if_pos hb]
    have hC : rows.drop (b + 1) ≠ [] := by intro h; have h3 := congrArg List.length h; rw [List.length_drop] at h3; simp at h3; omega
    have et : t = lnN (rows.take a) ++ (lnN ((rows.drop a).take (b - a + 1)) ++ jn (rows.drop (b + 1))) := by
      rw [← jn_app _ hC, ← jn_app _ (by simp [hC]), ← hc, hj]
    have eb : rows.take (b + 1) = rows.take a ++ (rows.drop a).take (b - a + 1) := by
      conv => lhs; rw [← List.take_append_drop a rows]
      rw [List.take_append, List.take_take, Nat.min_eq_right (by omega), List.length_take, Nat.min_eq_left (by omega), show b + 1 - a = b - a + 1 from by omega]
    have e1 : stR t (a : Int).toNat = ((lnN (rows.take a)).length : Int) := by rw [Int.toNat_natCast, hst]
    have e2 : stR t ((b : Int) + 1).toNat = ((lnN (rows.take a)).length : Int) + ((lnN ((rows.drop a).take (b - a + 1))).length : Int) := by rw [show ((b : Int) + 1).toNat = b + 1 from by omega, hst, eb, lnN_app, List.length_append]; omega
    have hT : toldV rows a b = (rows.drop a).take (b - a + 1) := if_neg (by omega)
    rw [e1, e2, hT]
    have hlen : t.length = (lnN (rows.take a)).length + ((lnN ((rows.drop a).take (b - a + 1))).length + (jn (rows.drop (b + 1))).length) := by
      conv => lhs; rw [et]
      rw [List.length_append, List.length_append]
    have hcl := close_lines hM
    generalize hP : lnN (rows.take a) = P at et hlen ⊢
    generalize lnN ((rows.drop a).take (b - a + 1)) = Q at et hlen hcl ⊢
    refine ⟨_, _, _, rfl, by omega, by omega, by omega, ?_, ?_⟩
    · have hnb : ¬ badV t (P.length : Int) ((P.length : Int) + (Q.length : Int)) true false := by
        intro h
        rcases h with h | h | h | h
        · omega
        · omega
        · omega
        · exact absurd h.2.1 (by decide)
      unfold takeV
      rw [if_neg hnb, if_neg (show ¬ (true = true ∧ false = true) by decide), show ((P.length : Int) + (Q.length : Int)).toNat = (P ++ Q).length from by rw [List.length_append]; omega, Int.toNat_natCast, et, ← List.append_assoc, List.take_left, List.drop_left, hcl]
    · rw [show ((P.length : Int) + (Q.length : Int)).toNat = (P ++ Q).length from by rw [List.length_append]; omega, Int.toNat_natCast]
      have h3 : t.take P.length = P := by rw [et, List.take_left]
      have h4 : t.drop (P ++ Q).length = jn (rows.drop (b + 1)) := by rw [et, ← List.append_assoc, List.drop_left]
      rw [h3, h4, jn_app _ hC, hP]
  · -- up to the end
    have hbl : b + 1 = rows.length := by omega
    rw [if_neg hb]
    have hC : rows.drop (b + 1) = [] := List.drop_of_length_le (by omega)
    rw [hC, List.append_nil] at hc
    rw [hC, List.append_nil]
    by_cases ha : (a : Int) > 0
    · rw [if_pos ha]
      have hA : rows.take a ≠ [] := by intro h; have h3 := congrArg List.length h; rw [List.length_take, List.length_nil] at h3; omega
      have hT : toldV rows a b = (rows.drop a).take (b - a + 1) := if_neg (by omega)
      have et : t = jn (rows.take a) ++ 10 :: jn ((rows.drop a).take (b - a + 1)) := by
        conv => lhs; rw [← hj, hc, jn_app _ hM, lnN_jn hA]
        simp
      have e1 : stR t (a : Int).toNat = ((jn (rows.take a)).length : Int) + 1 := by rw [Int.toNat_natCast, hst, lnN_jn hA, List.length_append, List.length_singleton]; omega
      rw [e1, hT, lnN_jn hM]
      generalize jn (rows.take a) = P at et ⊢
      generalize jn ((rows.drop a).take (b - a + 1)) = Q at et ⊢
      have hlen : t.length = P.length + (Q.length + 1) := by
        conv => lhs; rw [et]
        rw [List.length_append, List.length_cons]
      refine ⟨_, _, _, rfl, by omega, by omega, by omega, ?_, ?_⟩
      · have hrd : rd t ((P.length : Int) + 1 - 1) = 10 := by
          unfold rd
          rw [show ((P.length : Int) + 1 - 1).toNat = P.length from by omega, et, List.getD_eq_getElem?_getD, List.getElem?_append_right (Nat.le_refl _), Nat.sub_self]
          rfl
        have hnb : ¬ badV t ((P.length : Int) + 1 - 1) (t.length : Int) true true := by
          intro h
          rcases h with h | h | h | h
          · omega
          · omega
          · omega
          · rcases h.2.2 with h | h
            · omega
            · exact h hrd
        unfold takeV
        rw [if_neg hnb, if_pos (show (true = true ∧ true = true) from ⟨rfl, rfl⟩), Int.toNat_natCast, List.take_length, show ((P.length : Int) + 1 - 1 + 1).toNat = P.length + 1 from by omega]
        have h3 : t.drop (P.length + 1) = Q := by rw [et, ← List.drop_drop, List.drop_left]; rfl
        rw [h3, close_on ⟨rfl, .inl rfl⟩]
      · rw [Int.toNat_natCast, List.drop_length, List.append_nil, show ((P.length : Int) + 1 - 1).toNat = P.length from by omega, et, List.take_left]
    · rw [if_neg ha]
      obtain rfl : a = 0 := by omega
      rw [List.take_zero, List.drop_zero, Nat.sub_zero, List.take_of_length_le (by omega)] at *
      refine ⟨_, _, _, rfl, by omega, by omega, by omega, ?_, ?_⟩
      · have hnb : ¬ badV t 0 (t.length : Int) true false := by
          intro h
          rcases h with h | h | h | h
          · omega
          · omega
          · omega
          · exact absurd h.2.1 (by decide)
        unfold takeV
        rw [if_neg hnb, if_neg (show ¬ (true = true ∧ false = true) by decide), Int.toNat_natCast, List.take_length]
        show (true, true, closeV true false t, (0 : Int)) = _
        have hcl := close_all hM h10
        rw [hj] at hcl
        rw [hcl]
        have hE : (if lastE rows = true then rows.dropLast else rows) = toldV rows 0 b := by
          unfold toldV
          rw [List.drop_zero, Nat.sub_zero, List.take_of_length_le (show rows.length ≤ b + 1 by omega)]
          have hg : rows.getLastD [] = rows.getD b [] := by
            rw [List.getLastD_eq_getLast?, List.getLast?_eq_getElem?, List.getD_eq_getElem?_getD, show rows.length - 1 = b from by omega]
          by_cases hz : 0 < b ∧ (rows.getD b []).length = 0
          · have hL : lastE rows = true := by unfold lastE; rw [hg, Bool.and_eq_true]; exact ⟨decide_eq_true (by omega), by simpa [List.isEmpty_iff] using List.eq_nil_of_length_eq_zero hz.2⟩
            rw [if_pos hL, if_pos ⟨rfl, by omega, hz.1, hz.2⟩]
            rw [List.dropLast_eq_take, show rows.length - 1 = b from by omega]
          · have hL : ¬ lastE rows = true := by
              unfold lastE
              rw [hg, Bool.and_eq_true]
              rintro ⟨h1, h2⟩
              exact hz ⟨by have := of_decide_eq_true h1; omega, by simpa [List.isEmpty_iff] using h2⟩
            rw [if_neg hL, if_neg (fun h => hz ⟨h.2.2.1, h.2.2.2⟩)]
        rw [hE]
      · rw [Int.toNat_natCast, List.drop_length]
        rfl
/-- The lines that are left of the first i. -/
def othV (rows : List (List Int)) (a b i : Nat) : List (List Int) := rows.take (min i a) ++ (rows.take i).drop (b + 1)
theorem oth_zero (rows : List (List Int)) (a b : Nat) : othV rows a b 0 = [] := by simp [othV]
theorem oth_in {rows : List (List Int)} {a b i : Nat} (h1 : a ≤ i) (h2 : i ≤ b) : othV rows a b (i + 1) = othV rows a b i := by
  unfold othV
  rw [Nat.min_eq_right h1, Nat.min_eq_right (by omega), List.drop_of_length_le (by rw [List.length_take]; omega), List.drop_of_length_le (by rw [List.length_take]; omega)]
theorem take_row {rows : List (List Int)} {i : Nat} (h : i < rows.length) : rows.take (i + 1) = rows.take i ++ [rows.getD i []] := by
  rw [List.take_succ_eq_append_getElem h, List.getD_eq_getElem?_getD, List.getElem?_eq_getElem h]; rfl
theorem oth_low {rows : List (List Int)} {a b i : Nat} (h1 : i < a) (h2 : i < rows.length) (hab : a ≤ b) : othV rows a b (i + 1) = othV rows a b i ++ [rows.getD i []] := by
  unfold othV
  rw [Nat.min_eq_left (by omega), Nat.min_eq_left (by omega), List.drop_of_length_le (by rw [List.length_take]; omega), List.drop_of_length_le (by rw [List.length_take]; omega), take_row h2, List.append_nil, List.append_nil]
theorem oth_high {rows : List (List Int)} {a b i : Nat} (h1 : b < i) (h2 : i < rows.length) (hab : a ≤ b) : othV rows a b (i + 1) = othV rows a b i ++ [rows.getD i []] := by
  unfold othV
  rw [Nat.min_eq_right (by omega), Nat.min_eq_right (by omega), take_row h2, List.drop_append_of_le_length (by rw [List.length_take]; omega), List.append_assoc]
theorem oth_all {rows : List (List Int)} {a b : Nat} (h : a ≤ rows.length) : othV rows a b rows.length = rows.take a ++ rows.drop (b + 1) := by
  unfold othV
  rw [Nat.min_eq_right h, List.take_length]
theorem jn_len (rows : List (List Int)) : (jn rows).length ≤ (lnN rows).length := by
  by_cases h : rows = []
  · subst h; exact Nat.le_refl _
  · rw [lnN_jn h, List.length_append]; omega
theorem lnN_snoc (B : List (List Int)) (r : List Int) : lnN (B ++ [r]) = lnN B ++ (r ++ [10]) := by rw [lnN_app]; simp [lnN]
abbrev bodyW (t : List Int) (a s : Int) (c : Bool) (S : Nat → Option (Int × Int)) : Nat → Option (Int × Int × Bool × Bool × Int) := fun k =>
  if c = true then (some (0, 0, false, false, 2)) else ((S k).bind fun bt108 => (if bt108.2 = 0 then (some (s, bt108.1, true, false, 0)) else (if a > 0 then (some (wrap64 (s - 1), (t.length : Int), true, true, 0)) else (some (0, (t.length : Int), true, false, 0)))))
def resW (t : List Int) (a s : Int) (c : Bool) (p : Int × Int) : Int × Int × Bool × Bool × Int :=
  if c = true then (0, 0, false, false, 2) else if p.2 = 0 then (s, p.1, true, false, 0) else if a > 0 then (wrap64 (s - 1), (t.length : Int), true, true, 0) else (0, (t.length : Int), true, false, 0)
theorem body_ev {t : List Int} {a s : Int} {c : Bool} {S : Nat → Option (Int × Int)} {p : Int × Int} (h : Ev S p) : Ev (bodyW t a s c S) (resW t a s c p) := by
  obtain ⟨K, hK⟩ := h
  refine ⟨K, fun k hk => ?_⟩
  unfold bodyW resW
  rw [hK k hk]
  simp only [Option.bind_some]
  split
  · rfl
  · split
    · rfl
    · split <;> rfl
theorem split_size (t : List Int) : (splitR t).length ≤ t.length + 1 := by
  induction t with
  | nil => exact Nat.le_refl _
  | cons x t ih =>
    unfold splitR
    by_cases h : x = 10
    · rw [if_pos h, List.length_cons, List.length_cons]; omega
    · rw [if_neg h]
      cases e : splitR t with
      | nil => exact absurd e (splitR_ne t)
      | cons p r => rw [e] at ih; simp only [List.length_cons] at ih ⊢; omega
theorem Whole_ev {t : List Int} (hu : u8s t = true) (hl : t.length ≤ 1048576) (a b : Int) (ha : a ≤ 9223372036854775807) (hb : b ≤ 9223372036854775807) : Ev (fun k => extent_Whole.f k t a b) (wholeV t a b) := by
  have hl' : t.length ≤ 140737488355328 := by omega
  have a1 := Start_ev hu hl' a ha
  have b1 := Start_ev hu hl' b hb
  have hw := (wrap64_range (b + 1)).2
  have hs := Start_ev hu hl' (wrap64 (b + 1)) hw
  have hj : ∀ s c, Ev (fun k => extent_Whole.j0 k t a b s c) (resW t a s c (startR t (wrap64 (b + 1)))) := fun s c => Ev.step (f := bodyW t a s c (fun k => lines_Start.f k t (wrap64 (b + 1)))) (fun k => rfl) (body_ev hs)
  have hn := split_size t
  have bad : ∀ s p, resW t a s true p = (0, 0, false, false, 2) := fun s p => if_pos rfl
  by_cases h1 : 0 ≤ a ∧ a < ((splitR t).length : Int)
  · have e1 : startR t a = (stR t a.toNat, 0) := by rw [startR_rows, if_pos h1]
    rw [e1] at a1
    have hle := (lnN_le t a.toNat (by omega)).1
    by_cases h2 : 0 ≤ b ∧ b < ((splitR t).length : Int)
    · have e2 : startR t b = (stR t b.toNat, 0) := by rw [startR_rows, if_pos h2]
      rw [e2] at b1
      have hr : resW t a (stR t a.toNat) (decide (a > b)) (startR t (wrap64 (b + 1))) = wholeV t a b := by
        unfold resW wholeV
        rw [show wrap64 (b + 1) = b + 1 from by unfold wrap64; omega, startR_rows]
        by_cases h3 : a > b
        · rw [if_pos (by simpa using h3), if_pos (by omega)]
        · rw [if_neg (by simpa using h3), if_neg (show ¬ (a < 0 ∨ b < a ∨ ((splitR t).length : Int) ≤ b) by omega)]
          by_cases h4 : b + 1 < ((splitR t).length : Int)
          · rw [if_pos (show 0 ≤ b + 1 ∧ b + 1 < ((splitR t).length : Int) by omega), if_pos rfl, if_pos h4]
          · rw [if_neg (show ¬ (0 ≤ b + 1 ∧ b + 1 < ((splitR t).length : Int)) by omega), if_neg (show ¬ ((2 : Int) = 0) by decide), if_neg h4]
            rw [show wrap64 (stR t a.toNat - 1) = stR t a.toNat - 1 from by unfold wrap64 stR; omega]
      rw [← hr]
      exact Ev.bind a1 (Ev.bind b1 (Ev.pos rfl (Ev.pos rfl (hj _ _))))
    · have e2 : startR t b = (0, 2) := by rw [startR_rows, if_neg h2]
      rw [e2] at b1
      rw [show wholeV t a b = (0, 0, false, false, 2) from if_pos (by omega), ← bad (stR t a.toNat) (startR t (wrap64 (b + 1)))]
      exact Ev.bind a1 (Ev.bind b1 (Ev.pos rfl (Ev.neg (by decide) (hj _ _))))
  · have e1 : startR t a = (0, 2) := by rw [startR_rows, if_neg h1]
    rw [e1] at a1
    rw [show wholeV t a b = (0, 0, false, false, 2) from if_pos (by
      by_cases h2 : a < 0
      · exact .inl h2
      · by_cases h3 : b < a
        · exact .inr (.inl h3)
        · exact .inr (.inr (by omega))), ← bad 0 (startR t (wrap64 (b + 1)))]
    exact Ev.bind a1 (Ev.bind b1 (Ev.neg (by decide) (hj _ _)))
end Go.Proofs.YtlcdnpecoaamcaaDoor.EL
