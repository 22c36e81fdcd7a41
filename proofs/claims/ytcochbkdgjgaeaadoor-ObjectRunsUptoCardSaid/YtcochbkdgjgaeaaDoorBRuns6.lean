/-
  ObjectRuns (where what comes in is of bulk at most 1048576): the row of the law, out of its pure statement and the printed walk.
  Conditions: bulk at most 1048576.
-/
import Derived.Test.YtcochbkdgjgaeaaDoorBRuns1
import Derived.Test.YtcochbkdgjgaeaaDoorBRuns5
import Derived.Test.YtcochbkdgjgaeaaDoorBRuns2
import Derived.Test.YtcochbkdgjgaeaaDoorBRuns4
import Derived.Test.YtcochbkdgjgaeaaDoorRows
import Derived.Test.YtcochbkdgjgaeaaDoorCards
import Derived.Test.YtcochbkdgjgaeaaDoorTie
import Derived.WalkKit
import Derived.ProofKit
import Derived.OpenShut
import Derived.ShutString
import Derived.ChangeOld
import Derived.Below
import Derived.SizedLaws
import Derived.Carry
import Derived.JoinedCond
import Derived.Deep.CondSized
import Derived.LaidMore
import Derived.Lay
import Derived.SevenTiedAt
import Derived.Stop.Joined
import Derived.Deep.DeepHandedRow
section
namespace Go.Proofs.YtcochbkdgjgaeaaDoor.Say
open Go.RowKit Go.Proofs.YtcochbkdgjgaeaaDoorW.PrintWords Go.Proofs.YtcochbkdgjgaeaaDoor.X Go.Proofs.YtcochbkdgjgaeaaDoor.XO
def ObjectRunsUpto : Prop := ∀ (l0 : List Int) (a1 : Int) (a2 : Bool), (okSl 1 okU8) l0 → okI64 a1 → ((szSl szOne) l0 + szOne a1 + szOne a2 ≤ 1048576) → ∃ k, quoinlaw13_ObjectRuns.f k l0 a1 a2 = some true
end Go.Proofs.YtcochbkdgjgaeaaDoor.Say
end
section
namespace Go.Proofs.YtcochbkdgjgaeaaDoor.Pure
open Go.RowKit Go.Proofs.YtcochbkdgjgaeaaDoorW.PrintWords Go.Proofs.YtcochbkdgjgaeaaDoorW.PrintMore Go.Proofs.YtcochbkdgjgaeaaDoor.X Go.Proofs.YtcochbkdgjgaeaaDoor.XL Go.Proofs.YtcochbkdgjgaeaaDoor.XO Go.Proofs.YtcochbkdgjgaeaaDoor.LN Go.Proofs.YtcochbkdgjgaeaaDoor.OB
theorem awake_ev : Ev (fun k => quoinlaw13_awake.f k) true := Ev.of quoinlaw13_awake.mono (k := 60) (by decide +kernel)
theorem place_ok (a : Int) (ha : okI64 a) (b : Int) (hb : 0 < b) : ∃ m, quoinlaw13_place.f a b = some m ∧ 0 ≤ m ∧ m < b := by
  unfold quoinlaw13_place.f
  have h1 := ha.1
  have h2 := ha.2
  by_cases h : a < 0
  · rw [if_pos h, if_neg (by omega)]
    have w1 : wrap64 (a + 1) = a + 1 := wrap64_id (by omega) (by omega)
    have w2 : wrap64 (-(a + 1)) = -(a + 1) := wrap64_id (by omega) (by omega)
    rw [w1, w2]
    refine ⟨_, rfl, ?_, ?_⟩
    · exact Int.tmod_nonneg _ (by omega)
    · exact Int.tmod_lt_of_pos _ hb
  · rw [if_neg h, if_neg (by omega)]
    exact ⟨_, rfl, Int.tmod_nonneg _ (by omega), Int.tmod_lt_of_pos _ hb⟩
/-- The lines from a place on. -/
theorem split_at {t : List Int} {q : Nat} (hq : q ≤ t.length) : splitR (t.drop q) = (t.take (fin t q)).drop q :: (if fin t q < t.length then splitR (t.drop (fin t q + 1)) else []) := by
  have hr := run10_le (t.drop q)
  have hd : (t.drop q).length = t.length - q := List.length_drop
  have hf : fin t q = q + run10 (t.drop q) := rfl
  have hi := idx_run (t.drop q)
  rcases idx_cases (t.drop q) with ⟨h1, h2, _⟩ | ⟨i, h1, h2, h3, _⟩
  · rw [h1] at hi
    have hn : ¬ run10 (t.drop q) < (t.drop q).length := fun h => by rw [if_pos h] at hi; omega
    rw [h2, if_neg (by omega), show fin t q = t.length from by omega, List.take_length]
  · have hn : run10 (t.drop q) < (t.drop q).length := by
      by_cases h : run10 (t.drop q) < (t.drop q).length
      · exact h
      · rw [if_neg h, h1] at hi; omega
    rw [if_pos hn, h1] at hi
    obtain rfl : i = run10 (t.drop q) := by omega
    rw [h3, if_pos (by omega), List.drop_drop, hf, show q + (run10 (t.drop q) + 1) = q + run10 (t.drop q) + 1 from by omega, List.drop_take, Nat.add_sub_cancel_left]
section
variable {t : List Int}
theorem rd_nat (t : List Int) (p : Nat) : rd t (p : Int) = t.getD p 0 := by unfold rd; rw [Int.toNat_natCast]
theorem ends_pw {big : Bool} {e : Nat} : ∀ (d i : Nat), i + d = e → List.Pairwise (· < ·) (ends t big e i d) := by
  intro d
  induction d with
  | zero => intro i _; exact List.Pairwise.nil
  | succ d ih =>
    intro i hi
    unfold ends
    split
    · exact List.pairwise_cons.2 ⟨fun n hn => (ends_le d (i + 1) (by omega) n hn).1, ih (i + 1) (by omega)⟩
    · exact ih (i + 1) (by omega)
def lineL (t : List Int) (big : Bool) (s e : Nat) : List S76 := mk t big s (ends t big e s (e - s))
theorem lineL_chain {big : Bool} {s e : Nat} (h : s ≤ e) : Ch (cl t big) e s (lineL t big s e) :=
  mk_chain (e - s) s s (by omega) (Nat.le_refl _) (fun h => h) (fun j a b _ => by rw [show j = s from by omega])
def wordV (t : List Int) (p : Nat) (c : Int) (big : Bool) (s e : Nat) : Int × Int × Bool :=
  if fk (p : Int) (-1) 0 (lineL t big s e) < 0 then (0, 0, false) else outW (lineL t big s e) (fk (p : Int) (-1) 0 (lineL t big s e), fk (p : Int) (-1) 0 (lineL t big s e) + c, decide (fk (p : Int) (-1) 0 (lineL t big s e) + c ≤ (lineL t big s e).length))
theorem mk_len {big : Bool} : ∀ (ns : List Nat) (f : Nat), (mk t big f ns).length = ns.length
  | [], _ => rfl
  | n :: ns, _ => by unfold mk; rw [List.length_cons, List.length_cons, mk_len ns n]
theorem lineL_len {big : Bool} {s e : Nat} : (lineL t big s e).length ≤ e - s := by
  unfold lineL
  rw [mk_len]
  exact ends_len _ _
theorem fk_range {p : Int} : ∀ (L : List S76) (kx : Int) (j : Nat), -1 ≤ kx → kx < j → -1 ≤ fk p kx j L ∧ fk p kx j L < (j + L.length : Nat)
  | [], kx, j, h1, h2 => by unfold fk; simp; omega
  | x :: xs, kx, j, h1, h2 => by
    unfold fk
    have h := fk_range (p := p) xs (if x.f0 ≤ p ∧ p < x.f1 then (j : Int) else kx) (j + 1) (by split <;> omega) (by split <;> omega)
    rw [List.length_cons]
    omega
section
variable (hu : u8s t = true) (hl : t.length ≤ 1048576)
include hu hl
theorem words_ev {p : Nat} (hp : p ≤ t.length) {c : Int} (hc1 : 1 ≤ c) (hc2 : c ≤ 9999) (big : Bool) : Ev (fun k => object_words.f k t (cnt 10 (t.take p)) (p : Int) c big false) (wordV t p c big (beg t p) (fin t p)) := by
  have hb := beg_le t p
  have hf := fin_ge t p
  have hfl := fin_le hp
  have hse : beg t p ≤ fin t p := by omega
  have hlen : ((ends t big (fin t p) (beg t p) (fin t p - beg t p)).map fun n : Nat => (n : Int) - (beg t p : Nat)).length ≤ 1048576 := by
    rw [List.length_map]; have := ends_len (t := t) (big := big) (e := fin t p) (fin t p - beg t p) (beg t p); omega
  refine Ev.bind (Start_of hu (by omega) hp) (Ev.bind (End_of hu (by omega) hp) (Ev.pos (by omega) (Ev.pos (by omega) (Ev.pos (by omega) ?_))))
  rw [Int.toNat_natCast, Int.toNat_natCast]
  refine Ev.bind (Runs_ev hse hfl hl) ?_
  have hr := fk_range (p := (p : Int)) (lineL t big (beg t p) (fin t p)) (-1) 0 (by omega) (by omega)
  have hll := lineL_len (t := t) (big := big) (s := beg t p) (e := fin t p)
  refine words_l0 hfl hl (L0 := lineL t big (beg t p) (fin t p)) (kf := fk (p : Int) (-1) 0 (lineL t big (beg t p) (fin t p))) (fun h => if_pos h) (fun h => ⟨(fk (p : Int) (-1) 0 (lineL t big (beg t p) (fin t p)), fk (p : Int) (-1) 0 (lineL t big (beg t p) (fin t p)) + c, decide (fk (p : Int) (-1) 0 (lineL t big (beg t p) (fin t p)) + c ≤ (lineL t big (beg t p) (fin t p)).length)), ?_, fun h2 => ?_, if_neg h⟩)
    (ends t big (fin t p) (beg t p) (fin t p - beg t p)) [] [] (-1) (beg t p) rfl hlen rfl (fun n hn => (ends_le (t := t) (big := big) (e := fin t p) (fin t p - beg t p) (beg t p) (by omega) n hn).2) hse ?_ rfl rfl ?_ ?_
  · have hw : wrap64 (fk (p : Int) (-1) 0 (lineL t big (beg t p) (fin t p)) + c) = fk (p : Int) (-1) 0 (lineL t big (beg t p) (fin t p)) + c := wrap64_id (by omega) (by omega)
    refine Ev.neg Bool.false_ne_true ?_
    rw [hw]
    exact Ev.now _
  · have h3 := of_decide_eq_true h2
    simp only at h3 ⊢
    omega
  · intro hne
    cases hd : fin t p - beg t p with
    | zero => rw [hd] at hne; exact absurd rfl hne
    | succ d => omega
  · intro n ns e
    exact (ends_le (t := t) (big := big) (e := fin t p) (fin t p - beg t p) (beg t p) (by omega) n (by rw [e]; exact List.mem_cons_self)).1
  · intro n ns e
    exact ends_pw _ _ (by omega)
def selW (r : Int × Int × Bool) : Int × Int × Int × Int := if r.2.2 = true then (r.1, r.2.1, 1, 0) else (0, 0, 0, 130)
theorem Select_w {p : Nat} (hp : p ≤ t.length) {c : Int} (hc1 : 1 ≤ c) (hc2 : c ≤ 9999) (big : Bool) {key : ByteArray} (hk : key = if big = true then ⟨#[105, 87]⟩ else ⟨#[105, 119]⟩) : Ev (fun k => object_Select.f k t (p : Int) c key) (selW (wordV t p c big (beg t p) (fin t p))) := by
  have hw := words_ev hu hl hp hc1 hc2 big
  generalize wordV t p c big (beg t p) (fin t p) = r at hw
  have hs : (key.size : Int) = 2 := by cases big <;> (subst hk; rfl)
  have h0 : bt key 0 = 105 := by cases big <;> (subst hk; rfl)
  have h1 : bt key 1 = if big = true then 87 else 119 := by cases big <;> (subst hk; rfl)
  have fini : Ev (fun k => object_Select.j1 k t (p : Int) c (cnt 10 (t.take p)) false 1 (if big = true then 87 else 119) true) (selW r) := by
    refine Ev.step (fun _ => object_Select.j1.eq_2 ..) (Ev.pos rfl ?_)
    rw [show ((if big = true then (87 : Int) else 119) == 87) = big from by cases big <;> rfl]
    refine Ev.bind hw ?_
    by_cases hr : r.2.2 = true
    · rw [show selW r = _ from if_pos hr]; exact Ev.pos hr (Ev.now _)
    · rw [show selW r = _ from if_neg hr]; exact Ev.neg hr (Ev.now _)
  refine Ev.cbind (Of_eq hu (p : Int)) ?_
  rw [if_pos ⟨by omega, by omega⟩, Int.toNat_natCast]
  refine Ev.pos rfl (Ev.neg (by omega) (Ev.neg (by omega) (Ev.pos hs (Ev.pos (by omega) (Ev.pos h0 ?_)))))
  refine Ev.step (fun _ => object_Select.j0.eq_2 ..) (Ev.neg Bool.false_ne_true (Ev.pos (by omega) (Ev.pos (by omega) ?_)))
  rw [h0, h1, show ((105 : Int) == 97) = false from rfl]
  cases big with
  | true => exact Ev.neg (by decide) fini
  | false => exact Ev.pos rfl fini
end
/-! ### what iw chooses -/
theorem outW_one {A B : List S76} {x : S76} : outW (A ++ x :: B) ((A.length : Int), (A.length : Int) + 1, decide ((A.length : Int) + 1 ≤ (A ++ x :: B).length)) = (x.f0, x.f1, true) := by
  unfold outW
  rw [if_pos (decide_eq_true (by simp; omega))]
  show ((rd_T76 (A ++ x :: B) (A.length : Int)).f0, (rd_T76 (A ++ x :: B) ((A.length : Int) + 1 - 1)).f1, true) = _
  rw [Int.add_sub_cancel, rd_mid]
theorem outW_two {A B : List S76} {x y : S76} : outW (A ++ x :: y :: B) ((A.length : Int), (A.length : Int) + 2, decide ((A.length : Int) + 2 ≤ (A ++ x :: y :: B).length)) = (x.f0, y.f1, true) := by
  unfold outW
  rw [if_pos (decide_eq_true (by simp; omega))]
  show ((rd_T76 (A ++ x :: y :: B) (A.length : Int)).f0, (rd_T76 (A ++ x :: y :: B) ((A.length : Int) + 2 - 1)).f1, true) = _
  rw [rd_mid, show (A.length : Int) + 2 - 1 = ((A ++ [x]).length : Int) from by simp; omega, show A ++ x :: y :: B = (A ++ [x]) ++ y :: B from by simp, rd_mid]
theorem outW_end {A : List S76} {x : S76} : outW (A ++ [x]) ((A.length : Int), (A.length : Int) + 2, decide ((A.length : Int) + 2 ≤ (A ++ [x]).length)) = (0, 0, false) := by
  unfold outW
  rw [if_neg]
  rw [decide_eq_true_iff]
  simp
theorem fin_ten {q : Nat} (hq : q ≤ t.length) : fin t q = q ↔ (q = t.length ∨ t.getD q 0 = 10) := by
  constructor
  · intro h
    by_cases hl : q < t.length
    · exact .inr (by have := fin_at (t := t) (p := q) (by omega); rw [h] at this; exact this)
    · exact .inl (by omega)
  · intro h
    refine (fin_unique (Nat.le_refl _) hq (fun j a b => by omega) (fun hl => ?_)).symm
    rcases h with h | h
    · omega
    · exact h
theorem fin_in {p q : Nat} (hp : p ≤ t.length) (h1 : p ≤ q) (h2 : q ≤ fin t p) : fin t q = fin t p := (fin_unique h2 (fin_le hp) (fun _ a b => fin_ne (by omega) b) (fun h => fin_at h)).symm
/-- A place in a line's bytes has that line's beginning and end. -/
theorem same_line {p q : Nat} (hp : p ≤ t.length) (h1 : beg t p ≤ q) (h2 : q ≤ fin t p) : beg t q = beg t p ∧ fin t q = fin t p := by
  have hb := beg_le t p
  have hbf := beg_fin hp
  refine ⟨?_, ?_⟩
  · refine (beg_unique h1 (beg_st t p) (fun j a b => ?_)).symm
    by_cases hj : j < p
    · exact beg_ne a hj
    · exact fin_ne (Nat.le_of_not_lt hj) (by omega)
  · have h3 := fin_in (t := t) (p := beg t p) (q := q) (by omega) h1 (by rw [hbf]; exact h2)
    rw [h3, hbf]
theorem word_none {p : Nat} (h : fin t p = p) (c : Int) (big : Bool) : wordV t p c big (beg t p) (fin t p) = (0, 0, false) := by
  have hb := beg_le t p
  have hch := lineL_chain (t := t) (big := big) (s := beg t p) (e := fin t p) (by omega)
  unfold wordV
  rw [fk_no (fun y hy => by have := Ch_mem hch y hy; omega), if_pos (by decide)]
theorem word_some {p : Nat} (h : p < fin t p) (big : Bool) : ∃ f g : Nat, beg t p ≤ f ∧ f ≤ p ∧ p < g ∧ g ≤ fin t p ∧ (∀ j, f ≤ j → j < g → cl t big j = cl t big f) ∧ (f = beg t p ∨ cl t big (f - 1) ≠ cl t big f) ∧ (g < fin t p → cl t big g ≠ cl t big f) ∧
    wordV t p 1 big (beg t p) (fin t p) = ((f : Int), (g : Int), true) ∧
    (g = fin t p → wordV t p 2 big (beg t p) (fin t p) = (0, 0, false)) ∧
    (g < fin t p → ∃ g2 : Nat, wordV t p 2 big (beg t p) (fin t p) = ((f : Int), (g2 : Int), true) ∧ wordV t g 1 big (beg t p) (fin t p) = ((g : Int), (g2 : Int), true)) := by
  have hb := beg_le t p
  have hch := lineL_chain (t := t) (big := big) (s := beg t p) (e := fin t p) (by omega)
  obtain ⟨A, x, B, e1, e2, e3⟩ := Ch_at hch hb h
  rw [e1] at hch
  obtain ⟨f, m1, m2, m3, hx, m5⟩ := Ch_split hch
  obtain ⟨g, n0, n1, n2, n3, n4, n5, n6, hB⟩ := hx
  have hk : ∀ kx, fk (p : Int) kx 0 (A ++ x :: B) = (A.length : Int) := fun kx => fk_at hch e2 e3
  refine ⟨f, g, m1, by omega, by omega, n3, n4, ?_, n5, ?_, ?_, ?_⟩
  · rcases m5 with ⟨_, m6⟩ | ⟨_, m6⟩
    · exact .inl m6
    · exact .inr (m6 (by omega))
  · unfold wordV
    rw [e1, hk, if_neg (by omega), outW_one, n0, n1]
  · intro hg
    have hBn : B = [] := by
      cases B with
      | nil => rfl
      | cons y B => obtain ⟨m, _, _, q1, q2, _⟩ := hB; omega
    subst hBn
    unfold wordV
    rw [e1, hk, if_neg (by omega), outW_end]
  · intro hg
    cases B with
    | nil => have hB : g = fin t p := hB; omega
    | cons y B =>
      have hch2 := hch
      rw [show A ++ x :: y :: B = (A ++ [x]) ++ y :: B from by simp] at hch2
      obtain ⟨g2, q0, q1, q2, q3, _, _, _, _⟩ := hB
      refine ⟨g2, ?_, ?_⟩
      · unfold wordV
        rw [e1, hk, if_neg (by omega), outW_two, n0, q1]
      · unfold wordV
        rw [e1, show A ++ x :: y :: B = (A ++ [x]) ++ y :: B from by simp, fk_at hch2 (by omega) (by omega), if_neg (by omega), outW_one, q0, q1]
/-! ### what ip chooses -/
def vC (M : List (List Int)) (j : Nat) : Int := if ((M.getD j []).length : Int) = 0 then 0 else 1
theorem vC_void (M : List (List Int)) (j : Nat) : (((rd_L4 M (j : Int)).length : Int) == 0) = (vC M j == 0) := by
  unfold vC rd_L4
  rw [Int.toNat_natCast]
  by_cases h : ((M.getD j []).length : Int) = 0
  · rw [if_pos h, h]
  · rw [if_neg h]; simpa using h
theorem set_last {A : List S76} {x y : S76} : (A ++ [x]).set A.length y = A ++ [y] := by
  rw [List.set_append_right _ _ (Nat.le_refl _), Nat.sub_self]
  rfl
theorem Ch_grow {C : Nat → Int} {e : Nat} {x : S76} : ∀ {A : List S76} {s : Nat}, Ch C e s (A ++ [x]) → ∃ m : Nat, x.f0 = (m : Int) ∧ m < e ∧ x.f2 = (C m == 0) ∧
    (C e ≠ C m → Ch C (e + 1) s (A ++ [x, ⟨(e : Int), ((e + 1 : Nat) : Int), C e == 0⟩])) ∧ (C e = C m → Ch C (e + 1) s (A ++ [⟨x.f0, ((e + 1 : Nat) : Int), x.f2⟩]))
  | [], s, ⟨n, h0, h1, h2, h3, h4, h5, h6, h7⟩ => by
    have h7 : n = e := h7
    subst h7
    refine ⟨s, h0, h2, h6, fun hc => ?_, fun hc => ?_⟩
    · exact ⟨n, h0, h1, h2, by omega, h4, fun _ => hc, h6, n + 1, rfl, rfl, by omega, Nat.le_refl _, fun j a b => by rw [show j = n from by omega], fun h => by omega, rfl, rfl⟩
    · refine ⟨n + 1, h0, rfl, by omega, Nat.le_refl _, fun j a b => ?_, fun h => by omega, h6, rfl⟩
      by_cases hj : j < n
      · exact h4 j a hj
      · rw [show j = n from by omega]; exact hc
  | y :: A, s, ⟨n, h0, h1, h2, h3, h4, h5, h6, h7⟩ => by
    obtain ⟨m, m1, m2, m3, m4, m5⟩ := Ch_grow h7
    have hn : n < e := by
      have h8 := Ch_mem h7 x (by simp)
      omega
    exact ⟨m, m1, m2, m3, fun hc => ⟨n, h0, h1, h2, by omega, h4, fun _ => h5 hn, h6, m4 hc⟩, fun hc => ⟨n, h0, h1, h2, by omega, h4, fun _ => h5 hn, h6, m5 hc⟩⟩
theorem Ch_len {C : Nat → Int} {e : Nat} : ∀ {L : List S76} {s : Nat}, Ch C e s L → s + L.length ≤ e
  | [], s, h => Nat.le_of_eq h
  | _ :: xs, s, ⟨n, _, _, h2, _, _, _, _, h⟩ => by have := Ch_len h; rw [List.length_cons]; omega
theorem fk_snoc {p : Int} {A : List S76} {x : S76} {kx : Int} : fk p kx 0 (A ++ [x]) = if x.f0 ≤ p ∧ p < x.f1 then (A.length : Int) else fk p kx 0 A := by
  rw [fk_append, Nat.zero_add]
  rfl
theorem par_l0 {M : List (List Int)} (hM : M.length ≤ 1048577) {line : Nat} {c : Int} {around : Bool} : ∀ (d i : Nat) (L : List S76), i + d = M.length → Ch (vC M) i 0 L →
    ∃ L', Ch (vC M) M.length 0 L' ∧ ∀ r, Ev (fun k => object_paragraphs.l0 k t (line : Int) c around L' (fk (line : Int) 0 0 L') M (M.length : Int) (M.length : Int)) r → Ev (fun k => object_paragraphs.l0 k t (line : Int) c around L (fk (line : Int) 0 0 L) M (M.length : Int) (i : Int)) r := by
  intro d
  induction d with
  | zero =>
    intro i L hi hL
    obtain rfl : i = M.length := by omega
    exact ⟨L, hL, fun _ h => h⟩
  | succ d ih =>
    intro i L hi hL
    have hll := Ch_len hL
    have hw : wrap64 ((i : Int) + 1) = ((i + 1 : Nat) : Int) := by rw [wrap64_id (by omega) (by omega)]; omega
    -- a new stretch
    have fresh : (∀ A x, L = A ++ [x] → ∃ m : Nat, x.f0 = (m : Int) ∧ vC M i ≠ vC M m) → ∃ L', Ch (vC M) M.length 0 L' ∧ ∀ r, Ev (fun k => object_paragraphs.l0 k t (line : Int) c around L' (fk (line : Int) 0 0 L') M (M.length : Int) (M.length : Int)) r → Ev (fun k => object_paragraphs.j1 k t (line : Int) c around L (fk (line : Int) 0 0 L) (i : Int) (vC M i == 0) M (M.length : Int) (i : Int) true) r := by
      intro hne
      have hch : Ch (vC M) (i + 1) 0 (L ++ [⟨(i : Int), ((i + 1 : Nat) : Int), vC M i == 0⟩]) := by
        rcases List.eq_nil_or_concat L with rfl | ⟨A, x, rfl⟩
        · have h0 : 0 = i := hL
          subst h0
          exact ⟨1, rfl, rfl, by omega, by omega, fun j a b => by rw [show j = 0 from by omega], fun h => by omega, rfl, rfl⟩
        · rw [List.concat_eq_append] at hL hne ⊢
          obtain ⟨m, m1, _, _, m4, _⟩ := Ch_grow hL
          obtain ⟨m', m1', hm⟩ := hne A x rfl
          have := m4 (by rw [show m = m' from by omega]; exact hm)
          simpa using this
      obtain ⟨L', h1, h2⟩ := ih (i + 1) _ (by omega) hch
      refine ⟨L', h1, fun r hr => ?_⟩
      have h3 := h2 r hr
      have hwl : ∀ z : S76, wrap64 (((L ++ [z]).length : Int) - 1) = (L.length : Int) := fun z => by rw [List.length_append, List.length_singleton, wrap64_id (by omega) (by omega)]; omega
      have hlz : ∀ z : S76, ((L ++ [z]).length : Int) = (L.length : Int) + 1 := fun z => by rw [List.length_append, List.length_singleton]; omega
      refine Ev.step (fun _ => object_paragraphs.j1.eq_2 ..) (Ev.pos rfl (Ev.pos (by omega) (Ev.cbind rfl ?_)))
      rw [hwl, hlz]
      refine Ev.pos (by omega) (Ev.pos (by omega) (Ev.cbind rfl ?_))
      rw [Int.toNat_natCast, set_last, hw, rd_mid]
      rw [fk_snoc] at h3
      by_cases hi2 : (i : Int) = (line : Int)
      · refine Ev.pos hi2 ?_
        rw [if_pos (show (i : Int) ≤ (line : Int) ∧ (line : Int) < ((i + 1 : Nat) : Int) from ⟨by omega, by omega⟩)] at h3
        exact h3
      · refine Ev.neg hi2 ?_
        rw [if_neg (show ¬ ((i : Int) ≤ (line : Int) ∧ (line : Int) < ((i + 1 : Nat) : Int)) from by omega)] at h3
        exact h3
    have next : ∃ L', Ch (vC M) M.length 0 L' ∧ ∀ r, Ev (fun k => object_paragraphs.l0 k t (line : Int) c around L' (fk (line : Int) 0 0 L') M (M.length : Int) (M.length : Int)) r → Ev (fun k => if (L.length : Int) = 0 then (object_paragraphs.j1 k t (line : Int) c around L (fk (line : Int) 0 0 L) (i : Int) (vC M i == 0) M (M.length : Int) (i : Int) true) else (if 0 ≤ (wrap64 ((L.length : Int) - 1)) then (if (wrap64 ((L.length : Int) - 1)) < (L.length : Int) then (object_paragraphs.j1 k t (line : Int) c around L (fk (line : Int) 0 0 L) (i : Int) (vC M i == 0) M (M.length : Int) (i : Int) (((rd_T76 L (wrap64 ((L.length : Int) - 1))).f2) != (vC M i == 0))) else (none)) else (none))) r := by
      rcases List.eq_nil_or_concat L with rfl | ⟨A, x, rfl⟩
      · obtain ⟨L', h1, h2⟩ := fresh (fun A x h => by simp at h)
        exact ⟨L', h1, fun r hr => Ev.pos rfl (h2 r hr)⟩
      · rw [List.concat_eq_append] at hL hll fresh ⊢
        have hA : A.length + 1 ≤ i := by rw [List.length_append, List.length_singleton] at hll; omega
        have hwl : wrap64 (((A ++ [x]).length : Int) - 1) = (A.length : Int) := by rw [List.length_append, List.length_singleton, wrap64_id (by omega) (by omega)]; omega
        have hlz : ((A ++ [x]).length : Int) = (A.length : Int) + 1 := by rw [List.length_append, List.length_singleton]; omega
        obtain ⟨m, m1, m2, m3, m4, m5⟩ := Ch_grow hL
        by_cases hv : vC M i = vC M m
        · have hch := m5 hv
          obtain ⟨L', h1, h2⟩ := ih (i + 1) _ (by omega) hch
          refine ⟨L', h1, fun r hr => ?_⟩
          have h3 := h2 r hr
          rw [hwl, hlz, rd_mid, m3, hv, show ((vC M m == 0) != (vC M m == 0)) = false from by simp]
          refine Ev.neg (by omega) (Ev.pos (by omega) (Ev.pos (by omega) ?_))
          refine Ev.step (fun _ => object_paragraphs.j1.eq_2 ..) (Ev.neg Bool.false_ne_true ?_)
          rw [hwl, hlz]
          refine Ev.pos (by omega) (Ev.pos (by omega) (Ev.cbind rfl ?_))
          rw [Int.toNat_natCast, set_last, hw, rd_mid]
          rw [fk_snoc] at h3
          have hx1 : x.f1 = (i : Int) := by
            obtain ⟨m', _, _, _, ⟨n, _, q1, _, _, _, _, _, q7⟩, _⟩ := Ch_split hL
            have q7 : n = i := q7
            omega
          have hf0 : x.f0 ≤ (line : Int) ∧ (line : Int) < ((i + 1 : Nat) : Int) → (i : Int) ≠ (line : Int) → (x.f0 ≤ (line : Int) ∧ (line : Int) < x.f1) := fun a b => ⟨a.1, by omega⟩
          by_cases hi2 : (i : Int) = (line : Int)
          · refine Ev.pos hi2 ?_
            rw [if_pos (show x.f0 ≤ (line : Int) ∧ (line : Int) < ((i + 1 : Nat) : Int) from ⟨by omega, by omega⟩)] at h3
            exact h3
          · refine Ev.neg hi2 ?_
            rw [fk_snoc]
            by_cases hc : x.f0 ≤ (line : Int) ∧ (line : Int) < ((i + 1 : Nat) : Int)
            · rw [if_pos hc] at h3
              rw [if_pos (hf0 hc hi2)]
              exact h3
            · rw [if_neg hc] at h3
              rw [if_neg (fun h => hc ⟨h.1, by omega⟩)]
              exact h3
        · obtain ⟨L', h1, h2⟩ := fresh (fun A' x' h => by
            have h8 := List.append_inj' h rfl
            have h9 : x = x' := by simpa using h8.2
            subst h9
            exact ⟨m, m1, hv⟩)
          refine ⟨L', h1, fun r hr => ?_⟩
          have hvv : ((vC M m == 0) != (vC M i == 0)) = true := by
            unfold vC at hv ⊢
            revert hv
            split <;> split <;> simp
          have h3 := h2 r hr
          rw [hwl, hlz, rd_mid, m3, hvv]
          exact Ev.neg (by omega) (Ev.pos (by omega) (Ev.pos (by omega) h3))
    obtain ⟨L', h1, h2⟩ := next
    refine ⟨L', h1, fun r hr => Ev.step (fun _ => object_paragraphs.l0.eq_2 ..) (Ev.pos (by omega) (Ev.pos (by omega) (Ev.pos (by omega) ?_)))⟩
    rw [vC_void]
    exact h2 r hr
theorem split_sg : ∀ (n p q : Nat), p ≤ t.length → sg t p n = some q → (splitR (t.drop p)).drop n = splitR (t.drop q) := by
  intro n
  induction n with
  | zero => intro p q _ h; have h : some p = some q := h; rw [Option.some.inj h]; rfl
  | succ n ih =>
    intro p q hp h
    unfold sg at h
    by_cases hf : fin t p < t.length
    · rw [if_pos hf] at h
      rw [split_at hp, if_pos hf, List.drop_succ_cons]
      exact ih (fin t p + 1) q (by omega) h
    · rw [if_neg hf] at h; cases h
/-- A line that begins at q, in the list of the lines. -/
theorem line_at {q : Nat} (hq : q ≤ t.length) (hs : isSt t q) {i : Nat} (hi : cnt 10 (t.take q) = (i : Int)) : i < (splitR t).length ∧ ((splitR t).getD i []).length = fin t q - q := by
  have hsg : sg t 0 i = some q := sg_of (.inl rfl) (Nat.zero_le _) hq hs (by rw [show cnt 10 (t.take 0) = 0 from rfl]; omega)
  have hd := split_sg i 0 q (Nat.zero_le _) hsg
  rw [List.drop_zero, split_at hq] at hd
  have hfl := fin_le hq
  refine ⟨?_, ?_⟩
  · rcases Nat.lt_or_ge i (splitR t).length with h | h
    · exact h
    · rw [List.drop_eq_nil_of_le h] at hd; cases hd
  · have h1 : (splitR t)[i]? = ((splitR t).drop i)[0]? := by rw [List.getElem?_drop, Nat.add_zero]
    rw [hd] at h1
    rw [List.getD_eq_getElem?_getD, h1]
    show ((t.take (fin t q)).drop q).length = _
    rw [List.length_drop, List.length_take]
    omega
theorem vC_line {q : Nat} (hq : q ≤ t.length) (hs : isSt t q) {i : Nat} (hi : cnt 10 (t.take q) = (i : Int)) : vC (splitR t) i = 0 ↔ (q = t.length ∨ t.getD q 0 = 10) := by
  have h := (line_at hq hs hi).2
  have hf := fin_ge t q
  rw [← fin_ten hq]
  unfold vC
  rw [h]
  by_cases e : fin t q = q
  · rw [if_pos (by omega)]; exact ⟨fun _ => e, fun _ => rfl⟩
  · rw [if_neg (by omega)]; exact ⟨fun h => absurd h (by decide), fun h => absurd h e⟩
theorem sg_ex : ∀ (n p : Nat), p ≤ t.length → isSt t p → cnt 10 (t.take p) + n ≤ cnt 10 t → ∃ q, sg t p n = some q := by
  intro n
  induction n with
  | zero => intro p _ _ _; exact ⟨p, rfl⟩
  | succ n ih =>
    intro p hp hs hc
    have hf := fin_ge t p
    by_cases h : fin t p < t.length
    · obtain ⟨q, hq⟩ := ih (fin t p + 1) (by omega) (.inr (fin_at h)) (by rw [cnt_next h]; omega)
      exact ⟨q, by unfold sg; rw [if_pos h]; exact hq⟩
    · exfalso
      have hf2 := fin_le hp
      have h1 := cnt_same (t := t) (p := p) (q := t.length) hp (Nat.le_refl _) (fun j a b => fin_ne a (by omega))
      rw [List.take_length] at h1
      omega
theorem start_ex {l : Nat} (h1 : (l : Int) ≤ cnt 10 t) : ∃ s : Nat, s ≤ t.length ∧ isSt t s ∧ startR t (l : Int) = ((s : Int), 0) ∧ cnt 10 (t.take s) = (l : Int) := by
  obtain ⟨q, hq⟩ := sg_ex (t := t) l 0 (Nat.zero_le _) (.inl rfl) (by rw [show cnt 10 (t.take 0) = 0 from rfl]; omega)
  obtain ⟨h2, h3, h4, h5⟩ := sg_some (Nat.zero_le _) (.inl rfl) hq
  rw [show cnt 10 (t.take 0) = 0 from rfl] at h5
  refine ⟨q, h4, h2, ?_, by omega⟩
  unfold startR
  rw [if_neg (by omega), Int.toNat_natCast, hq]
section
variable (hu : u8s t = true) (hl : t.length ≤ 1048576)
include hu hl
omit hu hl in
theorem par_end {M : List (List Int)} {line : Int} {A B : List S76} {x : S76} {a b f g : Nat} (hA : A.length + B.length + 1 ≤ 2000000) (b0 : x.f0 = (a : Int)) (b1 : x.f1 = (b : Int)) (hb : 1 ≤ b) (hb2 : b ≤ 2000000)
    (s1 : Ev (fun k => lines_Start.f k t (a : Int)) ((f : Int), 0)) (s2 : Ev (fun k => lines_Start.f k t ((b - 1 : Nat) : Int)) ((g : Int), 0)) :
    Ev (fun k => object_paragraphs.l0 k t line 1 false (A ++ x :: B) (A.length : Int) M (M.length : Int) (M.length : Int)) ((f : Int), (g : Int), true) := by
  have hlx : ((A ++ x :: B).length : Int) = (A.length : Int) + B.length + 1 := by rw [List.length_append, List.length_cons]; omega
  have p1 : ¬ (M.length : Int) < (M.length : Int) := by omega
  have p2 : (0 : Int) ≤ (A.length : Int) := by omega
  have p3 : (A.length : Int) < ((A ++ x :: B).length : Int) := by omega
  have p4 : (A.length : Int) + 1 ≤ ((A ++ x :: B).length : Int) := by omega
  have hw1 : wrap64 ((A.length : Int) + 1) = (A.length : Int) + 1 := wrap64_id (by omega) (by omega)
  have hw2 : wrap64 ((A.length : Int) + 1 - 1) = (A.length : Int) := by
    rw [Int.add_sub_cancel]
    exact wrap64_id (by clear hw1; omega) (by clear hw1; omega)
  have hw3 : wrap64 ((b : Int) - 1) = ((b - 1 : Nat) : Int) := by
    clear hw1 hw2
    rw [wrap64_id (by omega) (by omega)]; omega
  have htk : Ev (fun k => object_taken.f k (A ++ x :: B) (A.length : Int) 1 false) ((A.length : Int), (A.length : Int) + 1, true) := by
    refine Ev.neg Bool.false_ne_true ?_
    rw [hw1, decide_eq_true p4]
    exact Ev.now _
  refine Ev.step (fun _ => object_paragraphs.l0.eq_2 ..) (Ev.neg p1 (Ev.bind htk (Ev.pos rfl (Ev.pos p2 (Ev.pos p3 ?_)))))
  rw [rd_mid, b0]
  refine Ev.bind s1 ?_
  rw [hw2]
  refine Ev.pos p2 (Ev.pos p3 ?_)
  rw [rd_mid, b1, hw3]
  exact Ev.bind s2 (Ev.now _)
theorem par_ev {p : Nat} (hp : p ≤ t.length) : ∃ f g : Nat, f ≤ p ∧ f ≤ t.length ∧ g ≤ t.length ∧ (∀ q, f ≤ q → q ≤ g → isSt t q → ((q = t.length ∨ t.getD q 0 = 10) ↔ (f = t.length ∨ t.getD f 0 = 10))) ∧
    Ev (fun k => object_paragraphs.f k t (cnt 10 (t.take p)) 1 false) ((f : Int), (g : Int), true) := by
  have hlen := splitR_len t
  have hcl := cnt_le 10 t
  have hcm := cnt_mono (t := t) hp (Nat.le_refl _)
  rw [List.take_length] at hcm
  have hcn := cnt_nonneg 10 (t.take p)
  obtain ⟨line, hline⟩ := Int.eq_ofNat_of_zero_le hcn
  rw [hline]
  have hline0 : cnt 10 (t.take p) = (line : Int) := hline
  obtain ⟨L, hL, hend⟩ := par_l0 (t := t) (M := splitR t) (by omega) (line := line) (c := 1) (around := false) (splitR t).length 0 [] (by omega) rfl
  obtain ⟨A, x, B, e1, e2, e3⟩ := Ch_at hL (Nat.zero_le line) (by omega)
  subst e1
  have hk := fk_at (kx := 0) hL e2 e3
  have hlL := Ch_len hL
  obtain ⟨a, a1, a2, a3, ⟨b, b0, b1, b2, b3, b4, _, _, _⟩, _⟩ := Ch_split hL
  obtain ⟨f, f1, f2, f3, f4⟩ := start_ex (t := t) (l := a) (by omega)
  obtain ⟨g, g1, g2, g3, g4⟩ := start_ex (t := t) (l := b - 1) (by omega)
  have s1 := Start_ev hu (by omega) (a : Int) (by omega)
  have s2 := Start_ev hu (by omega) ((b - 1 : Nat) : Int) (by omega)
  rw [f3] at s1
  rw [g3] at s2
  refine ⟨f, g, ?_, f1, g1, ?_, ?_⟩
  · rcases Nat.lt_or_ge p f with h | h
    · exfalso
      have h2 := cnt_mono (t := t) (p := p) (q := f - 1) (by omega) (by omega)
      have h3 := cnt_take_succ (t := t) (n := f - 1) (by omega)
      rw [show f - 1 + 1 = f from by omega] at h3
      rcases f2 with h4 | h4
      · omega
      · rw [if_pos h4] at h3; omega
    · exact h
  · intro q hq1 hq2 hqs
    have hql : q ≤ t.length := by omega
    have h2 := cnt_mono (t := t) hq1 hql
    have h3 := cnt_mono (t := t) hq2 g1
    have hqn := cnt_nonneg 10 (t.take q)
    obtain ⟨i, hi⟩ := Int.eq_ofNat_of_zero_le hqn
    have hi0 : cnt 10 (t.take q) = (i : Int) := hi
    rw [← vC_line hql hqs hi0, ← vC_line f1 f2 f4, b4 i (by omega) (by omega)]
  · refine Ev.cbind (show lines_Split.f t = some (splitR t) by unfold lines_Split.f; rw [if_pos hu, if_pos (by omega)]) ?_
    refine hend _ ?_
    rw [hk]
    rw [List.length_append, List.length_cons] at hlL
    exact par_end (by omega) b0 b1 (by omega) (by omega) s1 s2
theorem Select_p {p : Nat} (hp : p ≤ t.length) : ∃ f g : Nat, f ≤ p ∧ f ≤ t.length ∧ g ≤ t.length ∧ (∀ q, f ≤ q → q ≤ g → isSt t q → ((q = t.length ∨ t.getD q 0 = 10) ↔ (f = t.length ∨ t.getD f 0 = 10))) ∧
    Ev (fun k => object_Select.f k t (p : Int) 1 ⟨#[105, 112]⟩) ((f : Int), (g : Int), 3, 0) := by
  obtain ⟨f, g, h1, h2, h3, h4, h5⟩ := par_ev hu hl hp
  refine ⟨f, g, h1, h2, h3, h4, ?_⟩
  refine Ev.cbind (Of_eq hu (p : Int)) ?_
  rw [if_pos ⟨by omega, by omega⟩, Int.toNat_natCast]
  refine Ev.pos rfl (Ev.neg (by omega) (Ev.neg (by omega) (Ev.pos rfl (Ev.pos (by decide) (Ev.pos rfl ?_)))))
  refine Ev.step (fun _ => object_Select.j0.eq_2 ..) (Ev.neg Bool.false_ne_true (Ev.pos (by decide) (Ev.pos (by decide) (Ev.neg (by decide) ?_))))
  refine Ev.step (fun _ => object_Select.j1.eq_2 ..) (Ev.neg (by decide) (Ev.pos rfl ?_))
  exact Ev.bind h5 (Ev.pos rfl (Ev.now _))
omit hu in
theorem R_l1 {f g : Nat} (hg : g ≤ t.length) (hH : ∀ q, f ≤ q → q ≤ g → isSt t q → ((q = t.length ∨ t.getD q 0 = 10) ↔ (f = t.length ∨ t.getD f 0 = 10))) {em : Bool} (hem : em = true ↔ (f = t.length ∨ t.getD f 0 = 10)) {kd : Int} : ∀ (d q : Nat), q + d = g + 1 → f ≤ q → Ev (fun k => quoinlaw13_ObjectRuns.l1 k t em (q : Int) (f : Int) (g : Int) kd) true := by
  intro d
  induction d with
  | zero => intro q hq _; exact Ev.step (fun _ => quoinlaw13_ObjectRuns.l1.eq_2 ..) (Ev.neg (by omega) (Ev.now _))
  | succ d ih =>
    intro q hq hf
    have hw : wrap64 ((q : Int) + 1) = ((q + 1 : Nat) : Int) := by rw [wrap64_id (by omega) (by omega)]; omega
    have h2 := ih (q + 1) (by omega) (by omega)
    refine Ev.step (fun _ => quoinlaw13_ObjectRuns.l1.eq_2 ..) (Ev.pos (by omega) ?_)
    rw [hw]
    clear hw
    have inner : isSt t q → Ev (fun k => if (q : Int) = (t.length : Int) then (if (true != em) = true then (some false) else (quoinlaw13_ObjectRuns.l1 k t em ((q + 1 : Nat) : Int) (f : Int) (g : Int) kd)) else (if 0 ≤ (q : Int) then (if (q : Int) < (t.length : Int) then (if (((rd t (q : Int)) == 10) != em) = true then (some false) else (quoinlaw13_ObjectRuns.l1 k t em ((q + 1 : Nat) : Int) (f : Int) (g : Int) kd)) else (none)) else (none))) true := by
      intro hs
      have hv := hH q hf (by omega) hs
      by_cases hl1 : (q : Int) = (t.length : Int)
      · refine Ev.pos hl1 ?_
        have he : em = true := hem.2 (hv.1 (.inl (by omega)))
        rw [he]
        exact Ev.neg (by decide) (by rw [he] at h2; exact h2)
      · refine Ev.neg hl1 (Ev.pos (by omega) (Ev.pos (by omega) ?_))
        have he : ((rd t (q : Int)) == 10) = em := by
          rw [rd_nat]
          cases em with
          | true =>
            have := hv.2 (hem.1 rfl)
            rw [beq_iff_eq]
            rcases this with h | h
            · omega
            · exact h
          | false =>
            rw [beq_eq_false_iff_ne]
            intro h
            have := hem.2 (hv.1 (.inr h))
            cases this
        rw [he]
        exact Ev.neg (by simp) h2
    by_cases h0 : (q : Int) = 0
    · exact Ev.pos h0 (inner (.inl (by omega)))
    · refine Ev.neg h0 ?_
      have hw2 : wrap64 ((q : Int) - 1) = ((q - 1 : Nat) : Int) := by rw [wrap64_id (by omega) (by omega)]; omega
      rw [hw2]
      refine Ev.pos (by omega) (Ev.pos (by omega) ?_)
      by_cases h10 : rd t ((q - 1 : Nat) : Int) = 10
      · exact Ev.pos h10 (inner (.inr (by rw [rd_nat] at h10; exact h10)))
      · exact Ev.neg h10 h2
theorem R_j6 {p : Nat} (hp : p ≤ t.length) : Ev (fun k => quoinlaw13_ObjectRuns.j6 k t (p : Int)) true := by
  obtain ⟨f, g, h1, h2, h3, h4, h5⟩ := Select_p hu hl hp
  refine Ev.step (fun _ => quoinlaw13_ObjectRuns.j6.eq_2 ..) (Ev.bind h5 (Ev.pos rfl (Ev.neg (show ¬ (f : Int) > (p : Int) by omega) (Ev.neg (show ¬ (g : Int) < 0 by omega) (Ev.neg (show ¬ (g : Int) > (t.length : Int) by omega) ?_)))))
  rw [decide_eq_false (show ¬ ((f : Int) < 0) by omega)]
  refine Ev.step (fun _ => quoinlaw13_ObjectRuns.j7.eq_2 ..) (Ev.neg Bool.false_ne_true ?_)
  have fini : ∀ em : Bool, (em = true ↔ (f = t.length ∨ t.getD f 0 = 10)) → Ev (fun k => quoinlaw13_ObjectRuns.j8 k t em (f : Int) (g : Int) 3) true := fun em hem =>
    Ev.step (fun _ => quoinlaw13_ObjectRuns.j8.eq_2 ..) (by
      by_cases hfg : f ≤ g + 1
      · exact R_l1 hl h3 h4 hem (g + 1 - f) f (by omega) (Nat.le_refl _)
      · exact Ev.step (fun _ => quoinlaw13_ObjectRuns.l1.eq_2 ..) (Ev.neg (by omega) (Ev.now _)))
  by_cases hf : (f : Int) = (t.length : Int)
  · exact Ev.pos hf (fini true ⟨fun _ => .inl (by omega), fun _ => rfl⟩)
  · refine Ev.neg hf (Ev.pos (by omega) (Ev.pos (by omega) (fini _ ?_)))
    rw [rd_nat, beq_iff_eq]
    exact ⟨.inr, fun h => h.elim (fun h => by omega) id⟩
/-- The line's own part of a word's law. -/
theorem R_j2 {p f g : Nat} {big : Bool} {key : ByteArray} (hp : p ≤ t.length) (hk : key = if big = true then ⟨#[105, 87]⟩ else ⟨#[105, 119]⟩) (h1 : beg t p ≤ f) (h2 : f ≤ p) (h3 : p < g) (h4 : g ≤ fin t p) (h5 : ∀ j, f ≤ j → j < g → cl t big j = cl t big f) (h6 : f = beg t p ∨ cl t big (f - 1) ≠ cl t big f) (h7 : g < fin t p → cl t big g ≠ cl t big f)
    (h8 : g = fin t p → wordV t p 2 big (beg t p) (fin t p) = (0, 0, false)) (h9 : g < fin t p → ∃ g2 : Nat, wordV t p 2 big (beg t p) (fin t p) = ((f : Int), (g2 : Int), true) ∧ wordV t g 1 big (beg t p) (fin t p) = ((g : Int), (g2 : Int), true)) :
    Ev (fun k => quoinlaw13_ObjectRuns.j2 k t big (p : Int) key (cl t big f) false (f : Int) (g : Int) 1) true := by
  have hfl := fin_le hp
  have hbf := beg_fin hp
  have no10 : ∀ j, beg t p ≤ j → j < fin t p → t.getD j 0 ≠ 10 := fun j a b => fin_ne (t := t) (p := beg t p) a (by rw [hbf]; exact b)
  have c3 : cl t big f ≠ 3 := fun h => no10 f h1 (by omega) ((cls_ten _ _).1 h)
  have hend : g < t.length → cl t big g ≠ cl t big f := by
    intro hg
    by_cases hgf : g < fin t p
    · exact h7 hgf
    · have he : g = fin t p := by omega
      intro hc
      apply c3
      rw [← hc]
      exact (cls_ten _ _).2 (by rw [he]; exact fin_at (by omega))
  have hbeg : 0 < f → cl t big (f - 1) ≠ cl t big f := by
    intro hf0
    rcases h6 with h | h
    · intro hc
      apply c3
      rw [← hc]
      rcases beg_st t p with e | e
      · omega
      · exact (cls_ten _ _).2 (by rw [h]; exact e)
    · exact h
  have hsegl : ((t.take g).drop f).length = g - f := by rw [List.length_drop, List.length_take]; omega
  -- behind the loop
  have two := Select_w hu hl hp (c := 2) (by omega) (by omega) big hk
  have j4 : Ev (fun k => quoinlaw13_ObjectRuns.j4 k t (p : Int) key false (f : Int) (g : Int) 1) true := by
    refine Ev.step (fun _ => quoinlaw13_ObjectRuns.j4.eq_2 ..) (Ev.neg Bool.false_ne_true (Ev.bind two ?_))
    by_cases hgf : g < fin t p
    · obtain ⟨g2, w1, w2⟩ := h9 hgf
      have hsl := same_line (t := t) hp (q := g) (by omega) (by omega)
      have one := Select_w hu hl (p := g) (by omega) (c := 1) (by omega) (by omega) big hk
      rw [hsl.1, hsl.2, w2] at one
      rw [w1]
      refine Ev.neg (by omega) (Ev.pos (by omega) (Ev.pos (by omega) ?_))
      rw [show ((rd t (g : Int)) == 10) = false from by rw [rd_nat]; simpa using no10 g (by omega) hgf]
      exact Ev.step (fun _ => quoinlaw13_ObjectRuns.j5.eq_2 ..) (Ev.neg Bool.false_ne_true (Ev.bind one (Ev.pos rfl (Ev.pos rfl (Ev.pos rfl (Ev.pos rfl (Ev.pos rfl (R_j6 hu hl hp))))))))
    · rw [h8 (by omega)]
      have j5 : Ev (fun k => quoinlaw13_ObjectRuns.j5 k t (p : Int) key 130 true (f : Int) (g : Int) 1 0 0 0) true := Ev.step (fun _ => quoinlaw13_ObjectRuns.j5.eq_2 ..) (Ev.pos rfl (Ev.pos rfl (Ev.const rfl)))
      by_cases hgl : (g : Int) = (t.length : Int)
      · exact Ev.pos hgl j5
      · refine Ev.neg hgl (Ev.pos (by omega) (Ev.pos (by omega) ?_))
        have h10 : t.getD g 0 = 10 := by rw [show g = fin t p from by omega]; exact fin_at (by omega)
        rw [show ((rd t (g : Int)) == 10) = true from by rw [rd_nat, h10]; rfl]
        exact j5
  have tailE : Ev (fun k => if (g : Int) < (t.length : Int) then (if 0 ≤ (g : Int) then ((class_Of.f k (rd t (g : Int)) big).bind fun t478 => (quoinlaw13_ObjectRuns.j4 k t (p : Int) key (t478 == cl t big f) (f : Int) (g : Int) 1)) else (none)) else (quoinlaw13_ObjectRuns.j4 k t (p : Int) key false (f : Int) (g : Int) 1)) true := by
    by_cases hg : (g : Int) < (t.length : Int)
    · refine Ev.pos hg (Ev.pos (by omega) (Ev.bind (cls_ev _ _) ?_))
      rw [rd_nat, show (cls (t.getD g 0) big == cl t big f) = false from by rw [beq_eq_false_iff_ne]; exact hend (by omega)]
      exact j4
    · exact Ev.neg hg j4
  have l0 : ∀ (d j : Nat), f + j + d = g → Ev (fun k => quoinlaw13_ObjectRuns.l0 k t big (p : Int) key (cl t big f) ((t.take g).drop f) (((t.take g).drop f).length : Int) (j : Int) (f : Int) (g : Int) 1) true := by
    intro d
    induction d with
    | zero =>
      intro j hj
      refine Ev.step (fun _ => quoinlaw13_ObjectRuns.l0.eq_2 ..) (Ev.neg (by omega) ?_)
      by_cases hf0 : (f : Int) > 0
      · have hw : wrap64 ((f : Int) - 1) = ((f - 1 : Nat) : Int) := by rw [wrap64_id (by omega) (by omega)]; omega
        rw [hw]
        clear hw
        refine Ev.pos hf0 (Ev.pos (by omega) (Ev.pos (by omega) (Ev.bind (cls_ev _ _) ?_)))
        rw [rd_nat]
        exact Ev.neg (hbeg (by omega)) tailE
      · exact Ev.neg hf0 tailE
    | succ d ih =>
      intro j hj
      have h2 := ih (j + 1) (by omega)
      have q1 : (j : Int) < (((t.take g).drop f).length : Int) := by omega
      have q2 : (0 : Int) ≤ (j : Int) := by omega
      have q3 := h5 (f + j) (by omega) (by omega)
      have q4 : f + j < g := by omega
      have hw : wrap64 ((j : Int) + 1) = ((j + 1 : Nat) : Int) := by rw [wrap64_id (by omega) (by omega)]; omega
      refine Ev.step (fun _ => quoinlaw13_ObjectRuns.l0.eq_2 ..) (Ev.pos q1 (Ev.pos q2 (Ev.pos q1 (Ev.bind (cls_ev _ _) ?_))))
      rw [hw, seg_at q4]
      exact Ev.pos q3 h2
  refine Ev.step (fun _ => quoinlaw13_ObjectRuns.j2.eq_2 ..) (Ev.neg Bool.false_ne_true (Ev.pos (by omega) (Ev.pos (by omega) (Ev.pos (by omega) ?_))))
  rw [Int.toNat_natCast, Int.toNat_natCast]
  exact l0 (g - f) 0 (by omega)
theorem R_j0 {p : Nat} {big : Bool} {key : ByteArray} (hp : p ≤ t.length) (hk : key = if big = true then ⟨#[105, 87]⟩ else ⟨#[105, 119]⟩) : Ev (fun k => quoinlaw13_ObjectRuns.j0 k t big (p : Int) key) true := by
  have hfl := fin_le hp
  have hfg := fin_ge t p
  have one := Select_w hu hl hp (c := 1) (by omega) (by omega) big hk
  refine Ev.step (fun _ => quoinlaw13_ObjectRuns.j0.eq_2 ..) (Ev.bind one ?_)
  by_cases he : fin t p = p
  · rw [word_none he]
    have j1 : Ev (fun k => quoinlaw13_ObjectRuns.j1 k t big (p : Int) key 130 false 0 0 0) true := Ev.step (fun _ => quoinlaw13_ObjectRuns.j1.eq_2 ..) (Ev.neg Bool.false_ne_true (Ev.neg (by decide) (R_j6 hu hl hp)))
    by_cases hpl : (p : Int) = (t.length : Int)
    · exact Ev.pos hpl j1
    · refine Ev.neg hpl (Ev.pos (by omega) (Ev.pos (by omega) ?_))
      have h10 : t.getD p 0 = 10 := ((fin_ten hp).1 he).elim (fun h => by omega) id
      rw [show ((rd t (p : Int)) == 10) = true from by rw [rd_nat, h10]; rfl]
      exact j1
  · obtain ⟨f, g, h1, h2, h3, h4, h5, h6, h7, w1, h8, h9⟩ := word_some (t := t) (p := p) (by omega) big
    rw [w1, show (selW ((f : Int), (g : Int), true)) = ((f : Int), (g : Int), 1, 0) from rfl]
    refine Ev.neg (by omega) (Ev.pos (by omega) (Ev.pos (by omega) ?_))
    have h10 : t.getD p 0 ≠ 10 := fin_ne (Nat.le_refl _) (by omega)
    rw [show ((rd t (p : Int)) == 10) = false from by rw [rd_nat]; simpa using h10]
    refine Ev.step (fun _ => quoinlaw13_ObjectRuns.j1.eq_2 ..) (Ev.neg (show ¬ ((((0 : Int) != 0) != false) = true) by decide) (Ev.pos rfl (Ev.pos (by omega) (Ev.pos (by omega) (Ev.bind (cls_ev _ _) ?_)))))
    rw [rd_nat, show cls (t.getD p 0) big = cl t big f from h5 p h2 h3]
    refine Ev.neg (show ¬ (f : Int) > (p : Int) by omega) (Ev.neg (show ¬ (g : Int) ≤ (p : Int) by omega) (Ev.neg (show ¬ (f : Int) < 0 by omega) ?_))
    rw [decide_eq_false (show ¬ ((g : Int) > (t.length : Int)) by omega)]
    exact R_j2 hu hl hp hk h1 h2 h3 h4 h5 h6 h7 h8 h9
end
end
theorem ObjectRunsUpto : Say.ObjectRunsUpto := by
  intro t a big o0 o1 hb
  have hu : u8s t = true := u8s_ok o0
  have hl : t.length ≤ 1048576 := by
    have h1 := szSl_length (szOne (α := Int)) (fun _ => Nat.le_refl _) t
    omega
  refine Ev.rounds (g := fun k => quoinlaw13_ObjectRuns.f k t a big) ?_
  have wl : wrap64 ((t.length : Int) + 1) = (t.length : Int) + 1 := wrap64_id (by omega) (by omega)
  obtain ⟨v, v1, v2, v3⟩ := place_ok a o1 ((t.length : Int) + 1) (by omega)
  obtain ⟨p, rfl⟩ := Int.eq_ofNat_of_zero_le v2
  refine Ev.bind awake_ev (Ev.pos rfl ?_)
  rw [wl]
  refine Ev.cbind v1 ?_
  cases big with
  | true => exact Ev.pos rfl (R_j0 hu hl (by omega) rfl)
  | false => exact Ev.neg Bool.false_ne_true (R_j0 hu hl (by omega) rfl)
end Go.Proofs.YtcochbkdgjgaeaaDoor.Pure
end
section
namespace Go.Proofs.YtcochbkdgjgaeaaDoor.objectRunsUpto
open Go.ChangeShapes Go.WideShapes Go.ChangeAt Go.RowKit Go.Proofs.YtcochbkdgjgaeaaDoorW.PrintWords Go.Proofs.YtcochbkdgjgaeaaDoor.X Go.Proofs.YtcochbkdgjgaeaaDoor.XO
open Go.ChangeMaps (open_string shut_string)
set_option linter.unusedVariables false
theorem own : ownKnob Tryd.prog.godebug = none := by kernel_rfl
theorem laidOut : laidOutB Tryd.prog = true := by kernel_rfl
theorem walk (A0 : Option Addr) (c0 : Nat) (l0 : List Int) (a1 : Int) (a2 : Bool) (w : World) (hr0 : Kd.C (Kd.int .u8) w A0 l0.length l0) (hc0 : l0.length ≤ c0) (o0 : (okSl 1 okU8) l0) (o1 : okI64 a1) (hb : ((szSl szOne) l0 + szOne a1 + szOne a2 ≤ 1048576)) :
    Calls Tryd.prog 6 #[.slice A0 l0.length c0, .int .i64 a1, .bool a2] w fun e w' => e = .returned (.bool true) ∧ Below w.heap.size w w' := by
  obtain ⟨k, h⟩ := Go.Proofs.YtcochbkdgjgaeaaDoor.Pure.ObjectRunsUpto l0 a1 a2 o0 o1 hb
  refine (quoinlaw13_ObjectRuns.calls k A0 c0 l0 a1 a2 true w hr0 hc0 h).mono ?_
  rintro e w' ⟨rfl, hd⟩
  exact ⟨rfl, hd⟩
theorem contract (H : Type) (enc : TypeId × Value → H) (W : World) (base : Nat) (args : Array Value) (ds gs : List (DataW H)) (before : List MemPlace)
    (hval0 : ∀ (j : Nat) t v, Tryd.f6.params[j]? = some t → args[j]? = some v → Value.okWide Tryd.prog W .any base t v)
    (hW : DataW.Whole enc Tryd.prog Tryd.f6.params.toList Rows.objectRunsSpec.vars false W args.toList ds gs before) (hk0 : Rows.uptoSmall H (ds ++ gs) = true)
    (hsz0 : (DataW.weightsEach Tryd.prog (Tryd.f6.params.toList ++ (Rows.OpenSpec.upto Rows.objectRunsSpec).bare.plain.varTypes Tryd.prog) (ds ++ gs)).all (· ≤ reachBytes) = true) :
    Calls Tryd.prog 6 args W fun e W' => ∃ v, e = .returned v ∧ Rows.objectRunsSpec.post enc Tryd.prog Tryd.f6 false true false false W args v W' := by
  have hsz : (DataW.weightsEach Tryd.prog (Tryd.f6.params.toList ++ (Rows.OpenSpec.upto Rows.objectRunsSpec).bare.plain.varTypes Tryd.prog) (ds ++ gs)).all (· ≤ reachBytes) = true := hsz0
  have hval : ∀ (j : Nat) t v, Tryd.f6.params[j]? = some t → args[j]? = some v → Value.okWide Tryd.prog W .any base t v := hval0
  have hW' := hW
  obtain ⟨p, q, hA0, hV, rfl, hfz, hnd⟩ := hW
  have hA : DataW.TrodAll enc Tryd.prog W 0 (fun _ => true) true Tryd.f6.params.toList args.toList ds p := hA0
  rw [Tryd.params6] at hA hval hsz
  obtain ⟨v0, vs0, d0, ds0, p0, q0, hargs, rfl, rfl, h0, r0⟩ := trodAll_cons hA
  obtain ⟨v1, vs1, d1, ds1, p1, q1, rfl, rfl, rfl, h1, r1⟩ := trodAll_cons r0
  obtain ⟨v2, vs2, d2, ds2, p2, q2, rfl, rfl, rfl, h2, r2⟩ := trodAll_cons r1
  obtain ⟨rfl, rfl, rfl⟩ := trodAll_nil r2
  obtain rfl : args = #[v0, v1, v2] := by cases args; simp_all
  obtain ⟨rfl, rfl⟩ := trodVars_none hV
  have hk : Rows.uptoBulkAll ([d0, d1, d2] ++ []) ≤ 1048576 := of_decide_eq_true hk0
  have k0 := h0
  have lt0 : ∀ x ∈ p0, x.block < W.heap.size := by obtain ⟨m, hm⟩ := k0; exact DataW.trod_lt m _ _ _ hm
  have wt0 := weightsEach_at (j := 0) (t := 22) (d := d0) rfl rfl hsz
  obtain ⟨fuel0, hf0⟩ := h0
  obtain ⟨l0, K0, o0, s0⟩ := (Opens.get (opens_sl (B := 1) Tryd.underlying22 (opens_u8 Tryd.underlying5) (by kernel_rfl) (by kernel_rfl)) hf0 wt0)
  obtain ⟨A0, n0, c0, rfl⟩ := okWide_slice Tryd.underlying22 (hval 0 22 v0 rfl rfl)
  obtain ⟨A'0, c'0, e0, hc0, hr0⟩ := K0
  obtain ⟨rfl, rfl, rfl⟩ : A0 = A'0 ∧ n0 = l0.length ∧ c0 = c'0 := by simpa [Value.cells] using e0
  replace s0 : (szSl szOne) l0 ≤ Rows.uptoBulk d0 := s0
  have k1 := h1
  have lt1 : ∀ x ∈ p1, x.block < W.heap.size := by obtain ⟨m, hm⟩ := k1; exact DataW.trod_lt m _ _ _ hm
  have wt1 := weightsEach_at (j := 1) (t := 3) (d := d1) rfl rfl hsz
  obtain ⟨fuel1, hf1⟩ := h1
  obtain ⟨a1, K1, o1, s1⟩ := (Opens.get (opens_i64 Tryd.underlying3) hf1 wt1)
  obtain ⟨b1, rfl⟩ : ∃ z, v1 = .int .i64 z := by obtain ⟨z, hz, _⟩ := open_int Tryd.underlying3 (hval 1 3 v1 rfl rfl) k1; exact ⟨z, hz⟩
  obtain rfl : b1 = a1 := by have z : [Value.int .i64 b1] = [Value.int .i64 a1] := K1; simpa using z
  replace s1 : szOne b1 ≤ Rows.uptoBulk d1 := s1
  have k2 := h2
  have lt2 : ∀ x ∈ p2, x.block < W.heap.size := by obtain ⟨m, hm⟩ := k2; exact DataW.trod_lt m _ _ _ hm
  have wt2 := weightsEach_at (j := 2) (t := 4) (d := d2) rfl rfl hsz
  obtain ⟨fuel2, hf2⟩ := h2
  obtain ⟨a2, K2, o2, s2⟩ := (Opens.get (opens_bool Tryd.underlying4) hf2 wt2)
  obtain ⟨b2, rfl⟩ : ∃ z, v2 = .bool z := by obtain ⟨z, hz, _⟩ := open_bool Tryd.underlying4 (hval 2 4 v2 rfl rfl) k2; exact ⟨z, hz⟩
  obtain rfl : b2 = a2 := by have z : [Value.bool b2] = [Value.bool a2] := K2; simpa using z
  replace s2 : szOne b2 ≤ Rows.uptoBulk d2 := s2
  simp only [List.cons_append, List.nil_append, Rows.uptoBulkAll] at hk
  refine (walk A0 c0 l0 b1 b2 W hr0 hc0 o0 o1 (by omega)).mono fun e W' ⟨he, bel⟩ => ?_
  subst he
  exact ⟨_, rfl, _, _, _, [], _, [], hW', trodAll_mk1 (shut_bool Tryd.underlying4 _), (trodAll_cons_mk (Below.trod laidOut (by kernel_rfl) (of_decide_eq_true (by kernel_rfl)) k0 bel lt0) (trodAll_cons_mk (Below.trod laidOut (by kernel_rfl) (of_decide_eq_true (by kernel_rfl)) k1 bel lt1) (trodAll_cons_mk (Below.trod laidOut (by kernel_rfl) (of_decide_eq_true (by kernel_rfl)) k2 bel lt2) trodAll_mk0))), rfl, bel.frame _, fun h => by cases h⟩
theorem laid_met (os : Os) (args : Array Value) : laidMetH Tryd.prog Rows.objectRunsUptoRow.laid ((World.laidAll Tryd.prog os Rows.objectRunsUptoRow.laid).forCall (fun _ _ => 0) ⟨#[], args, []⟩).memory := by
  rw [MakeChecks.laidMetH_plain _ _ _ (by kernel_rfl)]
  exact laidMet_laidAll _ (by kernel_rfl) (by kernel_rfl)
set_option maxRecDepth 100000 in
theorem lifted (os : Os) (started : os.Started) (H : Type) (enc : TypeId × Value → H) (F : Stop.Interp) :
    ReturnsInHanded {} Tryd.checked os 6 .any ((Rows.OpenSpec.upto Rows.objectRunsSpec).preRow enc Tryd.prog Tryd.f6 Rows.objectRunsUptoRow.domain false Rows.objectRunsUptoRow.laid) (((Rows.OpenSpec.upto Rows.objectRunsSpec).at F).post enc Tryd.prog Tryd.f6 false true false false) := by
  have hok : Input.okWideB Tryd.prog ((World.laidAll Tryd.prog os Rows.objectRunsUptoRow.laid).forCall (fun _ _ => 0) ⟨#[], #[.slice none 0 0, .int .i64 0, .bool false], []⟩) 6 ⟨#[], #[.slice none 0 0, .int .i64 0, .bool false], []⟩ = true := by kernel_rfl
  have hx : DataW.whole enc Tryd.prog ((World.laidAll Tryd.prog os Rows.objectRunsUptoRow.laid).forCall (fun _ _ => 0) ⟨#[], #[.slice none 0 0, .int .i64 0, .bool false], []⟩).memory Tryd.f6.params.toList (Rows.OpenSpec.upto Rows.objectRunsSpec).vars false (#[.slice none 0 0, .int .i64 0, .bool false] : Array Value).toList 8 = some ([.nil, .lit (.int .i64 0), .lit (.bool false)], [], []) := by kernel_rfl
  refine returnsInHanded_of_row (C := Tryd.checked) (s := Rows.OpenSpec.upto Rows.objectRunsSpec) own started (by kernel_rfl) Tryd.func6
    ⟨World.laidAll Tryd.prog os Rows.objectRunsUptoRow.laid, fun _ _ => 0, ⟨#[], #[.slice none 0 0, .int .i64 0, .bool false], []⟩, World.laidAll_os _ _ _, World.shaped_of_ZipB (by kernel_rfl) (by kernel_rfl), (Input.okWide_of_okWideB (base := 0) hok).1, (Input.okWide_of_okWideB hok).2,
      OpenSpec.preRow_of_cond 8 hx (by kernel_rfl) (fun k hk => by cases hk; kernel_rfl) (by kernel_rfl) (laid_met os _), by
        simp only [Assume.holds]
        exact ⟨by simp, by simp, fun _ => Modest.zero, by simp, by simp⟩⟩ ?_
  intro W base args ds gs before hval0 hW _ hk0 hsz0 _ _ _
  exact contract H enc W base args ds gs before hval0 hW (hk0 _ rfl) hsz0
theorem proved : Rows.ObjectRunsUptoSaid :=
  OpenClaim.holds_of_cond 6 Tryd.f6 rfl rfl rfl rfl rfl rfl rfl ⟨rfl, rfl, rfl, rfl, rfl⟩ rfl rfl rfl rfl rfl (by kernel_rfl) Tryd.func6 (by kernel_rfl)
    (of_decide_eq_true (by kernel_rfl)) (by unfold Func.isWrapper; first | (rw [if_pos (by decide +kernel)]; kernel_rfl) | (rw [if_neg (by decide +kernel)]; exact ⟨rfl, rfl⟩))
    (fun os started H enc _ F => by rw [OpenClaim.pre_eq_preRow]; exact lifted os started H enc F)
theorem plain (f : FuncId) (fn : Func) (hf : Tryd.pinned.checked.prog.funcNamed Rows.objectRunsUptoRow.func = some f) (hfn : Tryd.pinned.checked.prog.funcs[f]? = some fn) :
    false = Tryd.pinned.checked.prog.looks [] ∧ ∀ (j : Nat) t, fn.params[j]? = some t → Tryd.pinned.checked.prog.wantsStandIn t = false := by
  obtain rfl : f = 6 := Option.some.inj ((show Tryd.prog.funcNamed Rows.objectRunsUptoRow.func = some 6 by kernel_rfl).symm.trans hf) |>.symm
  obtain rfl : fn = Tryd.f6 := (Option.some.inj (Tryd.func6.symm.trans hfn)).symm
  refine ⟨by kernel_rfl, fun j t ht => ?_⟩
  rw [Tryd.params6] at ht
  have hm : t ∈ [22, 3, 4] := by simpa using Array.mem_of_getElem? ht
  have hall : ([22, 3, 4].all fun u => !Tryd.prog.wantsStandIn u) = true := by kernel_rfl
  exact (show Tryd.prog.wantsStandIn t = false by simpa using List.all_eq_true.1 hall t hm)
theorem card : Rows.ObjectRunsUptoCardSaid :=
  Claim7.holds_tied_plain_at .later [] _ _ _ _ proved (fun _ h => by cases h) (by kernel_rfl) (fun _ h => by cases h) objectRunsUpto_row_tie rfl ⟨rfl, rfl⟩ (by kernel_rfl) rfl plain (by kernel_rfl)
#print axioms card
end Go.Proofs.YtcochbkdgjgaeaaDoor.objectRunsUpto
namespace Go.Proofs.YtcochbkdgjgaeaaDoor
/-- The card, under a short name, for the claim. -/
theorem objectRunsUpto_holds : Rows.ObjectRunsUptoCardSaid := objectRunsUpto.card
end Go.Proofs.YtcochbkdgjgaeaaDoor
end
