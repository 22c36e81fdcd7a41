/-
  Texts of one proof in one file (wip/some.py): OVB, OVX, WalkObjectNests.
  Conditions: none.
-/
import Derived.Test.YtcochbkdgjgaeaaDoorLN
import Derived.Test.YtcochbkdgjgaeaaDoorX22
import Derived.Test.YtcochbkdgjgaeaaDoorX21
import Derived.Test.YtcochbkdgjgaeaaDoorX24
import Derived.Test.YtcochbkdgjgaeaaDoorXS
import Derived.Test.YtcochbkdgjgaeaaDoorX50
import Derived.Test.YtcochbkdgjgaeaaDoorX25
import Derived.Lib.Hide
import Derived.Lib.OthersKept
section
namespace Go.Proofs.YtcochbkdgjgaeaaDoor.OVB
open Go.RowKit Go.Proofs.YtcochbkdgjgaeaaDoorW.PrintWords Go.Proofs.YtcochbkdgjgaeaaDoorW.PrintMore Go.Proofs.YtcochbkdgjgaeaaDoor.X Go.Proofs.YtcochbkdgjgaeaaDoor.XL Go.Proofs.YtcochbkdgjgaeaaDoor.XO Go.Proofs.YtcochbkdgjgaeaaDoor.LN
set_option linter.unusedVariables false
/-- The pairs of brackets, in the order of their closing ones. -/
def prs (op cl : Int) : List Int → Nat → List Nat → List (Nat × Nat)
  | [], _, _ => []
  | c :: l, p, st =>
    if c = op then prs op cl l (p + 1) (p :: st)
    else if c = cl then
      match st with
      | [] => prs op cl l (p + 1) []
      | o :: st => (o, p) :: prs op cl l (p + 1) st
    else prs op cl l (p + 1) st
/-- Of two pairs: the first one closes first, and they nest or lie apart. -/
def RP (x y : Nat × Nat) : Prop := x.2 < y.2 ∧ (y.1 < x.1 ∨ x.2 < y.1)
def inP (a : Nat) (x : Nat × Nat) : Bool := decide (x.1 ≤ a) && decide (a ≤ x.2)
theorem inP_iff (a : Nat) (x : Nat × Nat) : inP a x = true ↔ x.1 ≤ a ∧ a ≤ x.2 := by unfold inP; simp
theorem prs_spec {op cl : Int} (t : List Int) : ∀ (l : List Int) (p : Nat) (st : List Nat), t.drop p = l → st.Pairwise (· > ·) → (∀ s ∈ st, s < p ∧ t.getD s 0 = op) →
    (∀ x ∈ prs op cl l p st, p ≤ x.2 ∧ x.2 < t.length ∧ x.1 < x.2 ∧ (x.1 ∈ st ∨ p ≤ x.1) ∧ t.getD x.1 0 = op ∧ t.getD x.2 0 = cl) ∧ (prs op cl l p st).Pairwise RP := by
  intro l
  induction l with
  | nil => intro p st _ _ _; exact ⟨fun x hx => (by cases hx), List.Pairwise.nil⟩
  | cons c l ih =>
    intro p st hd hs hst
    have hp : p < t.length := by
      have h := congrArg List.length hd
      rw [List.length_drop, List.length_cons] at h
      omega
    have hc : t.getD p 0 = c := by
      rw [List.drop_eq_getElem_cons hp] at hd
      rw [List.getD_eq_getElem?_getD, List.getElem?_eq_getElem hp]
      exact (List.cons.inj hd).1
    have hd2 : t.drop (p + 1) = l := by
      rw [List.drop_eq_getElem_cons hp] at hd
      exact (List.cons.inj hd).2
    have hst2 : ∀ s ∈ st, s < p + 1 ∧ t.getD s 0 = op := fun s h => ⟨by have := (hst s h).1; omega, (hst s h).2⟩
    unfold prs
    by_cases h1 : c = op
    · rw [if_pos h1]
      obtain ⟨i1, i2⟩ := ih (p + 1) (p :: st) hd2 (List.pairwise_cons.2 ⟨fun s h => (hst s h).1, hs⟩) (by
        intro s h
        rcases List.mem_cons.1 h with rfl | h
        · exact ⟨by omega, by rw [hc, h1]⟩
        · exact hst2 s h)
      refine ⟨fun x hx => ?_, i2⟩
      obtain ⟨a1, a2, a3, a4, a5, a6⟩ := i1 x hx
      refine ⟨by omega, a2, a3, ?_, a5, a6⟩
      rcases a4 with h | h
      · rcases List.mem_cons.1 h with h | h
        · exact .inr (by omega)
        · exact .inl h
      · exact .inr (by omega)
    · rw [if_neg h1]
      by_cases h2 : c = cl
      · rw [if_pos h2]
        cases st with
        | nil =>
          obtain ⟨i1, i2⟩ := ih (p + 1) [] hd2 List.Pairwise.nil (fun s h => by cases h)
          refine ⟨fun x hx => ?_, i2⟩
          obtain ⟨a1, a2, a3, a4, a5, a6⟩ := i1 x hx
          refine ⟨by omega, a2, a3, ?_, a5, a6⟩
          rcases a4 with h | h
          · exact .inl h
          · exact .inr (by omega)
        | cons o st =>
          have hs2 := List.pairwise_cons.1 hs
          obtain ⟨i1, i2⟩ := ih (p + 1) st hd2 hs2.2 (fun s h => hst2 s (List.mem_cons_of_mem _ h))
          have ho := hst o List.mem_cons_self
          refine ⟨fun x hx => ?_, List.pairwise_cons.2 ⟨fun x hx => ?_, i2⟩⟩
          · rcases List.mem_cons.1 hx with rfl | hx
            · exact ⟨Nat.le_refl _, hp, ho.1, .inl List.mem_cons_self, ho.2, by rw [hc, h2]⟩
            · obtain ⟨a1, a2, a3, a4, a5, a6⟩ := i1 x hx
              refine ⟨by omega, a2, a3, ?_, a5, a6⟩
              rcases a4 with h | h
              · exact .inl (List.mem_cons_of_mem _ h)
              · exact .inr (by omega)
          · obtain ⟨a1, a2, a3, a4, a5, a6⟩ := i1 x hx
            refine ⟨by show p < x.2; omega, ?_⟩
            rcases a4 with h | h
            · exact .inl (hs2.1 x.1 h)
            · exact .inr (by show p < x.1; omega)
      · rw [if_neg h2]
        obtain ⟨i1, i2⟩ := ih (p + 1) st hd2 hs hst2
        refine ⟨fun x hx => ?_, i2⟩
        obtain ⟨a1, a2, a3, a4, a5, a6⟩ := i1 x hx
        refine ⟨by omega, a2, a3, ?_, a5, a6⟩
        rcases a4 with h | h
        · exact .inl h
        · exact .inr (by omega)
/-- The n-th pair about a place, counted from 0. -/
def nthP (op cl : Int) (t : List Int) (a n : Nat) : Option (Nat × Nat) := ((prs op cl t 0 []).filter (inP a))[n]?
theorem prs_all {op cl : Int} (t : List Int) : (∀ x ∈ prs op cl t 0 [], x.2 < t.length ∧ x.1 < x.2 ∧ t.getD x.1 0 = op ∧ t.getD x.2 0 = cl) ∧ (prs op cl t 0 []).Pairwise RP := by
  have h := prs_spec (op := op) (cl := cl) t t 0 [] rfl List.Pairwise.nil (fun s h => by cases h)
  exact ⟨fun x hx => by obtain ⟨_, a2, a3, _, a5, a6⟩ := h.1 x hx; exact ⟨a2, a3, a5, a6⟩, h.2⟩
theorem nth_mem {op cl : Int} {t : List Int} {a n : Nat} {x : Nat × Nat} (h : nthP op cl t a n = some x) : x ∈ prs op cl t 0 [] ∧ x.1 ≤ a ∧ a ≤ x.2 := by
  have h1 := List.mem_of_getElem? h
  rw [List.mem_filter] at h1
  exact ⟨h1.1, (inP_iff _ _).1 h1.2⟩
theorem nth_next {op cl : Int} {t : List Int} {a n : Nat} {x y : Nat × Nat} (h : nthP op cl t a n = some x) (h2 : nthP op cl t a (n + 1) = some y) : y.1 < x.1 ∧ x.2 < y.2 := by
  have hp := (prs_all (op := op) (cl := cl) t).2.filter (inP a)
  obtain ⟨l1, e1⟩ := List.getElem?_eq_some_iff.1 h
  obtain ⟨l2, e2⟩ := List.getElem?_eq_some_iff.1 h2
  have hr := List.pairwise_iff_getElem.1 hp n (n + 1) l1 l2 (by omega)
  rw [e1, e2] at hr
  have hx := nth_mem h
  have hy := nth_mem h2
  rcases hr.2 with h3 | h3
  · exact ⟨h3, hr.1⟩
  · omega
theorem nth_none {op cl : Int} {t : List Int} {a n : Nat} (h : nthP op cl t a n = none) : nthP op cl t a (n + 1) = none := by
  unfold nthP at h ⊢
  rw [List.getElem?_eq_none_iff] at h ⊢
  omega
theorem filter_head {α : Type} {q : α → Bool} {A B : List α} {x : α} (hA : ∀ y ∈ A, q y = false) (hx : q x = true) : ((A ++ x :: B).filter q)[0]? = some x := by
  rw [List.filter_append, List.filter_eq_nil_iff.2 (fun y hy => by rw [hA y hy]; simp), List.nil_append, List.filter_cons_of_pos hx]
  rfl
theorem inP_false {a : Nat} {x : Nat × Nat} (h : ¬ (x.1 ≤ a ∧ a ≤ x.2)) : inP a x = false := by
  cases e : inP a x with
  | false => rfl
  | true => exact absurd ((inP_iff _ _).1 e) h
/-- From either of its brackets a pair is the first one. -/
theorem nth_own {op cl : Int} {t : List Int} {x : Nat × Nat} (h : x ∈ prs op cl t 0 []) : nthP op cl t x.1 0 = some x ∧ nthP op cl t x.2 0 = some x := by
  have ha := prs_all (op := op) (cl := cl) t
  have hx := ha.1 x h
  obtain ⟨A, B, e⟩ := List.append_of_mem h
  rw [e] at ha
  have hA : ∀ y ∈ A, RP y x := fun y hy => (List.pairwise_append.1 ha.2).2.2 y hy x List.mem_cons_self
  unfold nthP
  rw [e]
  constructor
  · exact filter_head (fun y hy => inP_false (by have h1 := hA y hy; rcases h1.2 with h2 | h2 <;> omega)) ((inP_iff _ _).2 ⟨Nat.le_refl _, by omega⟩)
  · exact filter_head (fun y hy => inP_false (by have h1 := (hA y hy).1; omega)) ((inP_iff _ _).2 ⟨by omega, Nat.le_refl _⟩)
/-- The places that stand open, as the program holds them. -/
def stI (st : List Nat) : List Int := st.reverse.map (fun n : Nat => (n : Int))
theorem stI_cons (o : Nat) (st : List Nat) : stI (o :: st) = stI st ++ [(o : Int)] := by simp [stI]
theorem stI_len (st : List Nat) : (stI st).length = st.length := by simp [stI]
def brkV (around : Bool) : Option (Nat × Nat) → Int × Int × Bool
  | none => (0, 0, false)
  | some x => if around = true then ((x.1 : Int), (x.2 : Int) + 1, true) else ((x.1 : Int) + 1, (x.2 : Int), true)
theorem at_drop {t : List Int} {i : Nat} {c : Int} {l : List Int} (h : t.drop i = c :: l) : i < t.length ∧ rd t (i : Int) = c ∧ t.drop (i + 1) = l := by
  have hi : i < t.length := by
    have h1 := congrArg List.length h
    rw [List.length_drop, List.length_cons] at h1
    omega
  rw [List.drop_eq_getElem_cons hi] at h
  refine ⟨hi, ?_, (List.cons.inj h).2⟩
  unfold rd
  rw [Int.toNat_natCast, List.getD_eq_getElem?_getD, List.getElem?_eq_getElem hi]
  exact (List.cons.inj h).1
theorem brk_l0 {t : List Int} {op cl : Int} {p : Nat} {around : Bool} (hl : t.length ≤ 1048576) (hne : op ≠ cl) : ∀ (l : List Int) (i : Nat) (st : List Nat) (c : Nat), t.drop i = l → st.length ≤ i → (∀ s ∈ st, s < i) → c + 1 ≤ 9999 →
    Ev (fun k => object_bracketed.l0 k (p : Int) ((c + 1 : Nat) : Int) op around cl (stI st) t (t.length : Int) (i : Int)) (brkV around (((prs op cl l i st).filter (inP p))[c]?)) := by
  intro l
  induction l with
  | nil =>
    intro i st c hd _ _ _
    have hi : t.length ≤ i := List.drop_eq_nil_iff.1 hd
    exact Ev.step (fun _ => object_bracketed.l0.eq_2 ..) (Ev.neg (by omega) (Ev.now _))
  | cons b l ih =>
    intro i st c hd hsl hst hc
    obtain ⟨hi, hb, hd2⟩ := at_drop hd
    have hst2 : ∀ s ∈ st, s < i + 1 := fun s h => by have := hst s h; omega
    have hlen := stI_len st
    have b1 : (i : Int) < (t.length : Int) := by omega
    have b2 : (0 : Int) ≤ (i : Int) := by omega
    have b3 : (stI st).length < 17592186044416 := by omega
    have hw : wrap64 ((i : Int) + 1) = ((i + 1 : Nat) : Int) := by rw [wrap64_id (by omega) (by omega)]; omega
    refine Ev.step (fun _ => object_bracketed.l0.eq_2 ..) (Ev.pos b1 (Ev.pos b2 (Ev.pos b1 ?_)))
    rw [hb]
    unfold prs
    by_cases h1 : b = op
    · rw [if_pos h1]
      refine Ev.pos h1 (Ev.pos b3 (Ev.step (fun _ => object_bracketed.j1.eq_2 ..) (Ev.neg (fun h2 => hne (h1.symm.trans h2)) (Ev.step (fun _ => object_bracketed.j2.eq_2 ..) (Ev.pos rfl ?_)))))
      rw [hw, ← stI_cons]
      refine ih (i + 1) (i :: st) c hd2 (by rw [List.length_cons]; clear hw; omega) (fun s h => ?_) hc
      rcases List.mem_cons.1 h with rfl | h
      · exact Nat.lt_succ_self _
      · exact hst2 s h
    · rw [if_neg h1]
      refine Ev.neg h1 ?_
      by_cases h2 : b = cl
      · rw [if_pos h2]
        refine Ev.step (fun _ => object_bracketed.j1.eq_2 ..) (Ev.pos h2 ?_)
        cases st with
        | nil =>
          refine Ev.step (fun _ => object_bracketed.j2.eq_2 ..) (Ev.pos rfl ?_)
          rw [hw]
          exact ih (i + 1) [] c hd2 (Nat.zero_le _) (fun s h => by cases h) hc
        | cons o st =>
          have ho := hst o List.mem_cons_self
          have hll : (stI (o :: st)).length = st.length + 1 := hlen
          have hsl2 : st.length + 1 ≤ i := hsl
          have n0 : ¬ ((((stI (o :: st)).length : Int) == 0) = true) := by rw [hll]; simp; omega
          have hwl : wrap64 (((stI (o :: st)).length : Int) - 1) = (st.length : Int) := by rw [hll, wrap64_id (by clear hw; omega) (by clear hw; omega)]; clear hw; omega
          have q1 : (0 : Int) ≤ (st.length : Int) := by clear hw hwl; omega
          have q2 : (st.length : Int) < ((stI (o :: st)).length : Int) := by clear hw hwl; omega
          have q3 : (st.length : Int) ≤ ((stI (o :: st)).length : Int) := by clear hw hwl; omega
          have htk : (stI (o :: st)).take ((st.length : Int)).toNat = stI st := by rw [Int.toNat_natCast, stI_cons, ← stI_len st, List.take_left]
          have hrd : rd (stI (o :: st)) (st.length : Int) = (o : Int) := by
            unfold rd
            rw [Int.toNat_natCast, stI_cons, ← stI_len st]
            exact getD_mid _ _ _ _
          refine Ev.step (fun _ => object_bracketed.j2.eq_2 ..) (Ev.neg n0 ?_)
          rw [hwl]
          refine Ev.pos q1 (Ev.pos q2 (Ev.pos q3 (Ev.cbind rfl ?_)))
          rw [htk, hrd]
          have goon : ∀ c' : Nat, c' + 1 ≤ 9999 → Ev (fun k => object_bracketed.l0 k (p : Int) ((c' + 1 : Nat) : Int) op around cl (stI st) t (t.length : Int) (wrap64 ((i : Int) + 1))) (brkV around (((prs op cl l (i + 1) st).filter (inP p))[c']?)) := by
            intro c' hc'
            rw [hw]
            exact ih (i + 1) st c' hd2 (by clear hw hwl; omega) (fun s h => hst2 s (List.mem_cons_of_mem _ h)) hc'
          have no : inP p (o, i) = false → brkV around ((((o, i) :: prs op cl l (i + 1) st).filter (inP p))[c]?) = brkV around (((prs op cl l (i + 1) st).filter (inP p))[c]?) := by
            intro h
            rw [List.filter_cons_of_neg (by rw [h]; exact Bool.false_ne_true)]
          by_cases h3 : (o : Int) > (p : Int)
          · refine Ev.pos h3 (Ev.step (fun _ => object_bracketed.j3.eq_2 ..) (Ev.pos rfl ?_))
            rw [no (inP_false (by clear hw hwl; simp only; omega))]
            exact goon c hc
          · refine Ev.neg h3 ?_
            by_cases h4 : (i : Int) < (p : Int)
            · rw [decide_eq_true h4]
              refine Ev.step (fun _ => object_bracketed.j3.eq_2 ..) (Ev.pos rfl ?_)
              rw [no (inP_false (by clear hw hwl; simp only; omega))]
              exact goon c hc
            · rw [decide_eq_false h4]
              have hin : inP p (o, i) = true := (inP_iff _ _).2 (by clear hw hwl; simp only; omega)
              have hwc : wrap64 (((c + 1 : Nat) : Int) - 1) = (c : Int) := by clear hw hwl; rw [wrap64_id (by omega) (by omega)]; omega
              refine Ev.step (fun _ => object_bracketed.j3.eq_2 ..) (Ev.neg Bool.false_ne_true ?_)
              rw [List.filter_cons_of_pos hin, hwc]
              cases c with
              | zero =>
                refine Ev.neg (by clear hw hwl hwc; omega) ?_
                show Ev _ (brkV around (some (o, i)))
                unfold brkV
                have hw1 : wrap64 ((o : Int) + 1) = (o : Int) + 1 := by clear hw hwl hwc; exact wrap64_id (by omega) (by omega)
                have hw2 : wrap64 ((i : Int) + 1) = (i : Int) + 1 := by clear hw hwl hwc hw1; exact wrap64_id (by omega) (by omega)
                rw [hw1, hw2]
                by_cases ha : around = true
                · simp only [if_pos ha]
                  exact Ev.now _
                · simp only [if_neg ha]
                  exact Ev.now _
              | succ c =>
                refine Ev.pos (by clear hw hwl hwc; omega) ?_
                exact goon c (by clear hw hwl hwc; omega)
      · rw [if_neg h2]
        refine Ev.step (fun _ => object_bracketed.j1.eq_2 ..) (Ev.neg h2 (Ev.step (fun _ => object_bracketed.j2.eq_2 ..) (Ev.pos rfl ?_)))
        rw [hw]
        exact ih (i + 1) st c hd2 (by clear hw; omega) hst2 hc
theorem bracketed_ev {t : List Int} (hl : t.length ≤ 1048576) {op cl : Int} (hne : op ≠ cl) {d : Bool} (hP : class_Partner.f op = some (cl, d, true)) {p c : Nat} (h1 : c + 1 ≤ 9999) (around : Bool) :
    Ev (fun k => object_bracketed.f k t (p : Int) ((c + 1 : Nat) : Int) op around) (brkV around (nthP op cl t p c)) :=
  Ev.cbind hP (brk_l0 hl hne t 0 [] c rfl (Nat.zero_le _) (fun s h => by cases h) h1)
end Go.Proofs.YtcochbkdgjgaeaaDoor.OVB
end
section
namespace Go.Proofs.YtcochbkdgjgaeaaDoor.OVX
open Go.RowKit Go.Proofs.YtcochbkdgjgaeaaDoorW.PrintWords Go.Proofs.YtcochbkdgjgaeaaDoorW.PrintMore Go.Proofs.YtcochbkdgjgaeaaDoor.X Go.Proofs.YtcochbkdgjgaeaaDoor.XL Go.Proofs.YtcochbkdgjgaeaaDoor.XO Go.Proofs.YtcochbkdgjgaeaaDoor.LN Go.Proofs.YtcochbkdgjgaeaaDoor.OVB
set_option linter.unusedVariables false
def selW (kd : Int) (r : Int × Int × Bool) : Int × Int × Int × Int := if r.2.2 = true then (r.1, r.2.1, kd, 0) else (0, 0, 0, 130)
/-- A bracket's key. -/
structure BKey (x op cl : Int) : Prop where
  no : x ≠ 119 ∧ x ≠ 87 ∧ x ≠ 112 ∧ x ≠ 34 ∧ x ≠ 39 ∧ x ≠ 96
  key : ∃ j, strings_IndexByte.f (⟨#[40, 41, 98, 91, 93, 123, 125, 66]⟩ : ByteArray) x = some j ∧ j ≥ 0
  opens : object_opener.f x = some op
  closes : ∃ d, class_Partner.f op = some (cl, d, true)
  ne : op ≠ cl
theorem bkey {x op cl : Int} (h1 : (x ≠ 119 ∧ x ≠ 87 ∧ x ≠ 112 ∧ x ≠ 34 ∧ x ≠ 39 ∧ x ≠ 96) ∧ op ≠ cl) {j : Int} (h2 : strings_IndexByte.f (⟨#[40, 41, 98, 91, 93, 123, 125, 66]⟩ : ByteArray) x = some j) (h3 : j ≥ 0) (h4 : object_opener.f x = some op) {d : Bool} (h5 : class_Partner.f op = some (cl, d, true)) : BKey x op cl :=
  ⟨h1.1, ⟨j, h2, h3⟩, h4, ⟨d, h5⟩, h1.2⟩
theorem key_40 : BKey 40 40 41 := bkey (by decide) (j := 0) (by decide +kernel) (by decide) (by decide +kernel) (d := true) (by decide +kernel)
theorem key_41 : BKey 41 40 41 := bkey (by decide) (j := 1) (by decide +kernel) (by decide) (by decide +kernel) (d := true) (by decide +kernel)
theorem key_98 : BKey 98 40 41 := bkey (by decide) (j := 2) (by decide +kernel) (by decide) (by decide +kernel) (d := true) (by decide +kernel)
theorem key_91 : BKey 91 91 93 := bkey (by decide) (j := 3) (by decide +kernel) (by decide) (by decide +kernel) (d := true) (by decide +kernel)
theorem key_93 : BKey 93 91 93 := bkey (by decide) (j := 4) (by decide +kernel) (by decide) (by decide +kernel) (d := true) (by decide +kernel)
theorem key_123 : BKey 123 123 125 := bkey (by decide) (j := 5) (by decide +kernel) (by decide) (by decide +kernel) (d := true) (by decide +kernel)
theorem key_125 : BKey 125 123 125 := bkey (by decide) (j := 6) (by decide +kernel) (by decide) (by decide +kernel) (d := true) (by decide +kernel)
theorem key_66 : BKey 66 123 125 := bkey (by decide) (j := 7) (by decide +kernel) (by decide) (by decide +kernel) (d := true) (by decide +kernel)
theorem Select_b {t : List Int} (hu : u8s t = true) (hl : t.length ≤ 1048576) {p c : Nat} (hp : p ≤ t.length) (hc : c + 1 ≤ 9999) {key : ByteArray} {x op cl : Int} (hk : BKey x op cl) (around : Bool) (hs : (key.size : Int) = 2) (h0 : bt key 0 = if around = true then 97 else 105) (h1 : bt key 1 = x) :
    Ev (fun k => object_Select.f k t (p : Int) ((c + 1 : Nat) : Int) key) (selW 1 (brkV around (nthP op cl t p c))) := by
  obtain ⟨n1, n2, n3, n4, n5, n6⟩ := hk.no
  obtain ⟨j, hj, hj0⟩ := hk.key
  obtain ⟨d, hd⟩ := hk.closes
  have hb := bracketed_ev hl hk.ne hd (p := p) hc around
  generalize brkV around (nthP op cl t p c) = r at hb
  have m1 : (x == 87) = false := beq_eq_false_iff_ne.2 n2
  have m2 : (x == 96) = false := beq_eq_false_iff_ne.2 n6
  have ha : (bt key 0 == 97) = around := by rw [h0]; cases around <;> rfl
  have fini : Ev (fun k => object_Select.j0 k t (p : Int) ((c + 1 : Nat) : Int) key (cnt 10 (t.take p)) false) (selW 1 r) := by
    refine Ev.step (fun _ => object_Select.j0.eq_2 ..) (Ev.neg Bool.false_ne_true (Ev.pos (by omega) (Ev.pos (by omega) ?_)))
    rw [ha, h1, m1]
    refine Ev.neg n1 (Ev.step (fun _ => object_Select.j1.eq_2 ..) (Ev.neg Bool.false_ne_true (Ev.neg n3 (Ev.neg n4 (Ev.neg n5 ?_)))))
    rw [m2]
    refine Ev.step (fun _ => object_Select.j2.eq_2 ..) (Ev.neg Bool.false_ne_true (Ev.cbind hj (Ev.pos hj0 (Ev.cbind hk.opens (Ev.bind hb ?_)))))
    by_cases hr : r.2.2 = true
    · rw [show selW 1 r = _ from if_pos hr]; exact Ev.pos hr (Ev.now _)
    · rw [show selW 1 r = _ from if_neg hr]; exact Ev.neg hr (Ev.now _)
  refine Ev.cbind (Of_eq hu (p : Int)) ?_
  rw [if_pos ⟨by omega, by omega⟩, Int.toNat_natCast]
  refine Ev.pos rfl (Ev.neg (by omega) (Ev.neg (by omega) (Ev.pos hs (Ev.pos (by omega) ?_))))
  cases around with
  | true =>
    refine Ev.neg (by rw [h0]; decide) ?_
    rw [h0]
    exact fini
  | false => exact Ev.pos h0 fini
/-- What the pairs about a place are: none, and none further out; or one, that is found from either of its brackets, and further out one about it, or none. -/
theorem nests {op cl : Int} {t : List Int} {p c : Nat} : (nthP op cl t p c = none ∧ nthP op cl t p (c + 1) = none) ∨
    (∃ o q : Nat, nthP op cl t p c = some (o, q) ∧ o ≤ p ∧ p ≤ q ∧ q < t.length ∧ o < q ∧ nthP op cl t o 0 = some (o, q) ∧ nthP op cl t q 0 = some (o, q) ∧
      (nthP op cl t p (c + 1) = none ∨ ∃ o2 q2 : Nat, nthP op cl t p (c + 1) = some (o2, q2) ∧ o2 < o ∧ q < q2 ∧ q2 < t.length)) := by
  cases e : nthP op cl t p c with
  | none => exact .inl ⟨rfl, nth_none e⟩
  | some x =>
    obtain ⟨o, q⟩ := x
    obtain ⟨h1, h2, h3⟩ := nth_mem e
    obtain ⟨h4, h5, _, _⟩ := (prs_all t).1 _ h1
    obtain ⟨h6, h7⟩ := nth_own h1
    refine .inr ⟨o, q, rfl, h2, h3, h4, h5, h6, h7, ?_⟩
    cases e2 : nthP op cl t p (c + 1) with
    | none => exact .inl rfl
    | some y =>
      obtain ⟨o2, q2⟩ := y
      obtain ⟨h8, h9⟩ := nth_next e e2
      exact .inr ⟨o2, q2, rfl, h8, h9, ((prs_all t).1 _ (nth_mem e2).1).1⟩
end Go.Proofs.YtcochbkdgjgaeaaDoor.OVX
end
section
namespace Go.Proofs.YtcochbkdgjgaeaaDoor.WalkObjectNests
open Go.RowKit Go.Proofs.YtcochbkdgjgaeaaDoorW.PrintWords Go.Proofs.YtcochbkdgjgaeaaDoorW.PrintLast Go.Proofs.YtcochbkdgjgaeaaDoorW.PrintMore Go.Proofs.YtcochbkdgjgaeaaDoor.X Go.Proofs.YtcochbkdgjgaeaaDoor.XL Go.Proofs.YtcochbkdgjgaeaaDoor.XO Go.Proofs.YtcochbkdgjgaeaaDoor.LN Go.Proofs.YtcochbkdgjgaeaaDoor.OVB Go.Proofs.YtcochbkdgjgaeaaDoor.OVX
set_option linter.unusedVariables false
set_option linter.unusedSimpArgs false
theorem awake_ev : Ev (fun k => quoinlaw13_awake.f k) true := Ev.of quoinlaw13_awake.mono (k := 60) (by decide +kernel)
theorem place_ok (a : Int) (ha : okI64 a) (b : Int) (hb : 0 < b) : ∃ m, quoinlaw13_place.f a b = some m ∧ 0 ≤ m ∧ m < b := by
  unfold quoinlaw13_place.f
  have h1 := ha.1
  have h2 := ha.2
  by_cases h : a < 0
  · rw [if_pos h, if_neg (by omega)]
    have w1 : wrap64 (a + 1) = a + 1 := wrap64_id (by omega) (by omega)
    have w2 : wrap64 (-(a + 1)) = -(a + 1) := wrap64_id (by omega) (by omega)
    rw [w1, w2]
    refine ⟨_, rfl, ?_, ?_⟩
    · exact Int.tmod_nonneg _ (by omega)
    · exact Int.tmod_lt_of_pos _ hb
  · rw [if_neg h, if_neg (by omega)]
    exact ⟨_, rfl, Int.tmod_nonneg _ (by omega), Int.tmod_lt_of_pos _ hb⟩
theorem u8_C {w : World} {b : Nat} {xs : List Int} {fr : Nat × Nat} (h : w.heap[b]? = some (.cells (xs.map (Value.int .u8)).toArray 5 fr)) (hl : xs.length ≤ 281474976710656) : Kd.C (Kd.int .u8) w (some ⟨b, 0, none⟩) xs.length xs := by
  refine Kd.C_of_reads (enc := Value.int .u8) (d := (0 : Int)) (h1 := fun _ => rfl) ⟨rfl, by omega, fun _ => ⟨_, rfl, fun j hj => ?_⟩⟩
  have h1 : w.cell? ⟨b, j, none⟩ = some (.int .u8 (xs.getD j 0)) := (cell_of_row w b j _ _ _ h).trans (by rw [List.getD_eq_getElem?_getD]; simp [hj])
  cases j with
  | zero => simpa [Addr.add] using h1
  | succ j => simpa [Addr.add] using h1
theorem eqiH (d : Nat) (x y : Int) (w : World) : (Op.equalIn (d + 1) 3 (.int .i64 x) (.int .i64 y)).run Tryd.prog w = .ok (x == y) w := by
  simp only [Op.equalIn, Sem.run_bind, run_underlying Tryd.underlying3, Result.andThen_ok]
  simp
theorem eqT (x y z : Int) (w : World) : (Op.equalIn 10000 29 (.agg #[.int .i64 x, .int .i64 y, .int .i64 z]) (.agg #[.int .i64 x, .int .i64 y, .int .i64 z])).run Tryd.prog w = .ok true w := by
  have h := eqA_of (P := Tryd.prog) (d := 9999) (xs := #[.int .i64 x, .int .i64 y, .int .i64 z]) (ys := #[.int .i64 x, .int .i64 y, .int .i64 z]) (w := w) Tryd.underlying29 (by kernel_rfl)
    (eqf_cons (by rfl) (show (part 3 _ 0).run Tryd.prog w = .ok (.int .i64 x) w by kernel_rfl) (show (part 3 _ 0).run Tryd.prog w = .ok (.int .i64 x) w by kernel_rfl) (eqiH 9998 x x w)
      (eqf_cons (by rfl) (show (part 3 _ 1).run Tryd.prog w = .ok (.int .i64 y) w by kernel_rfl) (show (part 3 _ 1).run Tryd.prog w = .ok (.int .i64 y) w by kernel_rfl) (eqiH 9998 y y w)
        (eqf_last (by rfl) (show (part 3 _ 2).run Tryd.prog w = .ok (.int .i64 z) w by kernel_rfl) (show (part 3 _ 2).run Tryd.prog w = .ok (.int .i64 z) w by kernel_rfl) (eqiH 9998 z z w))))
  rw [beq_self_eq_true, beq_self_eq_true, beq_self_eq_true] at h
  exact h
theorem sel_none {A0 : Option Addr} {c0 : Nat} {l0 : List Int} (hu : u8s l0 = true) (hl : l0.length ≤ 1048576) (hc0 : l0.length ≤ c0) {x op cl : Int} (hk : BKey x op cl) {key : ByteArray} (hs : (key.size : Int) = 2) (k0 : bt key 0 = 97) (k1 : bt key 1 = x) {p c : Nat} (hp : p ≤ l0.length) (hc : c + 1 ≤ 9999) (h : nthP op cl l0 p c = none) {a b : Int} (ha : a = (p : Int)) (hb : b = ((c + 1 : Nat) : Int)) (W : World) (hr : Kd.C (Kd.int .u8) W A0 l0.length l0) :
    Calls Tryd.prog 10 #[.slice A0 l0.length c0, .int .i64 a, .int .i64 b, .string key] W fun e w' => e = .returned (.tuple #[.agg #[.int .i64 0, .int .i64 0, .int .i64 0], .int .i64 130]) ∧ Below W.heap.size W w' := by
  obtain ⟨k, h1⟩ := Select_b hu hl hp hc hk true hs k0 k1
  have h2 := h1 k (Nat.le_refl _)
  rw [h] at h2
  subst ha
  subst hb
  exact object_Select.calls k A0 c0 l0 _ _ key 0 0 0 130 W hr hc0 h2
theorem sel_some {A0 : Option Addr} {c0 : Nat} {l0 : List Int} (hu : u8s l0 = true) (hl : l0.length ≤ 1048576) (hc0 : l0.length ≤ c0) {x op cl : Int} (hk : BKey x op cl) {key : ByteArray} (hs : (key.size : Int) = 2) (k0 : bt key 0 = 97) (k1 : bt key 1 = x) {p c o q : Nat} (hp : p ≤ l0.length) (hc : c + 1 ≤ 9999) (h : nthP op cl l0 p c = some (o, q)) {a b : Int} (ha : a = (p : Int)) (hb : b = ((c + 1 : Nat) : Int)) (W : World) (hr : Kd.C (Kd.int .u8) W A0 l0.length l0) :
    Calls Tryd.prog 10 #[.slice A0 l0.length c0, .int .i64 a, .int .i64 b, .string key] W fun e w' => e = .returned (.tuple #[.agg #[.int .i64 (o : Int), .int .i64 ((q : Int) + 1), .int .i64 1], .int .i64 0]) ∧ Below W.heap.size W w' := by
  obtain ⟨k, h1⟩ := Select_b hu hl hp hc hk true hs k0 k1
  have h2 := h1 k (Nat.le_refl _)
  rw [h] at h2
  subst ha
  subst hb
  exact object_Select.calls k A0 c0 l0 _ _ key (o : Int) ((q : Int) + 1) 1 0 W hr hc0 h2
set_option maxHeartbeats 16000000 in
set_option maxRecDepth 100000 in
theorem walk (A0 : Option Addr) (c0 : Nat) (l0 : List Int) (a1 : Int) (a2 : Int) (w : World) (hr0 : Kd.C (Kd.int .u8) w A0 l0.length l0) (hc0 : l0.length ≤ c0) (o0 : (okSl 1 okU8) l0) (o1 : okI64 a1) (o2 : okI64 a2) (hb : ((szSl szOne) l0 + szOne a1 + szOne a2 ≤ 1048576)) :
    Calls Tryd.prog 5 #[.slice A0 l0.length c0, .int .i64 a1, .int .i64 a2] w fun e w' => e = .returned (.bool true) ∧ Below w.heap.size w w' := by
  have hl0 : l0.length ≤ 1048576 := by have h1 := szSl_length (szOne (α := Int)) (fun _ => Nat.le_refl _) l0; omega
  have hu : u8s l0 = true := u8s_ok o0
  have HA : Aside0 (∀ W : World, Calls Tryd.prog 7 #[] W fun e w' => e = .returned (.bool true) ∧ Below W.heap.size W w') := by
    obtain ⟨k, h⟩ := awake_ev
    exact ⟨fun W => quoinlaw13_awake.calls k true W (h k (Nat.le_refl _))⟩
  obtain ⟨p', hp, hp0, hp1⟩ := place_ok a1 o1 ((l0.length : Int) + 1) (by omega)
  obtain ⟨p, rfl⟩ : ∃ p : Nat, p' = (p : Int) := ⟨p'.toNat, by omega⟩
  have hpl : p ≤ l0.length := by omega
  obtain ⟨c', hc, hc0', hc1⟩ := place_ok a2 o2 6 (by decide)
  obtain ⟨c, rfl⟩ : ∃ c : Nat, c' = (c : Int) := ⟨c'.toNat, by omega⟩
  have hcl : c ≤ 9 := by omega
  have HP1 : Aside0 (∀ W : World, Calls Tryd.prog 12 #[.int .i64 a1, .int .i64 ((l0.length : Int) + 1)] W fun e w' => e = .returned (.int .i64 (p : Int)) ∧ Drawn0 W w') := ⟨fun W => quoinlaw13_place.calls a1 _ _ W hp⟩
  have HP2 : Aside0 (∀ W : World, Calls Tryd.prog 12 #[.int .i64 a2, .int .i64 6] W fun e w' => e = .returned (.int .i64 (c : Int)) ∧ Drawn0 W w') := ⟨fun W => quoinlaw13_place.calls a2 _ _ W hc⟩
  clear hp hp0 hp1 hc hc0' hc1 o0 o1 o2 hb
  go_enter Tryd.func5, Tryd.ntmps5
  go_wp2_with (first
    | (go_at_call 7; (with_reducible refine (HA.out _).mono ?_); rintro e w1 ⟨rfl, hx⟩; have H1 := Aside0.mk hx; clear hx)
    | (go_at_call 12; (with_reducible refine (HP1.out _).mono ?_); rintro e w2 ⟨rfl, hx⟩; have H2 := Aside0.mk hx; clear hx)
    | (go_at_call 12; (with_reducible refine (HP2.out _).mono ?_); rintro e w3 ⟨rfl, hx⟩; have H3 := Aside0.mk hx; clear hx))
  have HB3 := Aside0.mk (below_step (below_step H1.out H2.out.below) H3.out.below)
  have hw3 : w.heap.size ≤ w3.heap.size := HB3.out.size
  have HC0 := Aside0.mk hr0
  clear hr0
  go_loopw [10] (fun _ wr => ∃ pos : Nat, pos ≤ 3 ∧ wr.heap[w3.heap.size]? = some (.stringIter ({ data := #[40, 91, 123] } : ByteArray) pos) ∧ Below w.heap.size w wr) (fun _ wr => 3 - wr.iterPos w3.heap.size)
  case atStart => exact ⟨0, by decide, by have h := World.iter_heap w3 ({ data := #[40, 91, 123] } : ByteArray) 0; simpa using h, below_alloc HB3.out _⟩
  case round =>
    obtain ⟨pos, hps, hk, hnx⟩ := hrel
    have hpos : pos = 0 ∨ pos = 1 ∨ pos = 2 ∨ pos = 3 := by omega
    rcases hpos with rfl | rfl | rfl | rfl
    · skip
      have hnext : ∀ ty, (Instr.next (.pointer (some ⟨w3.heap.size, 0, none⟩)) true ty).run Tryd.prog wr = .ok (.tuple #[.bool true, .int .i64 0, .int .i32 40]) (wr.iterAt w3.heap.size ({ data := #[40, 91, 123] } : ByteArray) 1) := fun ty => Lib.run_next_ascii_at wr w3.heap.size ({ data := #[40, 91, 123] } : ByteArray) 0 ty hk (by decide) (by decide)
      have hk1 := Lib.iterAt_heap wr w3.heap.size ({ data := #[40, 91, 123] } : ByteArray) 0 1 hk
      have hn1 : Below w.heap.size w (wr.iterAt w3.heap.size ({ data := #[40, 91, 123] } : ByteArray) 1) := Lib.below_iterAt hnx hw3 ({ data := #[40, 91, 123] } : ByteArray) 1
      have hmu : wr.iterPos w3.heap.size = 0 := by simp [World.iterPos, hk]
      generalize wr.iterAt w3.heap.size ({ data := #[40, 91, 123] } : ByteArray) 1 = W1 at hnext hk1 hn1
      have HM := Aside0.mk hmu
      clear hmu hk hnx
      have HW0 := Aside0.mk (below_alloc hn1 (.cells #[.int .u8 40] 5))
      have HI0 := Aside0.mk (blk_alloc hk1 (.cells #[.int .u8 40] 5))
      have kc := Kd.C_string (P := Tryd.prog) (c := 1) Tryd.underlying22 Tryd.underlying5 Tryd.underlying9 (show Kd.C (Kd.int .u8) (W1.alloc (.cells #[.int .u8 40] 5)) (some ⟨W1.heap.size, 0, none⟩) 1 [40] from u8_C (xs := [40]) (fr := (0, 0)) (blk_new W1 (.cells #[.int .u8 40] 5)) (by decide))
      clear hk1 hn1
      rcases nests (op := 40) (cl := 41) (t := l0) (p := p) (c := c) with ⟨hN, hN2⟩ | ⟨o, q, hN, ho, hq, hql, hoq, hO, hQ, hN2⟩
      · skip
        have HS1 := Aside0.mk (fun (W : World) (h : Below w.heap.size w W) => sel_none hu hl0 hc0 key_40 (key := ({ data := #[97] } ++ strOfNums [40] : ByteArray)) (by decide +kernel) (by decide +kernel) (by decide +kernel) (p := p) (c := c) (a := (p : Int)) (b := ((c : Int) + 1)) hpl (by omega) hN rfl (by omega) W (Kd.C_below HC0.out h))
        have HS2 := Aside0.mk (fun (W : World) (h : Below w.heap.size w W) => sel_none hu hl0 hc0 key_40 (key := ({ data := #[97] } ++ strOfNums [40] : ByteArray)) (by decide +kernel) (by decide +kernel) (by decide +kernel) (p := p) (c := (c + 1)) (a := (p : Int)) (b := ((c : Int) + 1 + 1)) hpl (by omega) hN2 rfl (by omega) W (Kd.C_below HC0.out h))
        clear hN hN2
        go_wp2_with (first
          | (go_at_call 10; (with_reducible refine (HS1.out _ HW0.out).mono ?_); rintro e w4 ⟨rfl, hx⟩; have HW4 := Aside0.mk (below_alloc (below_step HW0.out hx) (.cells #[.int .i64 0, .int .i64 0, .int .i64 0] 29)); have HI4 := Aside0.mk (blk_alloc (blk_below HI0.out hx) (.cells #[.int .i64 0, .int .i64 0, .int .i64 0] 29)); have BN4 := Aside0.mk (blk_new w4 (.cells #[.int .i64 0, .int .i64 0, .int .i64 0] 29)); clear hx)
          | (go_at_call 10; (with_reducible refine (HS2.out _ HW4.out).mono ?_); rintro e w5 ⟨rfl, hx⟩; have HW5 := Aside0.mk (below_alloc (below_step HW4.out hx) (.cells #[.int .i64 0, .int .i64 0, .int .i64 0] 29)); have HI5 := Aside0.mk (blk_alloc (blk_below HI4.out hx) (.cells #[.int .i64 0, .int .i64 0, .int .i64 0] 29)); have BN5 := Aside0.mk (blk_new w5 (.cells #[.int .i64 0, .int .i64 0, .int .i64 0] 29)); clear hx))
        go_roundw
        case rel => exact ⟨1, by decide, HI5.out, HW5.out⟩
        case measure =>
          have hm2 := HI5.out
          rw [HM.out, show World.iterPos _ w3.heap.size = 1 from by simp [World.iterPos, hm2]]
          decide
      · skip
        have HS1 := Aside0.mk (fun (W : World) (h : Below w.heap.size w W) => sel_some hu hl0 hc0 key_40 (key := ({ data := #[97] } ++ strOfNums [40] : ByteArray)) (by decide +kernel) (by decide +kernel) (by decide +kernel) (p := p) (c := c) (a := (p : Int)) (b := ((c : Int) + 1)) hpl (by omega) hN rfl (by omega) W (Kd.C_below HC0.out h))
        have HS3 := Aside0.mk (fun (W : World) (h : Below w.heap.size w W) => sel_some hu hl0 hc0 key_40 (key := ({ data := #[97] } ++ strOfNums [40] : ByteArray)) (by decide +kernel) (by decide +kernel) (by decide +kernel) (p := o) (c := 0) (a := (o : Int)) (b := (1 : Int)) (by omega) (by omega) hO rfl rfl W (Kd.C_below HC0.out h))
        have HS4 := Aside0.mk (fun (W : World) (h : Below w.heap.size w W) => sel_some hu hl0 hc0 key_40 (key := ({ data := #[97] } ++ strOfNums [40] : ByteArray)) (by decide +kernel) (by decide +kernel) (by decide +kernel) (p := q) (c := 0) (a := (q : Int)) (b := (1 : Int)) (by omega) (by omega) hQ rfl rfl W (Kd.C_below HC0.out h))
        have g1 : ((o : Int) > (p : Int)) = False := eq_false (by omega)
        have g2 : ((p : Int) ≥ (q : Int) + 1) = False := eq_false (by omega)
        have e1 := eqT (o : Int) ((q : Int) + 1) 1
        clear hN hO hQ
        rcases hN2 with hN2 | ⟨o2, q2, hN2, ho2, hq2, hq2l⟩
        · skip
          have HS2 := Aside0.mk (fun (W : World) (h : Below w.heap.size w W) => sel_none hu hl0 hc0 key_40 (key := ({ data := #[97] } ++ strOfNums [40] : ByteArray)) (by decide +kernel) (by decide +kernel) (by decide +kernel) (p := p) (c := (c + 1)) (a := (p : Int)) (b := ((c : Int) + 1 + 1)) hpl (by omega) hN2 rfl (by omega) W (Kd.C_below HC0.out h))
          clear hN2
          go_wp2_with (first
            | (go_at_call 10; (with_reducible refine (HS1.out _ HW0.out).mono ?_); rintro e w4 ⟨rfl, hx⟩; have HW4 := Aside0.mk (below_alloc (below_step HW0.out hx) (.cells #[.int .i64 (o : Int), .int .i64 ((q : Int) + 1), .int .i64 1] 29)); have HI4 := Aside0.mk (blk_alloc (blk_below HI0.out hx) (.cells #[.int .i64 (o : Int), .int .i64 ((q : Int) + 1), .int .i64 1] 29)); have BN4 := Aside0.mk (blk_new w4 (.cells #[.int .i64 (o : Int), .int .i64 ((q : Int) + 1), .int .i64 1] 29)); clear hx)
            | (go_at_call 10; (with_reducible refine (HS2.out _ HW4.out).mono ?_); rintro e w5 ⟨rfl, hx⟩; have HW5 := Aside0.mk (below_alloc (below_step HW4.out hx) (.cells #[.int .i64 0, .int .i64 0, .int .i64 0] 29)); have HI5 := Aside0.mk (blk_alloc (blk_below HI4.out hx) (.cells #[.int .i64 0, .int .i64 0, .int .i64 0] 29)); have BN5 := Aside0.mk (blk_new w5 (.cells #[.int .i64 0, .int .i64 0, .int .i64 0] 29)); have BN4_5 := Aside0.mk (blk_alloc (blk_below BN4.out hx) (.cells #[.int .i64 0, .int .i64 0, .int .i64 0] 29)); clear hx; have a0 := (blk_cell BN4_5.out 0).trans rfl; have a1 := (blk_cell BN4_5.out 1).trans rfl)
            | (go_at_call 10; (with_reducible refine (HS3.out _ HW5.out).mono ?_); rintro e w6 ⟨rfl, hx⟩; have HW6 := Aside0.mk (below_alloc (below_step HW5.out hx) (.cells #[.int .i64 (o : Int), .int .i64 ((q : Int) + 1), .int .i64 1] 29)); have HI6 := Aside0.mk (blk_alloc (blk_below HI5.out hx) (.cells #[.int .i64 (o : Int), .int .i64 ((q : Int) + 1), .int .i64 1] 29)); have BN6 := Aside0.mk (blk_new w6 (.cells #[.int .i64 (o : Int), .int .i64 ((q : Int) + 1), .int .i64 1] 29)); have BN4_6 := Aside0.mk (blk_alloc (blk_below BN4_5.out hx) (.cells #[.int .i64 (o : Int), .int .i64 ((q : Int) + 1), .int .i64 1] 29)); clear hx; have c1 := (blk_cell BN4_6.out 1).trans rfl)
            | (go_at_call 10; (with_reducible refine (HS4.out _ HW6.out).mono ?_); rintro e w7 ⟨rfl, hx⟩; have HW7 := Aside0.mk (below_alloc (below_step HW6.out hx) (.cells #[.int .i64 (o : Int), .int .i64 ((q : Int) + 1), .int .i64 1] 29)); have HI7 := Aside0.mk (blk_alloc (blk_below HI6.out hx) (.cells #[.int .i64 (o : Int), .int .i64 ((q : Int) + 1), .int .i64 1] 29)); have BN7 := Aside0.mk (blk_new w7 (.cells #[.int .i64 (o : Int), .int .i64 ((q : Int) + 1), .int .i64 1] 29)); have BN4_7 := Aside0.mk (blk_alloc (blk_below BN4_6.out hx) (.cells #[.int .i64 (o : Int), .int .i64 ((q : Int) + 1), .int .i64 1] 29)); have BN6_7 := Aside0.mk (blk_alloc (blk_below BN6.out hx) (.cells #[.int .i64 (o : Int), .int .i64 ((q : Int) + 1), .int .i64 1] 29)); clear hx; have x0 := (blk_cell BN4_7.out 0).trans rfl; have x1 := (blk_cell BN4_7.out 1).trans rfl; have x2 := (blk_cell BN4_7.out 2).trans rfl; have y0 := (blk_cell BN6_7.out 0).trans rfl; have y1 := (blk_cell BN6_7.out 1).trans rfl; have y2 := (blk_cell BN6_7.out 2).trans rfl; have z0 := (blk_cell BN7.out 0).trans rfl; have z1 := (blk_cell BN7.out 1).trans rfl; have z2 := (blk_cell BN7.out 2).trans rfl))
          go_roundw
          case rel => exact ⟨1, by decide, HI7.out, HW7.out⟩
          case measure =>
            have hm2 := HI7.out
            rw [HM.out, show World.iterPos _ w3.heap.size = 1 from by simp [World.iterPos, hm2]]
            decide
        · skip
          have HS2 := Aside0.mk (fun (W : World) (h : Below w.heap.size w W) => sel_some hu hl0 hc0 key_40 (key := ({ data := #[97] } ++ strOfNums [40] : ByteArray)) (by decide +kernel) (by decide +kernel) (by decide +kernel) (p := p) (c := (c + 1)) (a := (p : Int)) (b := ((c : Int) + 1 + 1)) hpl (by omega) hN2 rfl (by omega) W (Kd.C_below HC0.out h))
          clear hN2
          have g3 : ((o2 : Int) ≥ (o : Int)) = False := eq_false (by omega)
          have g4 : ((q2 : Int) + 1 ≤ (q : Int) + 1) = False := eq_false (by omega)
          go_wp2_with (first
            | (go_at_call 10; (with_reducible refine (HS1.out _ HW0.out).mono ?_); rintro e w4 ⟨rfl, hx⟩; have HW4 := Aside0.mk (below_alloc (below_step HW0.out hx) (.cells #[.int .i64 (o : Int), .int .i64 ((q : Int) + 1), .int .i64 1] 29)); have HI4 := Aside0.mk (blk_alloc (blk_below HI0.out hx) (.cells #[.int .i64 (o : Int), .int .i64 ((q : Int) + 1), .int .i64 1] 29)); have BN4 := Aside0.mk (blk_new w4 (.cells #[.int .i64 (o : Int), .int .i64 ((q : Int) + 1), .int .i64 1] 29)); clear hx)
            | (go_at_call 10; (with_reducible refine (HS2.out _ HW4.out).mono ?_); rintro e w5 ⟨rfl, hx⟩; have HW5 := Aside0.mk (below_alloc (below_step HW4.out hx) (.cells #[.int .i64 (o2 : Int), .int .i64 ((q2 : Int) + 1), .int .i64 1] 29)); have HI5 := Aside0.mk (blk_alloc (blk_below HI4.out hx) (.cells #[.int .i64 (o2 : Int), .int .i64 ((q2 : Int) + 1), .int .i64 1] 29)); have BN5 := Aside0.mk (blk_new w5 (.cells #[.int .i64 (o2 : Int), .int .i64 ((q2 : Int) + 1), .int .i64 1] 29)); have BN4_5 := Aside0.mk (blk_alloc (blk_below BN4.out hx) (.cells #[.int .i64 (o2 : Int), .int .i64 ((q2 : Int) + 1), .int .i64 1] 29)); clear hx; have a0 := (blk_cell BN4_5.out 0).trans rfl; have a1 := (blk_cell BN4_5.out 1).trans rfl; have b0 := (blk_cell BN5.out 0).trans rfl; have b1 := (blk_cell BN5.out 1).trans rfl)
            | (go_at_call 10; (with_reducible refine (HS3.out _ HW5.out).mono ?_); rintro e w6 ⟨rfl, hx⟩; have HW6 := Aside0.mk (below_alloc (below_step HW5.out hx) (.cells #[.int .i64 (o : Int), .int .i64 ((q : Int) + 1), .int .i64 1] 29)); have HI6 := Aside0.mk (blk_alloc (blk_below HI5.out hx) (.cells #[.int .i64 (o : Int), .int .i64 ((q : Int) + 1), .int .i64 1] 29)); have BN6 := Aside0.mk (blk_new w6 (.cells #[.int .i64 (o : Int), .int .i64 ((q : Int) + 1), .int .i64 1] 29)); have BN4_6 := Aside0.mk (blk_alloc (blk_below BN4_5.out hx) (.cells #[.int .i64 (o : Int), .int .i64 ((q : Int) + 1), .int .i64 1] 29)); clear hx; have c1 := (blk_cell BN4_6.out 1).trans rfl)
            | (go_at_call 10; (with_reducible refine (HS4.out _ HW6.out).mono ?_); rintro e w7 ⟨rfl, hx⟩; have HW7 := Aside0.mk (below_alloc (below_step HW6.out hx) (.cells #[.int .i64 (o : Int), .int .i64 ((q : Int) + 1), .int .i64 1] 29)); have HI7 := Aside0.mk (blk_alloc (blk_below HI6.out hx) (.cells #[.int .i64 (o : Int), .int .i64 ((q : Int) + 1), .int .i64 1] 29)); have BN7 := Aside0.mk (blk_new w7 (.cells #[.int .i64 (o : Int), .int .i64 ((q : Int) + 1), .int .i64 1] 29)); have BN4_7 := Aside0.mk (blk_alloc (blk_below BN4_6.out hx) (.cells #[.int .i64 (o : Int), .int .i64 ((q : Int) + 1), .int .i64 1] 29)); have BN6_7 := Aside0.mk (blk_alloc (blk_below BN6.out hx) (.cells #[.int .i64 (o : Int), .int .i64 ((q : Int) + 1), .int .i64 1] 29)); clear hx; have x0 := (blk_cell BN4_7.out 0).trans rfl; have x1 := (blk_cell BN4_7.out 1).trans rfl; have x2 := (blk_cell BN4_7.out 2).trans rfl; have y0 := (blk_cell BN6_7.out 0).trans rfl; have y1 := (blk_cell BN6_7.out 1).trans rfl; have y2 := (blk_cell BN6_7.out 2).trans rfl; have z0 := (blk_cell BN7.out 0).trans rfl; have z1 := (blk_cell BN7.out 1).trans rfl; have z2 := (blk_cell BN7.out 2).trans rfl))
          go_roundw
          case rel => exact ⟨1, by decide, HI7.out, HW7.out⟩
          case measure =>
            have hm2 := HI7.out
            rw [HM.out, show World.iterPos _ w3.heap.size = 1 from by simp [World.iterPos, hm2]]
            decide
    · skip
      have hnext : ∀ ty, (Instr.next (.pointer (some ⟨w3.heap.size, 0, none⟩)) true ty).run Tryd.prog wr = .ok (.tuple #[.bool true, .int .i64 1, .int .i32 91]) (wr.iterAt w3.heap.size ({ data := #[40, 91, 123] } : ByteArray) 2) := fun ty => Lib.run_next_ascii_at wr w3.heap.size ({ data := #[40, 91, 123] } : ByteArray) 1 ty hk (by decide) (by decide)
      have hk1 := Lib.iterAt_heap wr w3.heap.size ({ data := #[40, 91, 123] } : ByteArray) 1 2 hk
      have hn1 : Below w.heap.size w (wr.iterAt w3.heap.size ({ data := #[40, 91, 123] } : ByteArray) 2) := Lib.below_iterAt hnx hw3 ({ data := #[40, 91, 123] } : ByteArray) 2
      have hmu : wr.iterPos w3.heap.size = 1 := by simp [World.iterPos, hk]
      generalize wr.iterAt w3.heap.size ({ data := #[40, 91, 123] } : ByteArray) 2 = W1 at hnext hk1 hn1
      have HM := Aside0.mk hmu
      clear hmu hk hnx
      have HW0 := Aside0.mk (below_alloc hn1 (.cells #[.int .u8 91] 5))
      have HI0 := Aside0.mk (blk_alloc hk1 (.cells #[.int .u8 91] 5))
      have kc := Kd.C_string (P := Tryd.prog) (c := 1) Tryd.underlying22 Tryd.underlying5 Tryd.underlying9 (show Kd.C (Kd.int .u8) (W1.alloc (.cells #[.int .u8 91] 5)) (some ⟨W1.heap.size, 0, none⟩) 1 [91] from u8_C (xs := [91]) (fr := (0, 0)) (blk_new W1 (.cells #[.int .u8 91] 5)) (by decide))
      clear hk1 hn1
      rcases nests (op := 91) (cl := 93) (t := l0) (p := p) (c := c) with ⟨hN, hN2⟩ | ⟨o, q, hN, ho, hq, hql, hoq, hO, hQ, hN2⟩
      · skip
        have HS1 := Aside0.mk (fun (W : World) (h : Below w.heap.size w W) => sel_none hu hl0 hc0 key_91 (key := ({ data := #[97] } ++ strOfNums [91] : ByteArray)) (by decide +kernel) (by decide +kernel) (by decide +kernel) (p := p) (c := c) (a := (p : Int)) (b := ((c : Int) + 1)) hpl (by omega) hN rfl (by omega) W (Kd.C_below HC0.out h))
        have HS2 := Aside0.mk (fun (W : World) (h : Below w.heap.size w W) => sel_none hu hl0 hc0 key_91 (key := ({ data := #[97] } ++ strOfNums [91] : ByteArray)) (by decide +kernel) (by decide +kernel) (by decide +kernel) (p := p) (c := (c + 1)) (a := (p : Int)) (b := ((c : Int) + 1 + 1)) hpl (by omega) hN2 rfl (by omega) W (Kd.C_below HC0.out h))
        clear hN hN2
        go_wp2_with (first
          | (go_at_call 10; (with_reducible refine (HS1.out _ HW0.out).mono ?_); rintro e w4 ⟨rfl, hx⟩; have HW4 := Aside0.mk (below_alloc (below_step HW0.out hx) (.cells #[.int .i64 0, .int .i64 0, .int .i64 0] 29)); have HI4 := Aside0.mk (blk_alloc (blk_below HI0.out hx) (.cells #[.int .i64 0, .int .i64 0, .int .i64 0] 29)); have BN4 := Aside0.mk (blk_new w4 (.cells #[.int .i64 0, .int .i64 0, .int .i64 0] 29)); clear hx)
          | (go_at_call 10; (with_reducible refine (HS2.out _ HW4.out).mono ?_); rintro e w5 ⟨rfl, hx⟩; have HW5 := Aside0.mk (below_alloc (below_step HW4.out hx) (.cells #[.int .i64 0, .int .i64 0, .int .i64 0] 29)); have HI5 := Aside0.mk (blk_alloc (blk_below HI4.out hx) (.cells #[.int .i64 0, .int .i64 0, .int .i64 0] 29)); have BN5 := Aside0.mk (blk_new w5 (.cells #[.int .i64 0, .int .i64 0, .int .i64 0] 29)); clear hx))
        go_roundw
        case rel => exact ⟨2, by decide, HI5.out, HW5.out⟩
        case measure =>
          have hm2 := HI5.out
          rw [HM.out, show World.iterPos _ w3.heap.size = 2 from by simp [World.iterPos, hm2]]
          decide
      · skip
        have HS1 := Aside0.mk (fun (W : World) (h : Below w.heap.size w W) => sel_some hu hl0 hc0 key_91 (key := ({ data := #[97] } ++ strOfNums [91] : ByteArray)) (by decide +kernel) (by decide +kernel) (by decide +kernel) (p := p) (c := c) (a := (p : Int)) (b := ((c : Int) + 1)) hpl (by omega) hN rfl (by omega) W (Kd.C_below HC0.out h))
        have HS3 := Aside0.mk (fun (W : World) (h : Below w.heap.size w W) => sel_some hu hl0 hc0 key_91 (key := ({ data := #[97] } ++ strOfNums [91] : ByteArray)) (by decide +kernel) (by decide +kernel) (by decide +kernel) (p := o) (c := 0) (a := (o : Int)) (b := (1 : Int)) (by omega) (by omega) hO rfl rfl W (Kd.C_below HC0.out h))
        have HS4 := Aside0.mk (fun (W : World) (h : Below w.heap.size w W) => sel_some hu hl0 hc0 key_91 (key := ({ data := #[97] } ++ strOfNums [91] : ByteArray)) (by decide +kernel) (by decide +kernel) (by decide +kernel) (p := q) (c := 0) (a := (q : Int)) (b := (1 : Int)) (by omega) (by omega) hQ rfl rfl W (Kd.C_below HC0.out h))
        have g1 : ((o : Int) > (p : Int)) = False := eq_false (by omega)
        have g2 : ((p : Int) ≥ (q : Int) + 1) = False := eq_false (by omega)
        have e1 := eqT (o : Int) ((q : Int) + 1) 1
        clear hN hO hQ
        rcases hN2 with hN2 | ⟨o2, q2, hN2, ho2, hq2, hq2l⟩
        · skip
          have HS2 := Aside0.mk (fun (W : World) (h : Below w.heap.size w W) => sel_none hu hl0 hc0 key_91 (key := ({ data := #[97] } ++ strOfNums [91] : ByteArray)) (by decide +kernel) (by decide +kernel) (by decide +kernel) (p := p) (c := (c + 1)) (a := (p : Int)) (b := ((c : Int) + 1 + 1)) hpl (by omega) hN2 rfl (by omega) W (Kd.C_below HC0.out h))
          clear hN2
          go_wp2_with (first
            | (go_at_call 10; (with_reducible refine (HS1.out _ HW0.out).mono ?_); rintro e w4 ⟨rfl, hx⟩; have HW4 := Aside0.mk (below_alloc (below_step HW0.out hx) (.cells #[.int .i64 (o : Int), .int .i64 ((q : Int) + 1), .int .i64 1] 29)); have HI4 := Aside0.mk (blk_alloc (blk_below HI0.out hx) (.cells #[.int .i64 (o : Int), .int .i64 ((q : Int) + 1), .int .i64 1] 29)); have BN4 := Aside0.mk (blk_new w4 (.cells #[.int .i64 (o : Int), .int .i64 ((q : Int) + 1), .int .i64 1] 29)); clear hx)
            | (go_at_call 10; (with_reducible refine (HS2.out _ HW4.out).mono ?_); rintro e w5 ⟨rfl, hx⟩; have HW5 := Aside0.mk (below_alloc (below_step HW4.out hx) (.cells #[.int .i64 0, .int .i64 0, .int .i64 0] 29)); have HI5 := Aside0.mk (blk_alloc (blk_below HI4.out hx) (.cells #[.int .i64 0, .int .i64 0, .int .i64 0] 29)); have BN5 := Aside0.mk (blk_new w5 (.cells #[.int .i64 0, .int .i64 0, .int .i64 0] 29)); have BN4_5 := Aside0.mk (blk_alloc (blk_below BN4.out hx) (.cells #[.int .i64 0, .int .i64 0, .int .i64 0] 29)); clear hx; have a0 := (blk_cell BN4_5.out 0).trans rfl; have a1 := (blk_cell BN4_5.out 1).trans rfl)
            | (go_at_call 10; (with_reducible refine (HS3.out _ HW5.out).mono ?_); rintro e w6 ⟨rfl, hx⟩; have HW6 := Aside0.mk (below_alloc (below_step HW5.out hx) (.cells #[.int .i64 (o : Int), .int .i64 ((q : Int) + 1), .int .i64 1] 29)); have HI6 := Aside0.mk (blk_alloc (blk_below HI5.out hx) (.cells #[.int .i64 (o : Int), .int .i64 ((q : Int) + 1), .int .i64 1] 29)); have BN6 := Aside0.mk (blk_new w6 (.cells #[.int .i64 (o : Int), .int .i64 ((q : Int) + 1), .int .i64 1] 29)); have BN4_6 := Aside0.mk (blk_alloc (blk_below BN4_5.out hx) (.cells #[.int .i64 (o : Int), .int .i64 ((q : Int) + 1), .int .i64 1] 29)); clear hx; have c1 := (blk_cell BN4_6.out 1).trans rfl)
            | (go_at_call 10; (with_reducible refine (HS4.out _ HW6.out).mono ?_); rintro e w7 ⟨rfl, hx⟩; have HW7 := Aside0.mk (below_alloc (below_step HW6.out hx) (.cells #[.int .i64 (o : Int), .int .i64 ((q : Int) + 1), .int .i64 1] 29)); have HI7 := Aside0.mk (blk_alloc (blk_below HI6.out hx) (.cells #[.int .i64 (o : Int), .int .i64 ((q : Int) + 1), .int .i64 1] 29)); have BN7 := Aside0.mk (blk_new w7 (.cells #[.int .i64 (o : Int), .int .i64 ((q : Int) + 1), .int .i64 1] 29)); have BN4_7 := Aside0.mk (blk_alloc (blk_below BN4_6.out hx) (.cells #[.int .i64 (o : Int), .int .i64 ((q : Int) + 1), .int .i64 1] 29)); have BN6_7 := Aside0.mk (blk_alloc (blk_below BN6.out hx) (.cells #[.int .i64 (o : Int), .int .i64 ((q : Int) + 1), .int .i64 1] 29)); clear hx; have x0 := (blk_cell BN4_7.out 0).trans rfl; have x1 := (blk_cell BN4_7.out 1).trans rfl; have x2 := (blk_cell BN4_7.out 2).trans rfl; have y0 := (blk_cell BN6_7.out 0).trans rfl; have y1 := (blk_cell BN6_7.out 1).trans rfl; have y2 := (blk_cell BN6_7.out 2).trans rfl; have z0 := (blk_cell BN7.out 0).trans rfl; have z1 := (blk_cell BN7.out 1).trans rfl; have z2 := (blk_cell BN7.out 2).trans rfl))
          go_roundw
          case rel => exact ⟨2, by decide, HI7.out, HW7.out⟩
          case measure =>
            have hm2 := HI7.out
            rw [HM.out, show World.iterPos _ w3.heap.size = 2 from by simp [World.iterPos, hm2]]
            decide
        · skip
          have HS2 := Aside0.mk (fun (W : World) (h : Below w.heap.size w W) => sel_some hu hl0 hc0 key_91 (key := ({ data := #[97] } ++ strOfNums [91] : ByteArray)) (by decide +kernel) (by decide +kernel) (by decide +kernel) (p := p) (c := (c + 1)) (a := (p : Int)) (b := ((c : Int) + 1 + 1)) hpl (by omega) hN2 rfl (by omega) W (Kd.C_below HC0.out h))
          clear hN2
          have g3 : ((o2 : Int) ≥ (o : Int)) = False := eq_false (by omega)
          have g4 : ((q2 : Int) + 1 ≤ (q : Int) + 1) = False := eq_false (by omega)
          go_wp2_with (first
            | (go_at_call 10; (with_reducible refine (HS1.out _ HW0.out).mono ?_); rintro e w4 ⟨rfl, hx⟩; have HW4 := Aside0.mk (below_alloc (below_step HW0.out hx) (.cells #[.int .i64 (o : Int), .int .i64 ((q : Int) + 1), .int .i64 1] 29)); have HI4 := Aside0.mk (blk_alloc (blk_below HI0.out hx) (.cells #[.int .i64 (o : Int), .int .i64 ((q : Int) + 1), .int .i64 1] 29)); have BN4 := Aside0.mk (blk_new w4 (.cells #[.int .i64 (o : Int), .int .i64 ((q : Int) + 1), .int .i64 1] 29)); clear hx)
            | (go_at_call 10; (with_reducible refine (HS2.out _ HW4.out).mono ?_); rintro e w5 ⟨rfl, hx⟩; have HW5 := Aside0.mk (below_alloc (below_step HW4.out hx) (.cells #[.int .i64 (o2 : Int), .int .i64 ((q2 : Int) + 1), .int .i64 1] 29)); have HI5 := Aside0.mk (blk_alloc (blk_below HI4.out hx) (.cells #[.int .i64 (o2 : Int), .int .i64 ((q2 : Int) + 1), .int .i64 1] 29)); have BN5 := Aside0.mk (blk_new w5 (.cells #[.int .i64 (o2 : Int), .int .i64 ((q2 : Int) + 1), .int .i64 1] 29)); have BN4_5 := Aside0.mk (blk_alloc (blk_below BN4.out hx) (.cells #[.int .i64 (o2 : Int), .int .i64 ((q2 : Int) + 1), .int .i64 1] 29)); clear hx; have a0 := (blk_cell BN4_5.out 0).trans rfl; have a1 := (blk_cell BN4_5.out 1).trans rfl; have b0 := (blk_cell BN5.out 0).trans rfl; have b1 := (blk_cell BN5.out 1).trans rfl)
            | (go_at_call 10; (with_reducible refine (HS3.out _ HW5.out).mono ?_); rintro e w6 ⟨rfl, hx⟩; have HW6 := Aside0.mk (below_alloc (below_step HW5.out hx) (.cells #[.int .i64 (o : Int), .int .i64 ((q : Int) + 1), .int .i64 1] 29)); have HI6 := Aside0.mk (blk_alloc (blk_below HI5.out hx) (.cells #[.int .i64 (o : Int), .int .i64 ((q : Int) + 1), .int .i64 1] 29)); have BN6 := Aside0.mk (blk_new w6 (.cells #[.int .i64 (o : Int), .int .i64 ((q : Int) + 1), .int .i64 1] 29)); have BN4_6 := Aside0.mk (blk_alloc (blk_below BN4_5.out hx) (.cells #[.int .i64 (o : Int), .int .i64 ((q : Int) + 1), .int .i64 1] 29)); clear hx; have c1 := (blk_cell BN4_6.out 1).trans rfl)
            | (go_at_call 10; (with_reducible refine (HS4.out _ HW6.out).mono ?_); rintro e w7 ⟨rfl, hx⟩; have HW7 := Aside0.mk (below_alloc (below_step HW6.out hx) (.cells #[.int .i64 (o : Int), .int .i64 ((q : Int) + 1), .int .i64 1] 29)); have HI7 := Aside0.mk (blk_alloc (blk_below HI6.out hx) (.cells #[.int .i64 (o : Int), .int .i64 ((q : Int) + 1), .int .i64 1] 29)); have BN7 := Aside0.mk (blk_new w7 (.cells #[.int .i64 (o : Int), .int .i64 ((q : Int) + 1), .int .i64 1] 29)); have BN4_7 := Aside0.mk (blk_alloc (blk_below BN4_6.out hx) (.cells #[.int .i64 (o : Int), .int .i64 ((q : Int) + 1), .int .i64 1] 29)); have BN6_7 := Aside0.mk (blk_alloc (blk_below BN6.out hx) (.cells #[.int .i64 (o : Int), .int .i64 ((q : Int) + 1), .int .i64 1] 29)); clear hx; have x0 := (blk_cell BN4_7.out 0).trans rfl; have x1 := (blk_cell BN4_7.out 1).trans rfl; have x2 := (blk_cell BN4_7.out 2).trans rfl; have y0 := (blk_cell BN6_7.out 0).trans rfl; have y1 := (blk_cell BN6_7.out 1).trans rfl; have y2 := (blk_cell BN6_7.out 2).trans rfl; have z0 := (blk_cell BN7.out 0).trans rfl; have z1 := (blk_cell BN7.out 1).trans rfl; have z2 := (blk_cell BN7.out 2).trans rfl))
          go_roundw
          case rel => exact ⟨2, by decide, HI7.out, HW7.out⟩
          case measure =>
            have hm2 := HI7.out
            rw [HM.out, show World.iterPos _ w3.heap.size = 2 from by simp [World.iterPos, hm2]]
            decide
    · skip
      have hnext : ∀ ty, (Instr.next (.pointer (some ⟨w3.heap.size, 0, none⟩)) true ty).run Tryd.prog wr = .ok (.tuple #[.bool true, .int .i64 2, .int .i32 123]) (wr.iterAt w3.heap.size ({ data := #[40, 91, 123] } : ByteArray) 3) := fun ty => Lib.run_next_ascii_at wr w3.heap.size ({ data := #[40, 91, 123] } : ByteArray) 2 ty hk (by decide) (by decide)
      have hk1 := Lib.iterAt_heap wr w3.heap.size ({ data := #[40, 91, 123] } : ByteArray) 2 3 hk
      have hn1 : Below w.heap.size w (wr.iterAt w3.heap.size ({ data := #[40, 91, 123] } : ByteArray) 3) := Lib.below_iterAt hnx hw3 ({ data := #[40, 91, 123] } : ByteArray) 3
      have hmu : wr.iterPos w3.heap.size = 2 := by simp [World.iterPos, hk]
      generalize wr.iterAt w3.heap.size ({ data := #[40, 91, 123] } : ByteArray) 3 = W1 at hnext hk1 hn1
      have HM := Aside0.mk hmu
      clear hmu hk hnx
      have HW0 := Aside0.mk (below_alloc hn1 (.cells #[.int .u8 123] 5))
      have HI0 := Aside0.mk (blk_alloc hk1 (.cells #[.int .u8 123] 5))
      have kc := Kd.C_string (P := Tryd.prog) (c := 1) Tryd.underlying22 Tryd.underlying5 Tryd.underlying9 (show Kd.C (Kd.int .u8) (W1.alloc (.cells #[.int .u8 123] 5)) (some ⟨W1.heap.size, 0, none⟩) 1 [123] from u8_C (xs := [123]) (fr := (0, 0)) (blk_new W1 (.cells #[.int .u8 123] 5)) (by decide))
      clear hk1 hn1
      rcases nests (op := 123) (cl := 125) (t := l0) (p := p) (c := c) with ⟨hN, hN2⟩ | ⟨o, q, hN, ho, hq, hql, hoq, hO, hQ, hN2⟩
      · skip
        have HS1 := Aside0.mk (fun (W : World) (h : Below w.heap.size w W) => sel_none hu hl0 hc0 key_123 (key := ({ data := #[97] } ++ strOfNums [123] : ByteArray)) (by decide +kernel) (by decide +kernel) (by decide +kernel) (p := p) (c := c) (a := (p : Int)) (b := ((c : Int) + 1)) hpl (by omega) hN rfl (by omega) W (Kd.C_below HC0.out h))
        have HS2 := Aside0.mk (fun (W : World) (h : Below w.heap.size w W) => sel_none hu hl0 hc0 key_123 (key := ({ data := #[97] } ++ strOfNums [123] : ByteArray)) (by decide +kernel) (by decide +kernel) (by decide +kernel) (p := p) (c := (c + 1)) (a := (p : Int)) (b := ((c : Int) + 1 + 1)) hpl (by omega) hN2 rfl (by omega) W (Kd.C_below HC0.out h))
        clear hN hN2
        go_wp2_with (first
          | (go_at_call 10; (with_reducible refine (HS1.out _ HW0.out).mono ?_); rintro e w4 ⟨rfl, hx⟩; have HW4 := Aside0.mk (below_alloc (below_step HW0.out hx) (.cells #[.int .i64 0, .int .i64 0, .int .i64 0] 29)); have HI4 := Aside0.mk (blk_alloc (blk_below HI0.out hx) (.cells #[.int .i64 0, .int .i64 0, .int .i64 0] 29)); have BN4 := Aside0.mk (blk_new w4 (.cells #[.int .i64 0, .int .i64 0, .int .i64 0] 29)); clear hx)
          | (go_at_call 10; (with_reducible refine (HS2.out _ HW4.out).mono ?_); rintro e w5 ⟨rfl, hx⟩; have HW5 := Aside0.mk (below_alloc (below_step HW4.out hx) (.cells #[.int .i64 0, .int .i64 0, .int .i64 0] 29)); have HI5 := Aside0.mk (blk_alloc (blk_below HI4.out hx) (.cells #[.int .i64 0, .int .i64 0, .int .i64 0] 29)); have BN5 := Aside0.mk (blk_new w5 (.cells #[.int .i64 0, .int .i64 0, .int .i64 0] 29)); clear hx))
        go_roundw
        case rel => exact ⟨3, by decide, HI5.out, HW5.out⟩
        case measure =>
          have hm2 := HI5.out
          rw [HM.out, show World.iterPos _ w3.heap.size = 3 from by simp [World.iterPos, hm2]]
          decide
      · skip
        have HS1 := Aside0.mk (fun (W : World) (h : Below w.heap.size w W) => sel_some hu hl0 hc0 key_123 (key := ({ data := #[97] } ++ strOfNums [123] : ByteArray)) (by decide +kernel) (by decide +kernel) (by decide +kernel) (p := p) (c := c) (a := (p : Int)) (b := ((c : Int) + 1)) hpl (by omega) hN rfl (by omega) W (Kd.C_below HC0.out h))
        have HS3 := Aside0.mk (fun (W : World) (h : Below w.heap.size w W) => sel_some hu hl0 hc0 key_123 (key := ({ data := #[97] } ++ strOfNums [123] : ByteArray)) (by decide +kernel) (by decide +kernel) (by decide +kernel) (p := o) (c := 0) (a := (o : Int)) (b := (1 : Int)) (by omega) (by omega) hO rfl rfl W (Kd.C_below HC0.out h))
        have HS4 := Aside0.mk (fun (W : World) (h : Below w.heap.size w W) => sel_some hu hl0 hc0 key_123 (key := ({ data := #[97] } ++ strOfNums [123] : ByteArray)) (by decide +kernel) (by decide +kernel) (by decide +kernel) (p := q) (c := 0) (a := (q : Int)) (b := (1 : Int)) (by omega) (by omega) hQ rfl rfl W (Kd.C_below HC0.out h))
        have g1 : ((o : Int) > (p : Int)) = False := eq_false (by omega)
        have g2 : ((p : Int) ≥ (q : Int) + 1) = False := eq_false (by omega)
        have e1 := eqT (o : Int) ((q : Int) + 1) 1
        clear hN hO hQ
        rcases hN2 with hN2 | ⟨o2, q2, hN2, ho2, hq2, hq2l⟩
        · skip
          have HS2 := Aside0.mk (fun (W : World) (h : Below w.heap.size w W) => sel_none hu hl0 hc0 key_123 (key := ({ data := #[97] } ++ strOfNums [123] : ByteArray)) (by decide +kernel) (by decide +kernel) (by decide +kernel) (p := p) (c := (c + 1)) (a := (p : Int)) (b := ((c : Int) + 1 + 1)) hpl (by omega) hN2 rfl (by omega) W (Kd.C_below HC0.out h))
          clear hN2
          go_wp2_with (first
            | (go_at_call 10; (with_reducible refine (HS1.out _ HW0.out).mono ?_); rintro e w4 ⟨rfl, hx⟩; have HW4 := Aside0.mk (below_alloc (below_step HW0.out hx) (.cells #[.int .i64 (o : Int), .int .i64 ((q : Int) + 1), .int .i64 1] 29)); have HI4 := Aside0.mk (blk_alloc (blk_below HI0.out hx) (.cells #[.int .i64 (o : Int), .int .i64 ((q : Int) + 1), .int .i64 1] 29)); have BN4 := Aside0.mk (blk_new w4 (.cells #[.int .i64 (o : Int), .int .i64 ((q : Int) + 1), .int .i64 1] 29)); clear hx)
            | (go_at_call 10; (with_reducible refine (HS2.out _ HW4.out).mono ?_); rintro e w5 ⟨rfl, hx⟩; have HW5 := Aside0.mk (below_alloc (below_step HW4.out hx) (.cells #[.int .i64 0, .int .i64 0, .int .i64 0] 29)); have HI5 := Aside0.mk (blk_alloc (blk_below HI4.out hx) (.cells #[.int .i64 0, .int .i64 0, .int .i64 0] 29)); have BN5 := Aside0.mk (blk_new w5 (.cells #[.int .i64 0, .int .i64 0, .int .i64 0] 29)); have BN4_5 := Aside0.mk (blk_alloc (blk_below BN4.out hx) (.cells #[.int .i64 0, .int .i64 0, .int .i64 0] 29)); clear hx; have a0 := (blk_cell BN4_5.out 0).trans rfl; have a1 := (blk_cell BN4_5.out 1).trans rfl)
            | (go_at_call 10; (with_reducible refine (HS3.out _ HW5.out).mono ?_); rintro e w6 ⟨rfl, hx⟩; have HW6 := Aside0.mk (below_alloc (below_step HW5.out hx) (.cells #[.int .i64 (o : Int), .int .i64 ((q : Int) + 1), .int .i64 1] 29)); have HI6 := Aside0.mk (blk_alloc (blk_below HI5.out hx) (.cells #[.int .i64 (o : Int), .int .i64 ((q : Int) + 1), .int .i64 1] 29)); have BN6 := Aside0.mk (blk_new w6 (.cells #[.int .i64 (o : Int), .int .i64 ((q : Int) + 1), .int .i64 1] 29)); have BN4_6 := Aside0.mk (blk_alloc (blk_below BN4_5.out hx) (.cells #[.int .i64 (o : Int), .int .i64 ((q : Int) + 1), .int .i64 1] 29)); clear hx; have c1 := (blk_cell BN4_6.out 1).trans rfl)
            | (go_at_call 10; (with_reducible refine (HS4.out _ HW6.out).mono ?_); rintro e w7 ⟨rfl, hx⟩; have HW7 := Aside0.mk (below_alloc (below_step HW6.out hx) (.cells #[.int .i64 (o : Int), .int .i64 ((q : Int) + 1), .int .i64 1] 29)); have HI7 := Aside0.mk (blk_alloc (blk_below HI6.out hx) (.cells #[.int .i64 (o : Int), .int .i64 ((q : Int) + 1), .int .i64 1] 29)); have BN7 := Aside0.mk (blk_new w7 (.cells #[.int .i64 (o : Int), .int .i64 ((q : Int) + 1), .int .i64 1] 29)); have BN4_7 := Aside0.mk (blk_alloc (blk_below BN4_6.out hx) (.cells #[.int .i64 (o : Int), .int .i64 ((q : Int) + 1), .int .i64 1] 29)); have BN6_7 := Aside0.mk (blk_alloc (blk_below BN6.out hx) (.cells #[.int .i64 (o : Int), .int .i64 ((q : Int) + 1), .int .i64 1] 29)); clear hx; have x0 := (blk_cell BN4_7.out 0).trans rfl; have x1 := (blk_cell BN4_7.out 1).trans rfl; have x2 := (blk_cell BN4_7.out 2).trans rfl; have y0 := (blk_cell BN6_7.out 0).trans rfl; have y1 := (blk_cell BN6_7.out 1).trans rfl; have y2 := (blk_cell BN6_7.out 2).trans rfl; have z0 := (blk_cell BN7.out 0).trans rfl; have z1 := (blk_cell BN7.out 1).trans rfl; have z2 := (blk_cell BN7.out 2).trans rfl))
          go_roundw
          case rel => exact ⟨3, by decide, HI7.out, HW7.out⟩
          case measure =>
            have hm2 := HI7.out
            rw [HM.out, show World.iterPos _ w3.heap.size = 3 from by simp [World.iterPos, hm2]]
            decide
        · skip
          have HS2 := Aside0.mk (fun (W : World) (h : Below w.heap.size w W) => sel_some hu hl0 hc0 key_123 (key := ({ data := #[97] } ++ strOfNums [123] : ByteArray)) (by decide +kernel) (by decide +kernel) (by decide +kernel) (p := p) (c := (c + 1)) (a := (p : Int)) (b := ((c : Int) + 1 + 1)) hpl (by omega) hN2 rfl (by omega) W (Kd.C_below HC0.out h))
          clear hN2
          have g3 : ((o2 : Int) ≥ (o : Int)) = False := eq_false (by omega)
          have g4 : ((q2 : Int) + 1 ≤ (q : Int) + 1) = False := eq_false (by omega)
          go_wp2_with (first
            | (go_at_call 10; (with_reducible refine (HS1.out _ HW0.out).mono ?_); rintro e w4 ⟨rfl, hx⟩; have HW4 := Aside0.mk (below_alloc (below_step HW0.out hx) (.cells #[.int .i64 (o : Int), .int .i64 ((q : Int) + 1), .int .i64 1] 29)); have HI4 := Aside0.mk (blk_alloc (blk_below HI0.out hx) (.cells #[.int .i64 (o : Int), .int .i64 ((q : Int) + 1), .int .i64 1] 29)); have BN4 := Aside0.mk (blk_new w4 (.cells #[.int .i64 (o : Int), .int .i64 ((q : Int) + 1), .int .i64 1] 29)); clear hx)
            | (go_at_call 10; (with_reducible refine (HS2.out _ HW4.out).mono ?_); rintro e w5 ⟨rfl, hx⟩; have HW5 := Aside0.mk (below_alloc (below_step HW4.out hx) (.cells #[.int .i64 (o2 : Int), .int .i64 ((q2 : Int) + 1), .int .i64 1] 29)); have HI5 := Aside0.mk (blk_alloc (blk_below HI4.out hx) (.cells #[.int .i64 (o2 : Int), .int .i64 ((q2 : Int) + 1), .int .i64 1] 29)); have BN5 := Aside0.mk (blk_new w5 (.cells #[.int .i64 (o2 : Int), .int .i64 ((q2 : Int) + 1), .int .i64 1] 29)); have BN4_5 := Aside0.mk (blk_alloc (blk_below BN4.out hx) (.cells #[.int .i64 (o2 : Int), .int .i64 ((q2 : Int) + 1), .int .i64 1] 29)); clear hx; have a0 := (blk_cell BN4_5.out 0).trans rfl; have a1 := (blk_cell BN4_5.out 1).trans rfl; have b0 := (blk_cell BN5.out 0).trans rfl; have b1 := (blk_cell BN5.out 1).trans rfl)
            | (go_at_call 10; (with_reducible refine (HS3.out _ HW5.out).mono ?_); rintro e w6 ⟨rfl, hx⟩; have HW6 := Aside0.mk (below_alloc (below_step HW5.out hx) (.cells #[.int .i64 (o : Int), .int .i64 ((q : Int) + 1), .int .i64 1] 29)); have HI6 := Aside0.mk (blk_alloc (blk_below HI5.out hx) (.cells #[.int .i64 (o : Int), .int .i64 ((q : Int) + 1), .int .i64 1] 29)); have BN6 := Aside0.mk (blk_new w6 (.cells #[.int .i64 (o : Int), .int .i64 ((q : Int) + 1), .int .i64 1] 29)); have BN4_6 := Aside0.mk (blk_alloc (blk_below BN4_5.out hx) (.cells #[.int .i64 (o : Int), .int .i64 ((q : Int) + 1), .int .i64 1] 29)); clear hx; have c1 := (blk_cell BN4_6.out 1).trans rfl)
            | (go_at_call 10; (with_reducible refine (HS4.out _ HW6.out).mono ?_); rintro e w7 ⟨rfl, hx⟩; have HW7 := Aside0.mk (below_alloc (below_step HW6.out hx) (.cells #[.int .i64 (o : Int), .int .i64 ((q : Int) + 1), .int .i64 1] 29)); have HI7 := Aside0.mk (blk_alloc (blk_below HI6.out hx) (.cells #[.int .i64 (o : Int), .int .i64 ((q : Int) + 1), .int .i64 1] 29)); have BN7 := Aside0.mk (blk_new w7 (.cells #[.int .i64 (o : Int), .int .i64 ((q : Int) + 1), .int .i64 1] 29)); have BN4_7 := Aside0.mk (blk_alloc (blk_below BN4_6.out hx) (.cells #[.int .i64 (o : Int), .int .i64 ((q : Int) + 1), .int .i64 1] 29)); have BN6_7 := Aside0.mk (blk_alloc (blk_below BN6.out hx) (.cells #[.int .i64 (o : Int), .int .i64 ((q : Int) + 1), .int .i64 1] 29)); clear hx; have x0 := (blk_cell BN4_7.out 0).trans rfl; have x1 := (blk_cell BN4_7.out 1).trans rfl; have x2 := (blk_cell BN4_7.out 2).trans rfl; have y0 := (blk_cell BN6_7.out 0).trans rfl; have y1 := (blk_cell BN6_7.out 1).trans rfl; have y2 := (blk_cell BN6_7.out 2).trans rfl; have z0 := (blk_cell BN7.out 0).trans rfl; have z1 := (blk_cell BN7.out 1).trans rfl; have z2 := (blk_cell BN7.out 2).trans rfl))
          go_roundw
          case rel => exact ⟨3, by decide, HI7.out, HW7.out⟩
          case measure =>
            have hm2 := HI7.out
            rw [HM.out, show World.iterPos _ w3.heap.size = 3 from by simp [World.iterPos, hm2]]
            decide
    · skip
      have hnext : ∀ ty, (Instr.next (.pointer (some ⟨w3.heap.size, 0, none⟩)) true ty).run Tryd.prog wr = .ok (.tuple #[.bool false]) wr := fun ty => Lib.run_next_end_at wr w3.heap.size ({ data := #[40, 91, 123] } : ByteArray) 3 ty hk (by decide)
      go_wp2
      exact bodyPost_ret (v := .bool true) (by simp [results, Tryd.results5, go_sem]) rfl ⟨rfl, hnx⟩
end Go.Proofs.YtcochbkdgjgaeaaDoor.WalkObjectNests
end
