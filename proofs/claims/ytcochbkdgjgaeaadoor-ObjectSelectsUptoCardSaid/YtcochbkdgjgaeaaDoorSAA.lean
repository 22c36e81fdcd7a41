/-
  Texts of one proof in one file (wip/some.py): OB, OB2, OVB, OVX, OVQ, OVW, OVS.
  Conditions: none.
-/
import Derived.Test.YtcochbkdgjgaeaaDoorLN
import Derived.Test.YtcochbkdgjgaeaaDoorX7
import Derived.Test.YtcochbkdgjgaeaaDoorX12
import Derived.Test.YtcochbkdgjgaeaaDoorX13
import Derived.Test.YtcochbkdgjgaeaaDoorX14
import Derived.Test.YtcochbkdgjgaeaaDoorX17
import Derived.Test.YtcochbkdgjgaeaaDoorX16
import Derived.Test.YtcochbkdgjgaeaaDoorX22
import Derived.Test.YtcochbkdgjgaeaaDoorX21
import Derived.Test.YtcochbkdgjgaeaaDoorX24
import Derived.Test.YtcochbkdgjgaeaaDoorX18
section
namespace Go.Proofs.YtcochbkdgjgaeaaDoor.OB
open Go.RowKit Go.Proofs.YtcochbkdgjgaeaaDoorW.PrintWords Go.Proofs.YtcochbkdgjgaeaaDoorW.PrintMore Go.Proofs.YtcochbkdgjgaeaaDoor.X Go.Proofs.YtcochbkdgjgaeaaDoor.XL Go.Proofs.YtcochbkdgjgaeaaDoor.XO Go.Proofs.YtcochbkdgjgaeaaDoor.LN
def cls (b : Int) (big : Bool) : Int :=
 if b = 10 then 3 else if b = 32 ∨ b = 9 then 0 else if big = true ∨ (97 ≤ b ∧ b ≤ 122) ∨ (65 ≤ b ∧ b ≤ 90) ∨ (48 ≤ b ∧ b ≤ 57) ∨ b = 95 ∨ 128 ≤ b then 2 else 1
theorem cls_ev (b : Int) (big : Bool) : Ev (fun k => class_Of.f k b big) (cls b big) := by
 have hj : ∀ f : Bool, (f = true ↔ (b = 32 ∨ b = 9)) → b ≠ 10 → Ev (fun k => class_Of.j0 k b big f) (cls b big) := by
  intro f hf h10
  refine Ev.step (fun _ => class_Of.j0.eq_2 ..) ?_
  rw [show cls b big = if b = 32 ∨ b = 9 then 0 else if big = true ∨ (97 ≤ b ∧ b ≤ 122) ∨ (65 ≤ b ∧ b ≤ 90) ∨ (48 ≤ b ∧ b ≤ 57) ∨ b = 95 ∨ 128 ≤ b then 2 else 1 from if_neg h10]
  cases f with
  | true => exact Ev.eq (Ev.pos rfl (Ev.now 0)) (if_pos (hf.1 rfl)).symm
  | false =>
   have hn : ¬ (b = 32 ∨ b = 9) := fun h => by have := hf.2 h; cases this
   refine Ev.eq (r := if big = true ∨ (97 ≤ b ∧ b ≤ 122) ∨ (65 ≤ b ∧ b ≤ 90) ∨ (48 ≤ b ∧ b ≤ 57) ∨ b = 95 ∨ 128 ≤ b then 2 else 1) (Ev.neg Bool.false_ne_true ?_) (if_neg hn).symm
   by_cases hb : big = true
   ·exact Ev.eq (Ev.pos hb (Ev.now 2)) (if_pos (.inl hb)).symm
   refine Ev.neg hb ?_
   by_cases hs : 97 ≤ b ∧ b ≤ 122
   ·exact Ev.eq (Ev.cbind (show class_small.f b = some true by unfold class_small.f; rw [if_pos hs.1, decide_eq_true hs.2]) (Ev.pos rfl (Ev.now 2))) (if_pos (.inr (.inl hs))).symm
   have hs' : class_small.f b = some false := by
    unfold class_small.f
    by_cases h1 : b ≥ 97
    ·rw [if_pos h1, decide_eq_false (by omega)]
    ·rw [if_neg h1]
   refine Ev.cbind hs' (Ev.neg Bool.false_ne_true ?_)
   by_cases hg : 65 ≤ b ∧ b ≤ 90
   ·exact Ev.eq (Ev.cbind (show class_great.f b = some true by unfold class_great.f; rw [if_pos hg.1, decide_eq_true hg.2]) (Ev.pos rfl (Ev.now 2))) (if_pos (.inr (.inr (.inl hg)))).symm
   have hg' : class_great.f b = some false := by
    unfold class_great.f
    by_cases h1 : b ≥ 65
    ·rw [if_pos h1, decide_eq_false (by omega)]
    ·rw [if_neg h1]
   refine Ev.cbind hg' (Ev.neg Bool.false_ne_true ?_)
   by_cases hd : 48 ≤ b ∧ b ≤ 57
   ·exact Ev.eq (Ev.pos hd.1 (Ev.pos hd.2 (Ev.now 2))) (if_pos (.inr (.inr (.inr (.inl hd))))).symm
   by_cases hu : b = 95
   ·exact Ev.eq (Ev.pos (show b ≥ 48 by omega) (Ev.neg (show ¬ b ≤ 57 by omega) (Ev.pos hu (Ev.now 2)))) (if_pos (.inr (.inr (.inr (.inr (.inl hu)))))).symm
   by_cases h8 : 128 ≤ b
   ·exact Ev.eq (Ev.pos (show b ≥ 48 by omega) (Ev.neg (show ¬ b ≤ 57 by omega) (Ev.neg hu (Ev.pos h8 (Ev.now 2))))) (if_pos (.inr (.inr (.inr (.inr (.inr h8)))))).symm
   have hno : ¬ (big = true ∨ (97 ≤ b ∧ b ≤ 122) ∨ (65 ≤ b ∧ b ≤ 90) ∨ (48 ≤ b ∧ b ≤ 57) ∨ b = 95 ∨ 128 ≤ b) := by
    rintro (h | h | h | h | h | h)
    ·exact hb h
    ·exact hs h
    ·exact hg h
    ·exact hd h
    ·exact hu h
    ·exact h8 h
   by_cases h4 : b ≥ 48
   ·exact Ev.eq (Ev.pos h4 (Ev.neg (show ¬ b ≤ 57 by omega) (Ev.neg hu (Ev.neg h8 (Ev.now 1))))) (if_neg hno).symm
   ·exact Ev.eq (Ev.neg h4 (Ev.neg hu (Ev.neg h8 (Ev.now 1)))) (if_neg hno).symm
 by_cases h10 : b = 10
 ·exact Ev.eq (Ev.pos h10 (Ev.now 3)) (if_pos h10).symm
 refine Ev.neg h10 ?_
 by_cases h3 : b = 32
 ·exact Ev.pos h3 (hj true ⟨fun _ => .inl h3, fun _ => rfl⟩ h10)
 ·refine Ev.neg h3 (hj _ ?_ h10)
  rw [beq_iff_eq]
  exact ⟨.inr, fun h => h.elim (fun h => absurd h h3) id⟩
/-- A chain of stretches from s to e: each of one class, the next one's another. -/
def Ch (C : Nat → Int) (e : Nat) : Nat → List S76 → Prop
 | s, [] => s = e
 | s, x :: xs => ∃ n : Nat, x.f0 = (s : Int) ∧ x.f1 = (n : Int) ∧ s < n ∧ n ≤ e ∧ (∀ j, s ≤ j → j < n → C j = C s) ∧ (n < e → C n ≠ C s) ∧ x.f2 = (C s == 0) ∧ Ch C e n xs
theorem Ch_le {C : Nat → Int} {e : Nat} : ∀ {L : List S76} {s : Nat}, Ch C e s L → s ≤ e
 | [], _, h => Nat.le_of_eq h
 | _ :: _, _, ⟨_, _, _, h1, h2, _⟩ => by omega
theorem Ch_mem {C : Nat → Int} {e : Nat} : ∀ {L : List S76} {s : Nat}, Ch C e s L → ∀ y ∈ L, (s : Int) ≤ y.f0 ∧ y.f0 < y.f1 ∧ y.f1 ≤ e
 | [], _, _, _, hy => by cases hy
 | x :: xs, s, ⟨n, h0, h1, h2, h3, _, _, _, h⟩, y, hy => by
  rcases List.mem_cons.1 hy with rfl | hy
  ·omega
  ·have := Ch_mem h y hy
   omega
/-- A chain cut in two: where the second part begins. -/
theorem Ch_split {C : Nat → Int} {e : Nat} : ∀ {A B : List S76} {s : Nat}, Ch C e s (A ++ B) → ∃ m : Nat, s ≤ m ∧ m ≤ e ∧ (∀ y ∈ A, (s : Int) ≤ y.f0 ∧ y.f0 < y.f1 ∧ y.f1 ≤ m) ∧ Ch C e m B ∧ ((A = [] ∧ m = s) ∨ (s < m ∧ (m < e → C (m - 1) ≠ C m)))
 | [], B, s, h => ⟨s, Nat.le_refl _, Ch_le h, fun _ hy => by (cases hy), h, .inl ⟨rfl, rfl⟩⟩
 | x :: A, B, s, ⟨n, h0, h1, h2, h3, h4, h5, _, h⟩ => by
  obtain ⟨m, m1, m2, m3, m4, m5⟩ := Ch_split h
  refine ⟨m, by omega, m2, ?_, m4, .inr ⟨by omega, fun hm => ?_⟩⟩
  ·intro y hy
   rcases List.mem_cons.1 hy with rfl | hy
   ·omega
   ·have := m3 y hy; omega
  ·rcases m5 with ⟨_, rfl⟩ | ⟨_, m6⟩
   ·rw [h4 (m - 1) (by omega) (by omega)]
    exact fun he => h5 hm he.symm
   ·exact m6 hm
/-- Every place of the chain's stands in one stretch. -/
theorem Ch_at {C : Nat → Int} {e p : Nat} : ∀ {L : List S76} {s : Nat}, Ch C e s L → s ≤ p → p < e → ∃ A x B, L = A ++ x :: B ∧ x.f0 ≤ (p : Int) ∧ (p : Int) < x.f1
 | [], s, h, h1, h2 => by have h : s = e := h; omega
 | x :: xs, s, ⟨n, h0, h1, h2, h3, _, _, _, h⟩, hp, he => by
  by_cases hn : p < n
  ·exact ⟨[], x, xs, rfl, by omega, by omega⟩
  ·obtain ⟨A, y, B, e1, e2, e3⟩ := Ch_at h (by omega) he
   exact ⟨x :: A, y, B, by rw [e1]; rfl, e2, e3⟩
/-- The number of the stretch that holds a place. -/
def fk (p : Int) : Int → Nat → List S76 → Int
 | kx, _, [] => kx
 | kx, j, x :: xs => fk p (if x.f0 ≤ p ∧ p < x.f1 then (j : Int) else kx) (j + 1) xs
theorem fk_no {p : Int} : ∀ {L : List S76} {kx : Int} {j : Nat}, (∀ y ∈ L, ¬ (y.f0 ≤ p ∧ p < y.f1)) → fk p kx j L = kx
 | [], _, _, _ => rfl
 | x :: xs, kx, j, h => by
  unfold fk
  rw [if_neg (h x List.mem_cons_self)]
  exact fk_no (fun y hy => h y (List.mem_cons_of_mem _ hy))
theorem fk_append {p : Int} : ∀ {A B : List S76} {kx : Int} {j : Nat}, fk p kx j (A ++ B) = fk p (fk p kx j A) (j + A.length) B
 | [], _, _, _ => rfl
 | x :: A, B, kx, j => by
  rw [List.cons_append]
  unfold fk
  rw [fk_append, List.length_cons, show j + 1 + A.length = j + (A.length + 1) from by omega]
  rw [show fk p kx j (x :: A) = fk p (if x.f0 ≤ p ∧ p < x.f1 then (j : Int) else kx) (j + 1) A from by rw [fk]]
  cases B <;> simp only [fk]
theorem fk_at {C : Nat → Int} {e p : Nat} {A B : List S76} {x : S76} {s : Nat} {kx : Int} (h : Ch C e s (A ++ x :: B)) (h1 : x.f0 ≤ (p : Int)) (h2 : (p : Int) < x.f1) : fk (p : Int) kx 0 (A ++ x :: B) = (A.length : Int) := by
 obtain ⟨m, m1, m2, m3, ⟨n, n0, n1, n2, n3, _, _, _, hB⟩, _⟩ := Ch_split h
 rw [fk_append]
 rw [fk, if_pos ⟨h1, h2⟩, fk_no (fun y hy => by have := Ch_mem hB y hy; omega), Nat.zero_add]
theorem rd_mid {A B : List S76} {x : S76} : rd_T76 (A ++ x :: B) (A.length : Int) = x := by
 unfold rd_T76
 rw [Int.toNat_natCast]
 exact getD_mid _ _ _ _
/-! ### A line's runs of bytes -/
section
variable (t : List Int) (big : Bool)
def cl (j : Nat) : Int := cls (t.getD j 0) big
/-- The runs' ends, from place i on. -/
def ends (e : Nat) : Nat → Nat → List Nat
 | _, 0 => []
 | i, d + 1 => if i + 1 = e ∨ cl t big i ≠ cl t big (i + 1) then (i + 1) :: ends e (i + 1) d else ends e (i + 1) d
def mk : Nat → List Nat → List S76
 | _, [] => []
 | f, n :: ns => ⟨(f : Int), (n : Int), cl t big f == 0⟩ :: mk n ns
end
section
variable {t : List Int} {big : Bool}
theorem mk_chain {e : Nat} : ∀ (d i f : Nat), i + d = e → f ≤ i → (i = e → f = e) → (∀ j, f ≤ j → j ≤ i → j < e → cl t big j = cl t big f) → Ch (cl t big) e f (mk t big f (ends t big e i d)) := by
 intro d
 induction d with
 | zero => intro i f hi hf h1 _; exact h1 (by omega)
 | succ d ih =>
  intro i f hi hf h1 h2
  unfold ends
  by_cases h : i + 1 = e ∨ cl t big i ≠ cl t big (i + 1)
  ·rw [if_pos h]
   unfold mk
   have hci := h2 i hf (Nat.le_refl _) (by omega)
   refine ⟨i + 1, rfl, rfl, by omega, by omega, fun j a b => h2 j a (by omega) (by omega), fun hn => ?_, rfl, ?_⟩
   ·rcases h with h | h
    ·omega
    ·rw [← hci]; exact fun e => h e.symm
   ·exact ih (i + 1) (i + 1) (by omega) (Nat.le_refl _) (fun e => e) (fun j a b _ => by rw [show j = i + 1 from by omega])
  ·rw [if_neg h]
   have hne : i + 1 ≠ e := fun e => h (.inl e)
   have heq : cl t big i = cl t big (i + 1) := by
    by_cases q : cl t big i = cl t big (i + 1)
    ·exact q
    ·exact absurd (.inr q) h
   refine ih (i + 1) f (by omega) (by omega) (fun e => absurd e hne) (fun j a b c => ?_)
   by_cases hj : j ≤ i
   ·exact h2 j a hj c
   ·rw [show j = i + 1 from by omega, ← heq]
    exact h2 i hf (Nat.le_refl _) (by omega)
theorem ends_len {e : Nat} : ∀ (d i : Nat), (ends t big e i d).length ≤ d := by
 intro d
 induction d with
 | zero => intro i; exact Nat.le_refl _
 | succ d ih =>
  intro i
  unfold ends
  have := ih (i + 1)
  split
  ·rw [List.length_cons]; omega
  ·omega
theorem ends_le {e : Nat} : ∀ (d i : Nat), i + d = e → ∀ n ∈ ends t big e i d, i < n ∧ n ≤ e := by
 intro d
 induction d with
 | zero => intro i _ n hn; cases hn
 | succ d ih =>
  intro i hi n hn
  unfold ends at hn
  split at hn
  ·rcases List.mem_cons.1 hn with rfl | hn
   ·omega
   ·have := ih (i + 1) (by omega) n hn; omega
  ·have := ih (i + 1) (by omega) n hn; omega
theorem seg_at {s e j : Nat} (hj : s + j < e) : rd ((t.take e).drop s) (j : Int) = t.getD (s + j) 0 := by
 unfold rd
 rw [Int.toNat_natCast, getD_drop, List.getD_eq_getElem?_getD, List.getElem?_take_of_lt (by omega), ← List.getD_eq_getElem?_getD]
theorem Runs_l0 {s e : Nat} (hs : s ≤ e) (he : e ≤ t.length) (hl : t.length ≤ 1048576) : ∀ (d i : Nat) (acc : List Int), s + i + d = e → acc.length ≤ i → Ev (fun k => class_Runs.l0 k ((t.take e).drop s) big acc ((e - s : Nat) : Int) (i : Int)) (acc ++ (ends t big e (s + i) d).map fun n : Nat => (n : Int) - s) := by
 have hlen : ((t.take e).drop s).length = e - s := by rw [List.length_drop, List.length_take]; omega
 intro d
 induction d with
 | zero =>
  intro i acc hi _
  refine Ev.step (fun _ => class_Runs.l0.eq_2 ..) (Ev.neg (by omega) ?_)
  rw [show ends t big e (s + i) 0 = [] from rfl, List.map_nil, List.append_nil]
  exact Ev.now _
 | succ d ih =>
  intro i acc hi ha
  have hw : wrap64 ((i : Int) + 1) = ((i + 1 : Nat) : Int) := by rw [wrap64_id (by omega) (by omega)]; omega
  refine Ev.step (fun _ => class_Runs.l0.eq_2 ..) (Ev.pos (by omega) ?_)
  rw [hw, hlen]
  clear hw
  have push : (s + i + 1 = e ∨ cl t big (s + i) ≠ cl t big (s + i + 1)) → Ev (fun k => if acc.length < 17592186044416 then (class_Runs.l0 k ((t.take e).drop s) big (acc ++ [((i + 1 : Nat) : Int)]) ((e - s : Nat) : Int) ((i + 1 : Nat) : Int)) else none) (acc ++ (ends t big e (s + i) (d + 1)).map fun n : Nat => (n : Int) - s) := by
   intro h
   refine Ev.pos (by omega) ?_
   have h2 := ih (i + 1) (acc ++ [((i + 1 : Nat) : Int)]) (by omega) (by simp; omega)
   unfold ends
   rw [if_pos h, List.map_cons, show ((s + i + 1 : Nat) : Int) - (s : Int) = ((i + 1 : Nat) : Int) from by omega]
   rw [List.append_assoc] at h2
   exact h2
  by_cases h1 : s + i + 1 = e
  ·exact Ev.pos (by omega) (push (.inl h1))
  ·refine Ev.neg (by omega) (Ev.pos (by omega) (Ev.pos (by omega) ?_))
   have c1 : Ev (fun k => class_Of.f k (rd ((t.take e).drop s) (i : Int)) big) (cl t big (s + i)) := Ev.eq (cls_ev _ _) (by unfold cl; rw [seg_at (by omega)])
   have c2 : Ev (fun k => class_Of.f k (rd ((t.take e).drop s) ((i + 1 : Nat) : Int)) big) (cl t big (s + i + 1)) := Ev.eq (cls_ev _ _) (by unfold cl; rw [seg_at (by omega)]; rfl)
   refine Ev.bind c1 (Ev.pos (by omega) (Ev.pos (by omega) (Ev.bind c2 ?_)))
   by_cases h2 : cl t big (s + i) = cl t big (s + i + 1)
   ·refine Ev.pos h2 ?_
    have h3 := ih (i + 1) acc (by omega) (by omega)
    unfold ends
    rw [if_neg (fun h => h.elim h1 (fun h => h h2))]
    exact h3
   ·exact Ev.neg h2 (push (.inr h2))
theorem Runs_ev {s e : Nat} (hs : s ≤ e) (he : e ≤ t.length) (hl : t.length ≤ 1048576) : Ev (fun k => class_Runs.f k ((t.take e).drop s) big) ((ends t big e s (e - s)).map fun n : Nat => (n : Int) - s) := by
 have hlen : ((t.take e).drop s).length = e - s := by rw [List.length_drop, List.length_take]; omega
 have h := Runs_l0 (big := big) hs he hl (e - s) 0 [] (by omega) (Nat.le_refl _)
 show Ev (fun k => class_Runs.l0 k ((t.take e).drop s) big [] (((t.take e).drop s).length : Int) 0) _
 rw [hlen]
 exact h
/-- What an object takes of a list. -/
def outW (L : List S76) (r : Int × Int × Bool) : Int × Int × Bool := if r.2.2 = true then ((rd_T76 L r.1).f0, (rd_T76 L (r.2.1 - 1)).f1, true) else (0, 0, false)
/-- words' loop: the stretches are laid, and at's is found; then taken has the word. -/
theorem words_l0 {s e p : Nat} {c : Int} {around : Bool} (he : e ≤ t.length) (hl : t.length ≤ 1048576) {xs : List Int} {L0 : List S76} {r : Int × Int × Bool} {kf : Int}
  (fin0 : kf < 0 → r = (0, 0, false))
  (fin1 : ¬ kf < 0 → ∃ q : Int × Int × Bool, Ev (fun k => object_taken.f k L0 kf c around) q ∧ (q.2.2 = true → (0 ≤ q.1 ∧ q.1 < L0.length) ∧ 1 ≤ q.2.1 ∧ q.2.1 ≤ L0.length) ∧ r = outW L0 q) :
  ∀ (suf : List Nat) (pre : List Int) (L : List S76) (kx : Int) (f : Nat), xs = pre ++ suf.map (fun n : Nat => (n : Int) - s) → xs.length ≤ 1048576 → L.length = pre.length → (∀ n ∈ suf, n ≤ e) → s ≤ e → (suf ≠ [] → f < e) → L ++ mk t big f suf = L0 → fk (p : Int) kx L.length (mk t big f suf) = kf →
   (∀ n ns, suf = n :: ns → f < n) → (∀ a ns, suf = a :: ns → List.Pairwise (· < ·) suf) →
   Ev (fun k => object_words.l0 k t (p : Int) c big around (s : Int) L kx (f : Int) xs (xs.length : Int) (pre.length : Int)) r := by
 intro suf
 induction suf with
 | nil =>
  intro pre L kx f hx hxl hL _ _ _ h0 hk _ _
  have hxl2 : xs.length = pre.length := by rw [hx]; simp
  have e0 : L = L0 := by rw [← h0]; simp [mk]
  have ek : kx = kf := hk
  subst e0
  subst ek
  refine Ev.step (fun _ => object_words.l0.eq_2 ..) (Ev.neg (by omega) ?_)
  by_cases hn : kx < 0
  ·rw [fin0 hn]; exact Ev.pos hn (Ev.now _)
  ·obtain ⟨q, q1, q2, q3⟩ := fin1 hn
   refine Ev.neg hn (Ev.bind q1 ?_)
   rw [q3]
   by_cases ht : q.2.2 = true
   ·obtain ⟨⟨a1, a2⟩, a3, a4⟩ := q2 ht
    rw [show outW L q = _ from if_pos ht]
    have hw : wrap64 (q.2.1 - 1) = q.2.1 - 1 := wrap64_id (by omega) (by omega)
    rw [hw]
    clear hw
    exact Ev.pos ht (Ev.pos a1 (Ev.pos a2 (Ev.pos (by omega) (Ev.pos (by omega) (Ev.now _)))))
   ·rw [show outW L q = _ from if_neg ht]; exact Ev.neg ht (Ev.now _)
 | cons n ns ih =>
  intro pre L kx f hx hxl hL hle hse hf h0 hk hfn hpw
  have hn := hle n List.mem_cons_self
  have hfe := hf (by simp)
  have hfn1 := hfn n ns rfl
  have hp1 : xs.length = pre.length + ns.length + 1 := by rw [hx]; simp; omega
  have hrd : rd xs (pre.length : Int) = (n : Int) - s := by
   unfold rd
   rw [Int.toNat_natCast, hx, List.map_cons]
   exact getD_mid _ _ _ _
  have hw1 : wrap64 ((s : Int) + ((n : Int) - s)) = (n : Int) := by rw [show (s : Int) + ((n : Int) - s) = n from by omega]; exact wrap64_id (by omega) (by omega)
  have hw2 : wrap64 ((pre.length : Int) + 1) = ((pre ++ [(n : Int) - s]).length : Int) := by rw [wrap64_id (by omega) (by omega)]; simp
  have c1 := cls_ev (rd t (f : Int)) big
  have hrf : rd t (f : Int) = t.getD f 0 := by unfold rd; rw [Int.toNat_natCast]
  rw [hrf] at c1
  have hpw2 : List.Pairwise (· < ·) (n :: ns) := hpw n ns rfl
  have next : ∀ kx' : Int, kx' = (if (f : Int) ≤ p ∧ (p : Int) < n then (L.length : Int) else kx) → Ev (fun k => object_words.l0 k t (p : Int) c big around (s : Int) (L ++ [(⟨(f : Int), (n : Int), cls (t.getD f 0) big == 0⟩ : S76)]) kx' (n : Int) xs (xs.length : Int) ((pre ++ [(n : Int) - s]).length : Int)) r := by
   intro kx' hk'
   refine ih (pre ++ [(n : Int) - s]) (L ++ [⟨(f : Int), (n : Int), cls (t.getD f 0) big == 0⟩]) kx' n (by rw [hx]; simp) hxl (by simp [hL]) (fun m hm => hle m (List.mem_cons_of_mem _ hm)) hse ?_ ?_ ?_ ?_ ?_
   ·intro hne
    cases ns with
    | nil => exact absurd rfl hne
    | cons m ms =>
     have h3 := (List.pairwise_cons.1 hpw2).1 m List.mem_cons_self
     have h4 := hle m (List.mem_cons_of_mem _ List.mem_cons_self)
     omega
   ·rw [← h0]; simp [mk, cl]
   ·rw [← hk, hk']; simp [mk, fk]
   ·intro m ms e
    subst e
    exact (List.pairwise_cons.1 hpw2).1 m List.mem_cons_self
   ·intro m ms e
    subst e
    exact (List.pairwise_cons.1 hpw2).2
  refine Ev.step (fun _ => object_words.l0.eq_2 ..) (Ev.pos (by omega) (Ev.pos (by omega) (Ev.pos (by omega) ?_)))
  rw [hrd, hw1, hw2, hrf]
  clear hw1 hw2
  by_cases h1 : (f : Int) ≤ p
  ·refine Ev.pos h1 ?_
   by_cases h2 : (p : Int) < n
   ·exact Ev.pos h2 (Ev.pos (by omega) (Ev.pos (by omega) (Ev.bind c1 (Ev.pos (by omega) (next _ (by rw [if_pos ⟨h1, h2⟩]))))))
   ·exact Ev.neg h2 (Ev.pos (by omega) (Ev.pos (by omega) (Ev.bind c1 (Ev.pos (by omega) (next _ (by rw [if_neg (fun h => h2 h.2)]))))))
  ·exact Ev.neg h1 (Ev.pos (by omega) (Ev.pos (by omega) (Ev.bind c1 (Ev.pos (by omega) (next _ (by rw [if_neg (fun h => h1 h.1)]))))))
end
end Go.Proofs.YtcochbkdgjgaeaaDoor.OB
end
section
namespace Go.Proofs.YtcochbkdgjgaeaaDoor.OB2
open Go.RowKit Go.Proofs.YtcochbkdgjgaeaaDoorW.PrintWords Go.Proofs.YtcochbkdgjgaeaaDoorW.PrintMore Go.Proofs.YtcochbkdgjgaeaaDoor.X Go.Proofs.YtcochbkdgjgaeaaDoor.XL Go.Proofs.YtcochbkdgjgaeaaDoor.XO Go.Proofs.YtcochbkdgjgaeaaDoor.LN Go.Proofs.YtcochbkdgjgaeaaDoor.OB
set_option linter.unusedVariables false
section
variable {t : List Int}
theorem ends_pw {big : Bool} {e : Nat} : ∀ (d i : Nat), i + d = e → List.Pairwise (· < ·) (ends t big e i d) := by
 intro d
 induction d with
 | zero => intro i _; exact List.Pairwise.nil
 | succ d ih =>
  intro i hi
  unfold ends
  split
  ·exact List.pairwise_cons.2 ⟨fun n hn => (ends_le d (i + 1) (by omega) n hn).1, ih (i + 1) (by omega)⟩
  ·exact ih (i + 1) (by omega)
def lineL (t : List Int) (big : Bool) (s e : Nat) : List S76 := mk t big s (ends t big e s (e - s))
theorem lineL_chain {big : Bool} {s e : Nat} (h : s ≤ e) : Ch (cl t big) e s (lineL t big s e) :=
 mk_chain (e - s) s s (by omega) (Nat.le_refl _) (fun h => h) (fun j a b _ => by rw [show j = s from by omega])
theorem mk_len {big : Bool} : ∀ (ns : List Nat) (f : Nat), (mk t big f ns).length = ns.length
 | [], _ => rfl
 | n :: ns, _ => by unfold mk; rw [List.length_cons, List.length_cons, mk_len ns n]
theorem lineL_len {big : Bool} {s e : Nat} : (lineL t big s e).length ≤ e - s := by
 unfold lineL
 rw [mk_len]
 exact ends_len _ _
theorem fk_range {p : Int} : ∀ (L : List S76) (kx : Int) (j : Nat), -1 ≤ kx → kx < j → -1 ≤ fk p kx j L ∧ fk p kx j L < (j + L.length : Nat)
 | [], kx, j, h1, h2 => by unfold fk; simp; omega
 | x :: xs, kx, j, h1, h2 => by
  unfold fk
  have h := fk_range (p := p) xs (if x.f0 ≤ p ∧ p < x.f1 then (j : Int) else kx) (j + 1) (by split <;> omega) (by split <;> omega)
  rw [List.length_cons]
  omega
def vC (M : List (List Int)) (j : Nat) : Int := if ((M.getD j []).length : Int) = 0 then 0 else 1
theorem vC_void (M : List (List Int)) (j : Nat) : (((rd_L4 M (j : Int)).length : Int) == 0) = (vC M j == 0) := by
 unfold vC rd_L4
 rw [Int.toNat_natCast]
 by_cases h : ((M.getD j []).length : Int) = 0
 ·rw [if_pos h, h]
 ·rw [if_neg h]; simpa using h
theorem set_last {A : List S76} {x y : S76} : (A ++ [x]).set A.length y = A ++ [y] := by
 rw [List.set_append_right _ _ (Nat.le_refl _), Nat.sub_self]
 rfl
theorem Ch_grow {C : Nat → Int} {e : Nat} {x : S76} : ∀ {A : List S76} {s : Nat}, Ch C e s (A ++ [x]) → ∃ m : Nat, x.f0 = (m : Int) ∧ m < e ∧ x.f2 = (C m == 0) ∧
  (C e ≠ C m → Ch C (e + 1) s (A ++ [x, ⟨(e : Int), ((e + 1 : Nat) : Int), C e == 0⟩])) ∧ (C e = C m → Ch C (e + 1) s (A ++ [⟨x.f0, ((e + 1 : Nat) : Int), x.f2⟩]))
 | [], s, ⟨n, h0, h1, h2, h3, h4, h5, h6, h7⟩ => by
  have h7 : n = e := h7
  subst h7
  refine ⟨s, h0, h2, h6, fun hc => ?_, fun hc => ?_⟩
  ·exact ⟨n, h0, h1, h2, by omega, h4, fun _ => hc, h6, n + 1, rfl, rfl, by omega, Nat.le_refl _, fun j a b => by rw [show j = n from by omega], fun h => by omega, rfl, rfl⟩
  ·refine ⟨n + 1, h0, rfl, by omega, Nat.le_refl _, fun j a b => ?_, fun h => by omega, h6, rfl⟩
   by_cases hj : j < n
   ·exact h4 j a hj
   ·rw [show j = n from by omega]; exact hc
 | y :: A, s, ⟨n, h0, h1, h2, h3, h4, h5, h6, h7⟩ => by
  obtain ⟨m, m1, m2, m3, m4, m5⟩ := Ch_grow h7
  have hn : n < e := by
   have h8 := Ch_mem h7 x (by simp)
   omega
  exact ⟨m, m1, m2, m3, fun hc => ⟨n, h0, h1, h2, by omega, h4, fun _ => h5 hn, h6, m4 hc⟩, fun hc => ⟨n, h0, h1, h2, by omega, h4, fun _ => h5 hn, h6, m5 hc⟩⟩
theorem Ch_len {C : Nat → Int} {e : Nat} : ∀ {L : List S76} {s : Nat}, Ch C e s L → s + L.length ≤ e
 | [], s, h => Nat.le_of_eq h
 | _ :: xs, s, ⟨n, _, _, h2, _, _, _, _, h⟩ => by have := Ch_len h; rw [List.length_cons]; omega
theorem fk_snoc {p : Int} {A : List S76} {x : S76} {kx : Int} : fk p kx 0 (A ++ [x]) = if x.f0 ≤ p ∧ p < x.f1 then (A.length : Int) else fk p kx 0 A := by
 rw [fk_append, Nat.zero_add]
 rfl
theorem par_l0 {M : List (List Int)} (hM : M.length ≤ 1048577) {line : Nat} {c : Int} {around : Bool} : ∀ (d i : Nat) (L : List S76), i + d = M.length → Ch (vC M) i 0 L →
  ∃ L', Ch (vC M) M.length 0 L' ∧ ∀ r, Ev (fun k => object_paragraphs.l0 k t (line : Int) c around L' (fk (line : Int) 0 0 L') M (M.length : Int) (M.length : Int)) r → Ev (fun k => object_paragraphs.l0 k t (line : Int) c around L (fk (line : Int) 0 0 L) M (M.length : Int) (i : Int)) r := by
 intro d
 induction d with
 | zero =>
  intro i L hi hL
  obtain rfl : i = M.length := by omega
  exact ⟨L, hL, fun _ h => h⟩
 | succ d ih =>
  intro i L hi hL
  have hll := Ch_len hL
  have hw : wrap64 ((i : Int) + 1) = ((i + 1 : Nat) : Int) := by rw [wrap64_id (by omega) (by omega)]; omega
  -- a new stretch
  have fresh : (∀ A x, L = A ++ [x] → ∃ m : Nat, x.f0 = (m : Int) ∧ vC M i ≠ vC M m) → ∃ L', Ch (vC M) M.length 0 L' ∧ ∀ r, Ev (fun k => object_paragraphs.l0 k t (line : Int) c around L' (fk (line : Int) 0 0 L') M (M.length : Int) (M.length : Int)) r → Ev (fun k => object_paragraphs.j1 k t (line : Int) c around L (fk (line : Int) 0 0 L) (i : Int) (vC M i == 0) M (M.length : Int) (i : Int) true) r := by
   intro hne
   have hch : Ch (vC M) (i + 1) 0 (L ++ [⟨(i : Int), ((i + 1 : Nat) : Int), vC M i == 0⟩]) := by
    rcases List.eq_nil_or_concat L with rfl | ⟨A, x, rfl⟩
    ·have h0 : 0 = i := hL
     subst h0
     exact ⟨1, rfl, rfl, by omega, by omega, fun j a b => by rw [show j = 0 from by omega], fun h => by omega, rfl, rfl⟩
    ·rw [List.concat_eq_append] at hL hne ⊢
     obtain ⟨m, m1, _, _, m4, _⟩ := Ch_grow hL
     obtain ⟨m', m1', hm⟩ := hne A x rfl
     have := m4 (by rw [show m = m' from by omega]; exact hm)
     simpa using this
   obtain ⟨L', h1, h2⟩ := ih (i + 1) _ (by omega) hch
   refine ⟨L', h1, fun r hr => ?_⟩
   have h3 := h2 r hr
   have hwl : ∀ z : S76, wrap64 (((L ++ [z]).length : Int) - 1) = (L.length : Int) := fun z => by rw [List.length_append, List.length_singleton, wrap64_id (by omega) (by omega)]; omega
   have hlz : ∀ z : S76, ((L ++ [z]).length : Int) = (L.length : Int) + 1 := fun z => by rw [List.length_append, List.length_singleton]; omega
   refine Ev.step (fun _ => object_paragraphs.j1.eq_2 ..) (Ev.pos rfl (Ev.pos (by omega) (Ev.cbind rfl ?_)))
   rw [hwl, hlz]
   refine Ev.pos (by omega) (Ev.pos (by omega) (Ev.cbind rfl ?_))
   rw [Int.toNat_natCast, set_last, hw, rd_mid]
   rw [fk_snoc] at h3
   by_cases hi2 : (i : Int) = (line : Int)
   ·refine Ev.pos hi2 ?_
    rw [if_pos (show (i : Int) ≤ (line : Int) ∧ (line : Int) < ((i + 1 : Nat) : Int) from ⟨by omega, by omega⟩)] at h3
    exact h3
   ·refine Ev.neg hi2 ?_
    rw [if_neg (show ¬ ((i : Int) ≤ (line : Int) ∧ (line : Int) < ((i + 1 : Nat) : Int)) from by omega)] at h3
    exact h3
  have next : ∃ L', Ch (vC M) M.length 0 L' ∧ ∀ r, Ev (fun k => object_paragraphs.l0 k t (line : Int) c around L' (fk (line : Int) 0 0 L') M (M.length : Int) (M.length : Int)) r → Ev (fun k => if (L.length : Int) = 0 then (object_paragraphs.j1 k t (line : Int) c around L (fk (line : Int) 0 0 L) (i : Int) (vC M i == 0) M (M.length : Int) (i : Int) true) else (if 0 ≤ (wrap64 ((L.length : Int) - 1)) then (if (wrap64 ((L.length : Int) - 1)) < (L.length : Int) then (object_paragraphs.j1 k t (line : Int) c around L (fk (line : Int) 0 0 L) (i : Int) (vC M i == 0) M (M.length : Int) (i : Int) (((rd_T76 L (wrap64 ((L.length : Int) - 1))).f2) != (vC M i == 0))) else (none)) else (none))) r := by
   rcases List.eq_nil_or_concat L with rfl | ⟨A, x, rfl⟩
   ·obtain ⟨L', h1, h2⟩ := fresh (fun A x h => by simp at h)
    exact ⟨L', h1, fun r hr => Ev.pos rfl (h2 r hr)⟩
   ·rw [List.concat_eq_append] at hL hll fresh ⊢
    have hA : A.length + 1 ≤ i := by rw [List.length_append, List.length_singleton] at hll; omega
    have hwl : wrap64 (((A ++ [x]).length : Int) - 1) = (A.length : Int) := by rw [List.length_append, List.length_singleton, wrap64_id (by omega) (by omega)]; omega
    have hlz : ((A ++ [x]).length : Int) = (A.length : Int) + 1 := by rw [List.length_append, List.length_singleton]; omega
    obtain ⟨m, m1, m2, m3, m4, m5⟩ := Ch_grow hL
    by_cases hv : vC M i = vC M m
    ·have hch := m5 hv
     obtain ⟨L', h1, h2⟩ := ih (i + 1) _ (by omega) hch
     refine ⟨L', h1, fun r hr => ?_⟩
     have h3 := h2 r hr
     rw [hwl, hlz, rd_mid, m3, hv, show ((vC M m == 0) != (vC M m == 0)) = false from by simp]
     refine Ev.neg (by omega) (Ev.pos (by omega) (Ev.pos (by omega) ?_))
     refine Ev.step (fun _ => object_paragraphs.j1.eq_2 ..) (Ev.neg Bool.false_ne_true ?_)
     rw [hwl, hlz]
     refine Ev.pos (by omega) (Ev.pos (by omega) (Ev.cbind rfl ?_))
     rw [Int.toNat_natCast, set_last, hw, rd_mid]
     rw [fk_snoc] at h3
     have hx1 : x.f1 = (i : Int) := by
      obtain ⟨m', _, _, _, ⟨n, _, q1, _, _, _, _, _, q7⟩, _⟩ := Ch_split hL
      have q7 : n = i := q7
      omega
     have hf0 : x.f0 ≤ (line : Int) ∧ (line : Int) < ((i + 1 : Nat) : Int) → (i : Int) ≠ (line : Int) → (x.f0 ≤ (line : Int) ∧ (line : Int) < x.f1) := fun a b => ⟨a.1, by omega⟩
     by_cases hi2 : (i : Int) = (line : Int)
     ·refine Ev.pos hi2 ?_
      rw [if_pos (show x.f0 ≤ (line : Int) ∧ (line : Int) < ((i + 1 : Nat) : Int) from ⟨by omega, by omega⟩)] at h3
      exact h3
     ·refine Ev.neg hi2 ?_
      rw [fk_snoc]
      by_cases hc : x.f0 ≤ (line : Int) ∧ (line : Int) < ((i + 1 : Nat) : Int)
      ·rw [if_pos hc] at h3
       rw [if_pos (hf0 hc hi2)]
       exact h3
      ·rw [if_neg hc] at h3
       rw [if_neg (fun h => hc ⟨h.1, by omega⟩)]
       exact h3
    ·obtain ⟨L', h1, h2⟩ := fresh (fun A' x' h => by
      have h8 := List.append_inj' h rfl
      have h9 : x = x' := by simpa using h8.2
      subst h9
      exact ⟨m, m1, hv⟩)
     refine ⟨L', h1, fun r hr => ?_⟩
     have hvv : ((vC M m == 0) != (vC M i == 0)) = true := by
      unfold vC at hv ⊢
      revert hv
      split <;> split <;> simp
     have h3 := h2 r hr
     rw [hwl, hlz, rd_mid, m3, hvv]
     exact Ev.neg (by omega) (Ev.pos (by omega) (Ev.pos (by omega) h3))
  obtain ⟨L', h1, h2⟩ := next
  refine ⟨L', h1, fun r hr => Ev.step (fun _ => object_paragraphs.l0.eq_2 ..) (Ev.pos (by omega) (Ev.pos (by omega) (Ev.pos (by omega) ?_)))⟩
  rw [vC_void]
  exact h2 r hr
end
end Go.Proofs.YtcochbkdgjgaeaaDoor.OB2
end
section
namespace Go.Proofs.YtcochbkdgjgaeaaDoor.OVB
open Go.RowKit Go.Proofs.YtcochbkdgjgaeaaDoorW.PrintWords Go.Proofs.YtcochbkdgjgaeaaDoorW.PrintMore Go.Proofs.YtcochbkdgjgaeaaDoor.X Go.Proofs.YtcochbkdgjgaeaaDoor.XL Go.Proofs.YtcochbkdgjgaeaaDoor.XO Go.Proofs.YtcochbkdgjgaeaaDoor.LN
set_option linter.unusedVariables false
/-- The pairs of brackets, in the order of their closing ones. -/
def prs (op cl : Int) : List Int → Nat → List Nat → List (Nat × Nat)
 | [], _, _ => []
 | c :: l, p, st =>
  if c = op then prs op cl l (p + 1) (p :: st)
  else if c = cl then
   match st with
   | [] => prs op cl l (p + 1) []
   | o :: st => (o, p) :: prs op cl l (p + 1) st
  else prs op cl l (p + 1) st
/-- Of two pairs: the first one closes first, and they nest or lie apart. -/
def RP (x y : Nat × Nat) : Prop := x.2 < y.2 ∧ (y.1 < x.1 ∨ x.2 < y.1)
def inP (a : Nat) (x : Nat × Nat) : Bool := decide (x.1 ≤ a) && decide (a ≤ x.2)
theorem inP_iff (a : Nat) (x : Nat × Nat) : inP a x = true ↔ x.1 ≤ a ∧ a ≤ x.2 := by unfold inP; simp
theorem prs_spec {op cl : Int} (t : List Int) : ∀ (l : List Int) (p : Nat) (st : List Nat), t.drop p = l → st.Pairwise (· > ·) → (∀ s ∈ st, s < p ∧ t.getD s 0 = op) →
  (∀ x ∈ prs op cl l p st, p ≤ x.2 ∧ x.2 < t.length ∧ x.1 < x.2 ∧ (x.1 ∈ st ∨ p ≤ x.1) ∧ t.getD x.1 0 = op ∧ t.getD x.2 0 = cl) ∧ (prs op cl l p st).Pairwise RP := by
 intro l
 induction l with
 | nil => intro p st _ _ _; exact ⟨fun x hx => (by cases hx), List.Pairwise.nil⟩
 | cons c l ih =>
  intro p st hd hs hst
  have hp : p < t.length := by
   have h := congrArg List.length hd
   rw [List.length_drop, List.length_cons] at h
   omega
  have hc : t.getD p 0 = c := by
   rw [List.drop_eq_getElem_cons hp] at hd
   rw [List.getD_eq_getElem?_getD, List.getElem?_eq_getElem hp]
   exact (List.cons.inj hd).1
  have hd2 : t.drop (p + 1) = l := by
   rw [List.drop_eq_getElem_cons hp] at hd
   exact (List.cons.inj hd).2
  have hst2 : ∀ s ∈ st, s < p + 1 ∧ t.getD s 0 = op := fun s h => ⟨by have := (hst s h).1; omega, (hst s h).2⟩
  unfold prs
  by_cases h1 : c = op
  ·rw [if_pos h1]
   obtain ⟨i1, i2⟩ := ih (p + 1) (p :: st) hd2 (List.pairwise_cons.2 ⟨fun s h => (hst s h).1, hs⟩) (by
    intro s h
    rcases List.mem_cons.1 h with rfl | h
    ·exact ⟨by omega, by rw [hc, h1]⟩
    ·exact hst2 s h)
   refine ⟨fun x hx => ?_, i2⟩
   obtain ⟨a1, a2, a3, a4, a5, a6⟩ := i1 x hx
   refine ⟨by omega, a2, a3, ?_, a5, a6⟩
   rcases a4 with h | h
   ·rcases List.mem_cons.1 h with h | h
    ·exact .inr (by omega)
    ·exact .inl h
   ·exact .inr (by omega)
  ·rw [if_neg h1]
   by_cases h2 : c = cl
   ·rw [if_pos h2]
    cases st with
    | nil =>
     obtain ⟨i1, i2⟩ := ih (p + 1) [] hd2 List.Pairwise.nil (fun s h => by cases h)
     refine ⟨fun x hx => ?_, i2⟩
     obtain ⟨a1, a2, a3, a4, a5, a6⟩ := i1 x hx
     refine ⟨by omega, a2, a3, ?_, a5, a6⟩
     rcases a4 with h | h
     ·exact .inl h
     ·exact .inr (by omega)
    | cons o st =>
     have hs2 := List.pairwise_cons.1 hs
     obtain ⟨i1, i2⟩ := ih (p + 1) st hd2 hs2.2 (fun s h => hst2 s (List.mem_cons_of_mem _ h))
     have ho := hst o List.mem_cons_self
     refine ⟨fun x hx => ?_, List.pairwise_cons.2 ⟨fun x hx => ?_, i2⟩⟩
     ·rcases List.mem_cons.1 hx with rfl | hx
      ·exact ⟨Nat.le_refl _, hp, ho.1, .inl List.mem_cons_self, ho.2, by rw [hc, h2]⟩
      ·obtain ⟨a1, a2, a3, a4, a5, a6⟩ := i1 x hx
       refine ⟨by omega, a2, a3, ?_, a5, a6⟩
       rcases a4 with h | h
       ·exact .inl (List.mem_cons_of_mem _ h)
       ·exact .inr (by omega)
     ·obtain ⟨a1, a2, a3, a4, a5, a6⟩ := i1 x hx
      refine ⟨by show p < x.2; omega, ?_⟩
      rcases a4 with h | h
      ·exact .inl (hs2.1 x.1 h)
      ·exact .inr (by show p < x.1; omega)
   ·rw [if_neg h2]
    obtain ⟨i1, i2⟩ := ih (p + 1) st hd2 hs hst2
    refine ⟨fun x hx => ?_, i2⟩
    obtain ⟨a1, a2, a3, a4, a5, a6⟩ := i1 x hx
    refine ⟨by omega, a2, a3, ?_, a5, a6⟩
    rcases a4 with h | h
    ·exact .inl h
    ·exact .inr (by omega)
/-- The n-th pair about a place, counted from 0. -/
def nthP (op cl : Int) (t : List Int) (a n : Nat) : Option (Nat × Nat) := ((prs op cl t 0 []).filter (inP a))[n]?
theorem prs_all {op cl : Int} (t : List Int) : (∀ x ∈ prs op cl t 0 [], x.2 < t.length ∧ x.1 < x.2 ∧ t.getD x.1 0 = op ∧ t.getD x.2 0 = cl) ∧ (prs op cl t 0 []).Pairwise RP := by
 have h := prs_spec (op := op) (cl := cl) t t 0 [] rfl List.Pairwise.nil (fun s h => by cases h)
 exact ⟨fun x hx => by obtain ⟨_, a2, a3, _, a5, a6⟩ := h.1 x hx; exact ⟨a2, a3, a5, a6⟩, h.2⟩
theorem inP_false {a : Nat} {x : Nat × Nat} (h : ¬ (x.1 ≤ a ∧ a ≤ x.2)) : inP a x = false := by
 cases e : inP a x with
 | false => rfl
 | true => exact absurd ((inP_iff _ _).1 e) h
/-- The places that stand open, as the program holds them. -/
def stI (st : List Nat) : List Int := st.reverse.map (fun n : Nat => (n : Int))
theorem stI_cons (o : Nat) (st : List Nat) : stI (o :: st) = stI st ++ [(o : Int)] := by simp [stI]
theorem stI_len (st : List Nat) : (stI st).length = st.length := by simp [stI]
def brkV (around : Bool) : Option (Nat × Nat) → Int × Int × Bool
 | none => (0, 0, false)
 | some x => if around = true then ((x.1 : Int), (x.2 : Int) + 1, true) else ((x.1 : Int) + 1, (x.2 : Int), true)
theorem at_drop {t : List Int} {i : Nat} {c : Int} {l : List Int} (h : t.drop i = c :: l) : i < t.length ∧ rd t (i : Int) = c ∧ t.drop (i + 1) = l := by
 have hi : i < t.length := by
  have h1 := congrArg List.length h
  rw [List.length_drop, List.length_cons] at h1
  omega
 rw [List.drop_eq_getElem_cons hi] at h
 refine ⟨hi, ?_, (List.cons.inj h).2⟩
 unfold rd
 rw [Int.toNat_natCast, List.getD_eq_getElem?_getD, List.getElem?_eq_getElem hi]
 exact (List.cons.inj h).1
theorem brk_l0 {t : List Int} {op cl : Int} {p : Nat} {around : Bool} (hl : t.length ≤ 1048576) (hne : op ≠ cl) : ∀ (l : List Int) (i : Nat) (st : List Nat) (c : Nat), t.drop i = l → st.length ≤ i → (∀ s ∈ st, s < i) → c + 1 ≤ 9999 →
  Ev (fun k => object_bracketed.l0 k (p : Int) ((c + 1 : Nat) : Int) op around cl (stI st) t (t.length : Int) (i : Int)) (brkV around (((prs op cl l i st).filter (inP p))[c]?)) := by
 intro l
 induction l with
 | nil =>
  intro i st c hd _ _ _
  have hi : t.length ≤ i := List.drop_eq_nil_iff.1 hd
  exact Ev.step (fun _ => object_bracketed.l0.eq_2 ..) (Ev.neg (by omega) (Ev.now _))
 | cons b l ih =>
  intro i st c hd hsl hst hc
  obtain ⟨hi, hb, hd2⟩ := at_drop hd
  have hst2 : ∀ s ∈ st, s < i + 1 := fun s h => by have := hst s h; omega
  have hlen := stI_len st
  have b1 : (i : Int) < (t.length : Int) := by omega
  have b2 : (0 : Int) ≤ (i : Int) := by omega
  have b3 : (stI st).length < 17592186044416 := by omega
  have hw : wrap64 ((i : Int) + 1) = ((i + 1 : Nat) : Int) := by rw [wrap64_id (by omega) (by omega)]; omega
  refine Ev.step (fun _ => object_bracketed.l0.eq_2 ..) (Ev.pos b1 (Ev.pos b2 (Ev.pos b1 ?_)))
  rw [hb]
  unfold prs
  by_cases h1 : b = op
  ·rw [if_pos h1]
   refine Ev.pos h1 (Ev.pos b3 (Ev.step (fun _ => object_bracketed.j1.eq_2 ..) (Ev.neg (fun h2 => hne (h1.symm.trans h2)) (Ev.step (fun _ => object_bracketed.j2.eq_2 ..) (Ev.pos rfl ?_)))))
   rw [hw, ← stI_cons]
   refine ih (i + 1) (i :: st) c hd2 (by rw [List.length_cons]; clear hw; omega) (fun s h => ?_) hc
   rcases List.mem_cons.1 h with rfl | h
   ·exact Nat.lt_succ_self _
   ·exact hst2 s h
  ·rw [if_neg h1]
   refine Ev.neg h1 ?_
   by_cases h2 : b = cl
   ·rw [if_pos h2]
    refine Ev.step (fun _ => object_bracketed.j1.eq_2 ..) (Ev.pos h2 ?_)
    cases st with
    | nil =>
     refine Ev.step (fun _ => object_bracketed.j2.eq_2 ..) (Ev.pos rfl ?_)
     rw [hw]
     exact ih (i + 1) [] c hd2 (Nat.zero_le _) (fun s h => by cases h) hc
    | cons o st =>
     have ho := hst o List.mem_cons_self
     have hll : (stI (o :: st)).length = st.length + 1 := hlen
     have hsl2 : st.length + 1 ≤ i := hsl
     have n0 : ¬ ((((stI (o :: st)).length : Int) == 0) = true) := by rw [hll]; simp; omega
     have hwl : wrap64 (((stI (o :: st)).length : Int) - 1) = (st.length : Int) := by rw [hll, wrap64_id (by clear hw; omega) (by clear hw; omega)]; clear hw; omega
     have q1 : (0 : Int) ≤ (st.length : Int) := by clear hw hwl; omega
     have q2 : (st.length : Int) < ((stI (o :: st)).length : Int) := by clear hw hwl; omega
     have q3 : (st.length : Int) ≤ ((stI (o :: st)).length : Int) := by clear hw hwl; omega
     have htk : (stI (o :: st)).take ((st.length : Int)).toNat = stI st := by rw [Int.toNat_natCast, stI_cons, ← stI_len st, List.take_left]
     have hrd : rd (stI (o :: st)) (st.length : Int) = (o : Int) := by
      unfold rd
      rw [Int.toNat_natCast, stI_cons, ← stI_len st]
      exact getD_mid _ _ _ _
     refine Ev.step (fun _ => object_bracketed.j2.eq_2 ..) (Ev.neg n0 ?_)
     rw [hwl]
     refine Ev.pos q1 (Ev.pos q2 (Ev.pos q3 (Ev.cbind rfl ?_)))
     rw [htk, hrd]
     have goon : ∀ c' : Nat, c' + 1 ≤ 9999 → Ev (fun k => object_bracketed.l0 k (p : Int) ((c' + 1 : Nat) : Int) op around cl (stI st) t (t.length : Int) (wrap64 ((i : Int) + 1))) (brkV around (((prs op cl l (i + 1) st).filter (inP p))[c']?)) := by
      intro c' hc'
      rw [hw]
      exact ih (i + 1) st c' hd2 (by clear hw hwl; omega) (fun s h => hst2 s (List.mem_cons_of_mem _ h)) hc'
     have no : inP p (o, i) = false → brkV around ((((o, i) :: prs op cl l (i + 1) st).filter (inP p))[c]?) = brkV around (((prs op cl l (i + 1) st).filter (inP p))[c]?) := by
      intro h
      rw [List.filter_cons_of_neg (by rw [h]; exact Bool.false_ne_true)]
     by_cases h3 : (o : Int) > (p : Int)
     ·refine Ev.pos h3 (Ev.step (fun _ => object_bracketed.j3.eq_2 ..) (Ev.pos rfl ?_))
      rw [no (inP_false (by clear hw hwl; simp only; omega))]
      exact goon c hc
     ·refine Ev.neg h3 ?_
      by_cases h4 : (i : Int) < (p : Int)
      ·rw [decide_eq_true h4]
       refine Ev.step (fun _ => object_bracketed.j3.eq_2 ..) (Ev.pos rfl ?_)
       rw [no (inP_false (by clear hw hwl; simp only; omega))]
       exact goon c hc
      ·rw [decide_eq_false h4]
       have hin : inP p (o, i) = true := (inP_iff _ _).2 (by clear hw hwl; simp only; omega)
       have hwc : wrap64 (((c + 1 : Nat) : Int) - 1) = (c : Int) := by clear hw hwl; rw [wrap64_id (by omega) (by omega)]; omega
       refine Ev.step (fun _ => object_bracketed.j3.eq_2 ..) (Ev.neg Bool.false_ne_true ?_)
       rw [List.filter_cons_of_pos hin, hwc]
       cases c with
       | zero =>
        refine Ev.neg (by clear hw hwl hwc; omega) ?_
        show Ev _ (brkV around (some (o, i)))
        unfold brkV
        have hw1 : wrap64 ((o : Int) + 1) = (o : Int) + 1 := by clear hw hwl hwc; exact wrap64_id (by omega) (by omega)
        have hw2 : wrap64 ((i : Int) + 1) = (i : Int) + 1 := by clear hw hwl hwc hw1; exact wrap64_id (by omega) (by omega)
        rw [hw1, hw2]
        by_cases ha : around = true
        ·simp only [if_pos ha]
         exact Ev.now _
        ·simp only [if_neg ha]
         exact Ev.now _
       | succ c =>
        refine Ev.pos (by clear hw hwl hwc; omega) ?_
        exact goon c (by clear hw hwl hwc; omega)
   ·rw [if_neg h2]
    refine Ev.step (fun _ => object_bracketed.j1.eq_2 ..) (Ev.neg h2 (Ev.step (fun _ => object_bracketed.j2.eq_2 ..) (Ev.pos rfl ?_)))
    rw [hw]
    exact ih (i + 1) st c hd2 (by clear hw; omega) hst2 hc
theorem bracketed_ev {t : List Int} (hl : t.length ≤ 1048576) {op cl : Int} (hne : op ≠ cl) {d : Bool} (hP : class_Partner.f op = some (cl, d, true)) {p c : Nat} (h1 : c + 1 ≤ 9999) (around : Bool) :
  Ev (fun k => object_bracketed.f k t (p : Int) ((c + 1 : Nat) : Int) op around) (brkV around (nthP op cl t p c)) :=
 Ev.cbind hP (brk_l0 hl hne t 0 [] c rfl (Nat.zero_le _) (fun s h => by cases h) h1)
end Go.Proofs.YtcochbkdgjgaeaaDoor.OVB
end
section
namespace Go.Proofs.YtcochbkdgjgaeaaDoor.OVX
open Go.RowKit Go.Proofs.YtcochbkdgjgaeaaDoorW.PrintWords Go.Proofs.YtcochbkdgjgaeaaDoorW.PrintMore Go.Proofs.YtcochbkdgjgaeaaDoor.X Go.Proofs.YtcochbkdgjgaeaaDoor.XL Go.Proofs.YtcochbkdgjgaeaaDoor.XO Go.Proofs.YtcochbkdgjgaeaaDoor.LN Go.Proofs.YtcochbkdgjgaeaaDoor.OVB
set_option linter.unusedVariables false
def selW (kd : Int) (r : Int × Int × Bool) : Int × Int × Int × Int := if r.2.2 = true then (r.1, r.2.1, kd, 0) else (0, 0, 0, 130)
/-- A bracket's key. -/
structure BKey (x op cl : Int) : Prop where
 no : x ≠ 119 ∧ x ≠ 87 ∧ x ≠ 112 ∧ x ≠ 34 ∧ x ≠ 39 ∧ x ≠ 96
 key : ∃ j, strings_IndexByte.f (⟨#[40, 41, 98, 91, 93, 123, 125, 66]⟩ : ByteArray) x = some j ∧ j ≥ 0
 opens : object_opener.f x = some op
 closes : ∃ d, class_Partner.f op = some (cl, d, true)
 ne : op ≠ cl
theorem bkey {x op cl : Int} (h1 : (x ≠ 119 ∧ x ≠ 87 ∧ x ≠ 112 ∧ x ≠ 34 ∧ x ≠ 39 ∧ x ≠ 96) ∧ op ≠ cl) {j : Int} (h2 : strings_IndexByte.f (⟨#[40, 41, 98, 91, 93, 123, 125, 66]⟩ : ByteArray) x = some j) (h3 : j ≥ 0) (h4 : object_opener.f x = some op) {d : Bool} (h5 : class_Partner.f op = some (cl, d, true)) : BKey x op cl :=
 ⟨h1.1, ⟨j, h2, h3⟩, h4, ⟨d, h5⟩, h1.2⟩
theorem key_40 : BKey 40 40 41 := bkey (by decide) (j := 0) (by decide +kernel) (by decide) (by decide +kernel) (d := true) (by decide +kernel)
theorem key_41 : BKey 41 40 41 := bkey (by decide) (j := 1) (by decide +kernel) (by decide) (by decide +kernel) (d := true) (by decide +kernel)
theorem key_98 : BKey 98 40 41 := bkey (by decide) (j := 2) (by decide +kernel) (by decide) (by decide +kernel) (d := true) (by decide +kernel)
theorem key_91 : BKey 91 91 93 := bkey (by decide) (j := 3) (by decide +kernel) (by decide) (by decide +kernel) (d := true) (by decide +kernel)
theorem key_93 : BKey 93 91 93 := bkey (by decide) (j := 4) (by decide +kernel) (by decide) (by decide +kernel) (d := true) (by decide +kernel)
theorem key_123 : BKey 123 123 125 := bkey (by decide) (j := 5) (by decide +kernel) (by decide) (by decide +kernel) (d := true) (by decide +kernel)
theorem key_125 : BKey 125 123 125 := bkey (by decide) (j := 6) (by decide +kernel) (by decide) (by decide +kernel) (d := true) (by decide +kernel)
theorem key_66 : BKey 66 123 125 := bkey (by decide) (j := 7) (by decide +kernel) (by decide) (by decide +kernel) (d := true) (by decide +kernel)
theorem Select_b {t : List Int} (hu : u8s t = true) (hl : t.length ≤ 1048576) {p c : Nat} (hp : p ≤ t.length) (hc : c + 1 ≤ 9999) {key : ByteArray} {x op cl : Int} (hk : BKey x op cl) (around : Bool) (hs : (key.size : Int) = 2) (h0 : bt key 0 = if around = true then 97 else 105) (h1 : bt key 1 = x) :
  Ev (fun k => object_Select.f k t (p : Int) ((c + 1 : Nat) : Int) key) (selW 1 (brkV around (nthP op cl t p c))) := by
 obtain ⟨n1, n2, n3, n4, n5, n6⟩ := hk.no
 obtain ⟨j, hj, hj0⟩ := hk.key
 obtain ⟨d, hd⟩ := hk.closes
 have hb := bracketed_ev hl hk.ne hd (p := p) hc around
 generalize brkV around (nthP op cl t p c) = r at hb
 have m1 : (x == 87) = false := beq_eq_false_iff_ne.2 n2
 have m2 : (x == 96) = false := beq_eq_false_iff_ne.2 n6
 have ha : (bt key 0 == 97) = around := by rw [h0]; cases around <;> rfl
 have fini : Ev (fun k => object_Select.j0 k t (p : Int) ((c + 1 : Nat) : Int) key (cnt 10 (t.take p)) false) (selW 1 r) := by
  refine Ev.step (fun _ => object_Select.j0.eq_2 ..) (Ev.neg Bool.false_ne_true (Ev.pos (by omega) (Ev.pos (by omega) ?_)))
  rw [ha, h1, m1]
  refine Ev.neg n1 (Ev.step (fun _ => object_Select.j1.eq_2 ..) (Ev.neg Bool.false_ne_true (Ev.neg n3 (Ev.neg n4 (Ev.neg n5 ?_)))))
  rw [m2]
  refine Ev.step (fun _ => object_Select.j2.eq_2 ..) (Ev.neg Bool.false_ne_true (Ev.cbind hj (Ev.pos hj0 (Ev.cbind hk.opens (Ev.bind hb ?_)))))
  by_cases hr : r.2.2 = true
  ·rw [show selW 1 r = _ from if_pos hr]; exact Ev.pos hr (Ev.now _)
  ·rw [show selW 1 r = _ from if_neg hr]; exact Ev.neg hr (Ev.now _)
 refine Ev.cbind (Of_eq hu (p : Int)) ?_
 rw [if_pos ⟨by omega, by omega⟩, Int.toNat_natCast]
 refine Ev.pos rfl (Ev.neg (by omega) (Ev.neg (by omega) (Ev.pos hs (Ev.pos (by omega) ?_))))
 cases around with
 | true =>
  refine Ev.neg (by rw [h0]; decide) ?_
  rw [h0]
  exact fini
 | false => exact Ev.pos h0 fini
end Go.Proofs.YtcochbkdgjgaeaaDoor.OVX
end
section
namespace Go.Proofs.YtcochbkdgjgaeaaDoor.OVQ
open Go.RowKit Go.Proofs.YtcochbkdgjgaeaaDoorW.PrintWords Go.Proofs.YtcochbkdgjgaeaaDoorW.PrintMore Go.Proofs.YtcochbkdgjgaeaaDoor.X Go.Proofs.YtcochbkdgjgaeaaDoor.XL Go.Proofs.YtcochbkdgjgaeaaDoor.XO Go.Proofs.YtcochbkdgjgaeaaDoor.LN Go.Proofs.YtcochbkdgjgaeaaDoor.OB
set_option linter.unusedVariables false
/-- The places of a line's quotes: sl backslashes stand ahead. -/
def qlist (q : Int) : List Int → Nat → Nat → List Nat
 | [], _, _ => []
 | c :: l, i, sl => if c = q ∧ sl % 2 = 0 then i :: qlist q l (i + 1) (if c = 92 then sl + 1 else 0) else qlist q l (i + 1) (if c = 92 then sl + 1 else 0)
/-- The first pair that doesn't end ahead of p. -/
def fp (p : Nat) : List Nat → Option (Nat × Nat)
 | a :: b :: r => if b < p then fp p r else some (a, b)
 | [_] => none
 | [] => none
def bl (b : Int) : Bool := b == 32 || b == 9
def upB (t : List Int) : Nat → Nat → Nat
 | 0, i => i
 | d + 1, i => if bl (t.getD i 0) = true then upB t d (i + 1) else i
def downB (t : List Int) : Nat → Nat → Nat
 | 0, i => i
 | d + 1, i => if bl (t.getD (i - 1) 0) = true then downB t d (i - 1) else i
def quoV (t : List Int) (s e : Nat) (around : Bool) : Option (Nat × Nat) → Int × Int × Bool
 | none => (0, 0, false)
 | some x => if around = true then (if upB t (e - (x.2 + 1)) (x.2 + 1) = x.2 + 1 then ((downB t (x.1 - s) x.1 : Nat), ((x.2 + 1 : Nat) : Int), true) else ((x.1 : Int), ((upB t (e - (x.2 + 1)) (x.2 + 1) : Nat) : Int), true)) else (((x.1 + 1 : Nat) : Int), (x.2 : Int), true)
theorem cls_bl (b : Int) : (cls b false = 0) ↔ bl b = true := by
 unfold cls bl
 rw [Bool.or_eq_true, beq_iff_eq, beq_iff_eq]
 by_cases h : b = 10
 ·rw [if_pos h]; omega
 ·rw [if_neg h]
  by_cases h2 : b = 32 ∨ b = 9
  ·rw [if_pos h2]; exact ⟨fun _ => h2, fun _ => rfl⟩
  ·rw [if_neg h2]
   refine ⟨fun e => ?_, fun e => absurd e h2⟩
   split at e <;> cases e
theorem rd_at {t : List Int} {i : Nat} : rd t (i : Int) = t.getD i 0 := by unfold rd; rw [Int.toNat_natCast]
section
variable {t : List Int} (hl : t.length ≤ 1048576)
include hl
theorem l2_ev {s : Nat} {x22 : Int} : ∀ (d i : Nat), s + d = i → i ≤ t.length → Ev (fun k => object_quoted.l2 k t (s : Int) (i : Int) x22) (((downB t d i : Nat) : Int), x22, true) := by
 intro d
 induction d with
 | zero =>
  intro i hi hit
  exact Ev.step (fun _ => object_quoted.l2.eq_2 ..) (Ev.neg (by omega) (Ev.now _))
 | succ d ih =>
  intro i hi hit
  have b1 : (i : Int) > (s : Int) := by omega
  have b2 : (0 : Int) ≤ ((i - 1 : Nat) : Int) := by omega
  have b3 : ((i - 1 : Nat) : Int) < (t.length : Int) := by omega
  have hw : wrap64 ((i : Int) - 1) = ((i - 1 : Nat) : Int) := by rw [wrap64_id (by omega) (by omega)]; omega
  refine Ev.step (fun _ => object_quoted.l2.eq_2 ..) (Ev.pos b1 ?_)
  rw [hw]
  clear hw
  refine Ev.pos b2 (Ev.pos b3 ?_)
  rw [rd_at]
  refine Ev.bind (cls_ev _ _) ?_
  unfold downB
  by_cases h : bl (t.getD (i - 1) 0) = true
  ·rw [if_pos h]
   exact Ev.pos ((cls_bl _).2 h) (ih (i - 1) (by omega) (by omega))
  ·rw [if_neg h]
   exact Ev.neg (fun e => h ((cls_bl _).1 e)) (Ev.now _)
theorem l1_ev {s e a b : Nat} (hsa : s ≤ a) (hab : a < b) (hbe : b < e) (he : e ≤ t.length) : ∀ (d i : Nat), i + d = e → b < i → Ev (fun k => object_quoted.l1 k t (s : Int) (e : Int) (b : Int) (a : Int) (i : Int)) (if upB t d i = b + 1 then ((downB t (a - s) a : Nat), ((b + 1 : Nat) : Int), true) else ((a : Int), ((upB t d i : Nat) : Int), true)) := by
 have fini : ∀ i : Nat, b < i → Ev (fun k => object_quoted.j6 k t (s : Int) (b : Int) (a : Int) (i : Int)) (if i = b + 1 then ((downB t (a - s) a : Nat), ((b + 1 : Nat) : Int), true) else ((a : Int), (i : Int), true)) := by
  intro i hi
  have hw : wrap64 ((b : Int) + 1) = ((b + 1 : Nat) : Int) := by rw [wrap64_id (by omega) (by omega)]; omega
  refine Ev.step (fun _ => object_quoted.j6.eq_2 ..) ?_
  rw [hw]
  clear hw
  by_cases h : i = b + 1
  ·subst h
   rw [if_pos rfl]
   exact Ev.pos rfl (l2_ev hl (a - s) a (by omega) (by omega))
  ·rw [if_neg h]
   exact Ev.neg (by omega) (Ev.now _)
 intro d
 induction d with
 | zero =>
  intro i hi hbi
  exact Ev.step (fun _ => object_quoted.l1.eq_2 ..) (Ev.neg (by omega) (fini i hbi))
 | succ d ih =>
  intro i hi hbi
  have b1 : (i : Int) < (e : Int) := by omega
  have b2 : (0 : Int) ≤ (i : Int) := by omega
  have b3 : (i : Int) < (t.length : Int) := by omega
  have hw : wrap64 ((i : Int) + 1) = ((i + 1 : Nat) : Int) := by rw [wrap64_id (by omega) (by omega)]; omega
  refine Ev.step (fun _ => object_quoted.l1.eq_2 ..) (Ev.pos b1 (Ev.pos b2 (Ev.pos b3 ?_)))
  rw [rd_at, hw]
  clear hw
  refine Ev.bind (cls_ev _ _) ?_
  unfold upB
  by_cases h : bl (t.getD i 0) = true
  ·rw [if_pos h]
   exact Ev.pos ((cls_bl _).2 h) (ih (i + 1) (by omega) (by omega))
  ·rw [if_neg h]
   exact Ev.neg (fun e => h ((cls_bl _).1 e)) (fini i hbi)
theorem fini_ev {s e a b : Nat} (hsa : s ≤ a) (hab : a < b) (hbe : b < e) (he : e ≤ t.length) (around : Bool) : Ev (fun k => object_quoted.j4 k t around (s : Int) (e : Int) (a : Int) (b : Int) false) (quoV t s e around (some (a, b))) := by
 have hw : wrap64 ((b : Int) + 1) = ((b + 1 : Nat) : Int) := by rw [wrap64_id (by omega) (by omega)]; omega
 have hw2 : wrap64 ((a : Int) + 1) = ((a + 1 : Nat) : Int) := by clear hw; rw [wrap64_id (by omega) (by omega)]; omega
 refine Ev.step (fun _ => object_quoted.j4.eq_2 ..) (Ev.neg Bool.false_ne_true ?_)
 rw [hw, hw2]
 clear hw hw2
 cases around with
 | true => exact Ev.pos rfl (l1_ev hl hsa hab hbe he (e - (b + 1)) (b + 1) (by omega) (by omega))
 | false => exact Ev.neg Bool.false_ne_true (Ev.now _)
theorem quo_l0 {q : Int} {p s e : Nat} {around : Bool} (he : e ≤ t.length) : ∀ (l : List Int) (i sl : Nat) (s2 : Int), (t.take e).drop i = l → i ≤ e → s ≤ i → sl ≤ i → s2 < (p : Int) → -1 ≤ s2 → s2 < (i : Int) →
  (∀ f : Int, (f < 0 ∨ f ≤ s2) → Ev (fun k => object_quoted.l0 k t (p : Int) q around (s : Int) (e : Int) f s2 (sl : Int) (i : Int)) (quoV t s e around (fp p (qlist q l i sl)))) ∧
  (∀ a : Nat, s ≤ a → a < i → s2 < (a : Int) → Ev (fun k => object_quoted.l0 k t (p : Int) q around (s : Int) (e : Int) (a : Int) s2 (sl : Int) (i : Int)) (quoV t s e around (fp p (a :: qlist q l i sl)))) := by
 have hlen : (t.take e).length = e := by rw [List.length_take]; omega
 -- out of the loop
 have out : ∀ (f s2 : Int) (x y : Int), (f < 0 ∨ s2 < f ∨ s2 < (p : Int)) → Ev (fun k => object_quoted.j1 k t (p : Int) q around (s : Int) (e : Int) f s2 x y false) (0, 0, false) := by
  intro f s2 x y h
  refine Ev.step (fun _ => object_quoted.j1.eq_2 ..) (Ev.neg Bool.false_ne_true ?_)
  have dn : Ev (fun k => object_quoted.j4 k t around (s : Int) (e : Int) f s2 true) (0, 0, false) := Ev.step (fun _ => object_quoted.j4.eq_2 ..) (Ev.pos rfl (Ev.now _))
  by_cases h1 : f < 0
  ·exact Ev.pos h1 dn
  ·refine Ev.neg h1 ?_
   by_cases h2 : s2 < f
   ·exact Ev.pos h2 dn
   ·refine Ev.neg h2 ?_
    have h3 : s2 < (p : Int) := by omega
    rw [decide_eq_true h3]
    exact dn
 intro l
 induction l with
 | nil =>
  intro i sl s2 hd hie hsi hsl hsp hs1 hs2
  have hi : i = e := by
   have h := congrArg List.length hd
   rw [List.length_drop, hlen, List.length_nil] at h
   omega
  have n1 : ¬ ((i : Int) < (e : Int)) := by omega
  refine ⟨fun f hf => ?_, fun a ha1 ha2 ha3 => ?_⟩
  ·exact Ev.step (fun _ => object_quoted.l0.eq_2 ..) (Ev.neg n1 (out f s2 _ _ (by omega)))
  ·exact Ev.step (fun _ => object_quoted.l0.eq_2 ..) (Ev.neg n1 (out a s2 _ _ (by omega)))
 | cons c l ih =>
  intro i sl s2 hd hie hsi hsl hsp hs1 hs2
  have hi : i < e := by
   have h := congrArg List.length hd
   rw [List.length_drop, hlen, List.length_cons] at h
   omega
  have hd' := hd
  rw [List.drop_eq_getElem_cons (by rw [hlen]; exact hi)] at hd'
  have hd2 : (t.take e).drop (i + 1) = l := (List.cons.inj hd').2
  have hc : rd t (i : Int) = c := by
   have h := (List.cons.inj hd').1
   rw [List.getElem_take] at h
   rw [rd_at, List.getD_eq_getElem?_getD, List.getElem?_eq_getElem (by omega)]
   exact h
  have b1 : (i : Int) < (e : Int) := by omega
  have b2 : (0 : Int) ≤ (i : Int) := by omega
  have b3 : (i : Int) < (t.length : Int) := by omega
  have hw : wrap64 ((i : Int) + 1) = ((i + 1 : Nat) : Int) := by rw [wrap64_id (by omega) (by omega)]; omega
  have hw2 : wrap64 ((sl : Int) + 1) = ((sl + 1 : Nat) : Int) := by clear hw; rw [wrap64_id (by omega) (by omega)]; omega
  have hmod : (Int.tmod (sl : Int) 2 == 0) = decide (sl % 2 = 0) := by
   rw [show Int.tmod (sl : Int) 2 = ((sl % 2 : Nat) : Int) from rfl]
   by_cases h : sl % 2 = 0
   ·rw [h]; rfl
   ·rw [decide_eq_false h]; rw [beq_eq_false_iff_ne]; intro e; exact h (by clear hw hw2; omega)
  -- the next place
  have next : ∀ (f s' : Int) (V : Int × Int × Bool), Ev (fun k => object_quoted.l0 k t (p : Int) q around (s : Int) (e : Int) f s' ((if c = 92 then sl + 1 else 0 : Nat) : Int) ((i + 1 : Nat) : Int)) V →
    Ev (fun k => if 0 ≤ (i : Int) then (if (i : Int) < (t.length : Int) then (if (rd t (i : Int)) = 92 then (object_quoted.l0 k t (p : Int) q around (s : Int) (e : Int) f s' (wrap64 ((sl : Int) + 1)) (wrap64 ((i : Int) + 1))) else (object_quoted.l0 k t (p : Int) q around (s : Int) (e : Int) f s' 0 (wrap64 ((i : Int) + 1)))) else (none)) else (none)) V := by
   intro f s' V h
   refine Ev.pos b2 (Ev.pos b3 ?_)
   rw [hc, hw, hw2]
   by_cases h92 : c = 92
   ·rw [if_pos h92] at h
    exact Ev.pos h92 h
   ·rw [if_neg h92] at h
    exact Ev.neg h92 h
  have hsl2 : (if c = 92 then sl + 1 else 0) ≤ i + 1 := by clear hw hw2; split <;> omega
  have IH := fun (s' : Int) (x1 : s' < (p : Int)) (x2 : -1 ≤ s') (x3 : s' < ((i + 1 : Nat) : Int)) => ih (i + 1) (if c = 92 then sl + 1 else 0) s' hd2 (by clear hw hw2; omega) (by clear hw hw2; omega) hsl2 x1 x2 x3
  -- into the round
  have into : ∀ (f : Int) (V : Int × Int × Bool), Ev (fun k => object_quoted.j2 k t (p : Int) q around (s : Int) (e : Int) f s2 (sl : Int) (i : Int) (decide (c = q) && decide (sl % 2 = 0))) V → Ev (fun k => object_quoted.l0 k t (p : Int) q around (s : Int) (e : Int) f s2 (sl : Int) (i : Int)) V := by
   intro f V h
   refine Ev.step (fun _ => object_quoted.l0.eq_2 ..) (Ev.pos b1 ?_)
   rw [decide_eq_true hsp]
   refine Ev.step (fun _ => object_quoted.j1.eq_2 ..) (Ev.pos rfl (Ev.pos b2 (Ev.pos b3 ?_)))
   rw [hc, hmod]
   by_cases hq : c = q
   ·rw [decide_eq_true hq, Bool.true_and] at h
    exact Ev.pos hq h
   ·rw [decide_eq_false hq, Bool.false_and] at h
    exact Ev.neg hq h
  by_cases hQ : c = q ∧ sl % 2 = 0
  ·have eb : (decide (c = q) && decide (sl % 2 = 0)) = true := by rw [decide_eq_true hQ.1, decide_eq_true hQ.2]; rfl
   have eql : qlist q (c :: l) i sl = i :: qlist q l (i + 1) (if c = 92 then sl + 1 else 0) := if_pos hQ
   refine ⟨fun f hf => ?_, fun a ha1 ha2 ha3 => ?_⟩
   ·refine into f _ ?_
    rw [eb, eql]
    have nx := (IH s2 hsp hs1 (by clear hw hw2; omega)).2 i hsi (by clear hw hw2; omega) hs2
    have fin3 : Ev (fun k => object_quoted.j3 k t (p : Int) q around (s : Int) (e : Int) f s2 (sl : Int) (i : Int) false) (quoV t s e around (fp p (i :: qlist q l (i + 1) (if c = 92 then sl + 1 else 0)))) :=
     Ev.step (fun _ => object_quoted.j3.eq_2 ..) (Ev.neg Bool.false_ne_true (next _ _ _ nx))
    refine Ev.step (fun _ => object_quoted.j2.eq_2 ..) (Ev.pos rfl ?_)
    by_cases hf0 : f ≥ 0
    ·refine Ev.pos hf0 ?_
     rw [decide_eq_false (show ¬ s2 < f by clear hw hw2; omega)]
     exact fin3
    ·exact Ev.neg hf0 fin3
   ·refine into a _ ?_
    rw [eb, eql]
    refine Ev.step (fun _ => object_quoted.j2.eq_2 ..) (Ev.pos rfl (Ev.pos (show (a : Int) ≥ 0 by clear hw hw2; omega) ?_))
    rw [decide_eq_true ha3]
    refine Ev.step (fun _ => object_quoted.j3.eq_2 ..) (Ev.pos rfl (next _ _ _ ?_))
    unfold fp
    by_cases hip : i < p
    ·rw [if_pos hip]
     exact (IH (i : Int) (by clear hw hw2; omega) (by clear hw hw2; omega) (by clear hw hw2; omega)).1 a (by clear hw hw2; omega)
    ·rw [if_neg hip]
     have dn : Ev (fun k => object_quoted.j1 k t (p : Int) q around (s : Int) (e : Int) (a : Int) (i : Int) ((if c = 92 then sl + 1 else 0 : Nat) : Int) ((i + 1 : Nat) : Int) false) (quoV t s e around (some (a, i))) := by
      refine Ev.step (fun _ => object_quoted.j1.eq_2 ..) (Ev.neg Bool.false_ne_true (Ev.neg (by clear hw hw2; omega) (Ev.neg (by clear hw hw2; omega) ?_)))
      rw [decide_eq_false (show ¬ (i : Int) < (p : Int) by clear hw hw2; omega)]
      exact fini_ev hl ha1 ha2 hi he around
     refine Ev.step (fun _ => object_quoted.l0.eq_2 ..) ?_
     by_cases hie2 : ((i + 1 : Nat) : Int) < (e : Int)
     ·refine Ev.pos hie2 ?_
      rw [decide_eq_false (show ¬ (i : Int) < (p : Int) by clear hw hw2; omega)]
      exact dn
     ·exact Ev.neg hie2 dn
  ·have eb : (decide (c = q) && decide (sl % 2 = 0)) = false := by
    by_cases hq : c = q
    ·rw [decide_eq_false (fun h => hQ ⟨hq, h⟩), Bool.and_false]
    ·rw [decide_eq_false hq, Bool.false_and]
   have eql : qlist q (c :: l) i sl = qlist q l (i + 1) (if c = 92 then sl + 1 else 0) := if_neg hQ
   have I2 := IH s2 hsp hs1 (by clear hw hw2; omega)
   refine ⟨fun f hf => ?_, fun a ha1 ha2 ha3 => ?_⟩
   ·refine into f _ ?_
    rw [eb, eql]
    exact Ev.step (fun _ => object_quoted.j2.eq_2 ..) (Ev.neg Bool.false_ne_true (next _ _ _ (I2.1 f hf)))
   ·refine into a _ ?_
    rw [eb, eql]
    exact Ev.step (fun _ => object_quoted.j2.eq_2 ..) (Ev.neg Bool.false_ne_true (next _ _ _ (I2.2 a ha1 (by clear hw hw2; omega) ha3)))
end
/-- The quotes of the line of p. -/
def lineQ (t : List Int) (q : Int) (s e : Nat) : List Nat := qlist q ((t.take e).drop s) s 0
theorem quoted_ev {t : List Int} (hu : u8s t = true) (hl : t.length ≤ 1048576) {p : Nat} (hp : p ≤ t.length) (q : Int) (around : Bool) : Ev (fun k => object_quoted.f k t (cnt 10 (t.take p)) (p : Int) q around) (quoV t (beg t p) (fin t p) around (fp p (lineQ t q (beg t p) (fin t p)))) := by
 have hb := beg_le t p
 have hf := fin_ge t p
 have hfl := fin_le hp
 refine Ev.bind (Start_of hu (by omega) hp) (Ev.bind (End_of hu (by omega) hp) ?_)
 exact (quo_l0 hl (q := q) (p := p) (s := beg t p) (around := around) hfl _ (beg t p) 0 (-1) rfl (by omega) (Nat.le_refl _) (Nat.zero_le _) (by omega) (by omega) (by omega)).1 (-1) (.inl (by omega))
theorem qlist_mem (q : Int) : ∀ (l : List Int) (i sl : Nat), ∀ x ∈ qlist q l i sl, i ≤ x ∧ x < i + l.length ∧ l.getD (x - i) 0 = q
 | [], _, _, x, h => by cases h
 | c :: l, i, sl, x, h => by
  have tail : x ∈ qlist q l (i + 1) (if c = 92 then sl + 1 else 0) → i ≤ x ∧ x < i + (c :: l).length ∧ (c :: l).getD (x - i) 0 = q := by
   intro h
   obtain ⟨h1, h2, h3⟩ := qlist_mem q l (i + 1) _ x h
   refine ⟨by omega, by rw [List.length_cons]; omega, ?_⟩
   rw [show x - i = (x - (i + 1)) + 1 from by omega]
   exact h3
  unfold qlist at h
  by_cases hQ : c = q ∧ sl % 2 = 0
  ·rw [if_pos hQ] at h
   rcases List.mem_cons.1 h with rfl | h
   ·exact ⟨Nat.le_refl _, by rw [List.length_cons]; omega, by rw [Nat.sub_self]; exact hQ.1⟩
   ·exact tail h
  ·rw [if_neg hQ] at h
   exact tail h
theorem qlist_pw (q : Int) : ∀ (l : List Int) (i sl : Nat), (qlist q l i sl).Pairwise (· < ·)
 | [], _, _ => List.Pairwise.nil
 | c :: l, i, sl => by
  unfold qlist
  have h := qlist_pw q l (i + 1) (if c = 92 then sl + 1 else 0)
  split
  ·exact List.pairwise_cons.2 ⟨fun x hx => by have := (qlist_mem q l (i + 1) _ x hx).1; omega, h⟩
  ·exact h
end Go.Proofs.YtcochbkdgjgaeaaDoor.OVQ
end
section
namespace Go.Proofs.YtcochbkdgjgaeaaDoor.OVW
open Go.RowKit Go.Proofs.YtcochbkdgjgaeaaDoorW.PrintWords Go.Proofs.YtcochbkdgjgaeaaDoorW.PrintMore Go.Proofs.YtcochbkdgjgaeaaDoor.X Go.Proofs.YtcochbkdgjgaeaaDoor.XL Go.Proofs.YtcochbkdgjgaeaaDoor.XO Go.Proofs.YtcochbkdgjgaeaaDoor.LN Go.Proofs.YtcochbkdgjgaeaaDoor.OB Go.Proofs.YtcochbkdgjgaeaaDoor.OB2
set_option linter.unusedVariables false
def vd (L : List S76) (j : Nat) : Bool := (rd_T76 L (j : Int)).f2
/-- What around takes: from number k on, c times; i was the first one. -/
def tk (L : List S76) (i : Nat) : Nat → Nat → Option Nat
 | 0, k => some k
 | c + 1, k => if L.length ≤ k then none else if vd L k = true then (if L.length ≤ k + 1 then none else tk L i c (k + 2)) else if k + 1 < L.length ∧ vd L (k + 1) = true ∧ vd L i = false then tk L i c (k + 2) else tk L i c (k + 1)
theorem tk_le {L : List S76} {i : Nat} : ∀ {c k n : Nat}, k ≤ L.length → tk L i c k = some n → k + c ≤ n ∧ n ≤ L.length := by
 intro c
 induction c with
 | zero => intro k n hk h; have h := Option.some.inj h; omega
 | succ c ih =>
  intro k n hk h
  unfold tk at h
  by_cases h1 : L.length ≤ k
  ·rw [if_pos h1] at h; cases h
  ·rw [if_neg h1] at h
   by_cases h2 : vd L k = true
   ·rw [if_pos h2] at h
    by_cases h3 : L.length ≤ k + 1
    ·rw [if_pos h3] at h; cases h
    ·rw [if_neg h3] at h
     have := ih (by omega) h
     omega
   ·rw [if_neg h2] at h
    by_cases h3 : k + 1 < L.length ∧ vd L (k + 1) = true ∧ vd L i = false
    ·rw [if_pos h3] at h
     have := ih (by omega) h
     omega
    ·rw [if_neg h3] at h
     have := ih (by omega) h
     omega
def fst (L : List S76) (i n : Nat) : Nat := if 0 < i ∧ vd L i = false ∧ vd L (n - 1) = false ∧ vd L (i - 1) = true then i - 1 else i
theorem fst_le (L : List S76) (i n : Nat) : fst L i n ≤ i := by unfold fst; split <;> omega
/-- What an object takes: the first stretch, and the one behind the last. -/
def takenV (L : List S76) (i c : Nat) (around : Bool) : Option (Nat × Nat) :=
 if around = true then (tk L i c i).map (fun n => (fst L i n, n)) else if i + c ≤ L.length then some (i, i + c) else none
theorem takenV_le {L : List S76} {i c : Nat} {around : Bool} {a b : Nat} (hi : i < L.length) (hc : 1 ≤ c) (h : takenV L i c around = some (a, b)) : a ≤ i ∧ i + c ≤ b ∧ b ≤ L.length := by
 unfold takenV at h
 cases around with
 | true =>
  rw [if_pos rfl] at h
  cases e : tk L i c i with
  | none => rw [e] at h; cases h
  | some n =>
   rw [e] at h
   have h2 := Option.some.inj h
   have e1 : fst L i n = a := congrArg Prod.fst h2
   have e2 : n = b := congrArg Prod.snd h2
   have h3 := tk_le (by omega) e
   have h4 := fst_le L i n
   omega
 | false =>
  rw [if_neg Bool.false_ne_true] at h
  by_cases h1 : i + c ≤ L.length
  ·rw [if_pos h1] at h
   have h2 := Option.some.inj h
   have e1 : i = a := congrArg Prod.fst h2
   have e2 : i + c = b := congrArg Prod.snd h2
   omega
  ·rw [if_neg h1] at h; cases h
def endT (L : List S76) (i : Nat) : Option Nat → Int × Int × Bool
 | none => (0, 0, false)
 | some n => ((fst L i n : Nat), (n : Int), true)
theorem taken_l0 {L : List S76} {i : Nat} (hL : L.length ≤ 2000000) (hi : i < L.length) : ∀ (c k : Nat), k ≤ L.length → (0 < c ∨ i < k) → i ≤ k → c ≤ 9999 → Ev (fun f => object_taken.l0 f L (k : Int) (c : Int) (i : Int)) (endT L i (tk L i c k)) := by
 intro c
 induction c with
 | zero =>
  intro k hk h0 hik _
  have hik2 : i < k := by omega
  refine Ev.step (fun _ => object_taken.l0.eq_2 ..) (Ev.neg (by omega) ?_)
  show Ev _ (((fst L i k : Nat) : Int), (k : Int), true)
  by_cases h1 : 0 < i
  ·have hw1 : wrap64 ((k : Int) - 1) = ((k - 1 : Nat) : Int) := by rw [wrap64_id (by omega) (by omega)]; omega
   have hw2 : wrap64 ((i : Int) - 1) = ((i - 1 : Nat) : Int) := by clear hw1; rw [wrap64_id (by omega) (by omega)]; omega
   refine Ev.pos (by clear hw1 hw2; omega) (Ev.pos (by clear hw1 hw2; omega) (Ev.pos (by clear hw1 hw2; omega) ?_))
   by_cases h2 : vd L i = true
   ·rw [show fst L i k = i from if_neg (by rw [h2]; simp)]
    exact Ev.pos h2 (Ev.now _)
   ·refine Ev.neg h2 ?_
    rw [hw1, hw2]
    refine Ev.pos (by clear hw1 hw2; omega) (Ev.pos (by clear hw1 hw2; omega) ?_)
    by_cases h3 : vd L (k - 1) = true
    ·rw [show fst L i k = i from if_neg (by rw [h3]; simp)]
     exact Ev.pos h3 (Ev.now _)
    ·refine Ev.neg h3 (Ev.pos (by clear hw1 hw2; omega) (Ev.pos (by clear hw1 hw2; omega) ?_))
     by_cases h4 : vd L (i - 1) = true
     ·rw [show fst L i k = i - 1 from if_pos ⟨h1, by simpa using h2, by simpa using h3, h4⟩]
      exact Ev.pos h4 (Ev.now _)
     ·rw [show fst L i k = i from if_neg (fun h => h4 h.2.2.2)]
      exact Ev.neg h4 (Ev.now _)
  ·rw [show fst L i k = i from if_neg (fun h => h1 h.1)]
   exact Ev.neg (by omega) (Ev.now _)
 | succ c ih =>
  intro k hk h0 hik hc
  have hw1 : wrap64 ((k : Int) + 1) = ((k + 1 : Nat) : Int) := by rw [wrap64_id (by omega) (by omega)]; omega
  have hw2 : wrap64 ((k : Int) + 2) = ((k + 2 : Nat) : Int) := by clear hw1; rw [wrap64_id (by omega) (by omega)]; omega
  have hw3 : wrap64 (((k + 1 : Nat) : Int) + 1) = ((k + 2 : Nat) : Int) := by clear hw1 hw2; rw [wrap64_id (by omega) (by omega)]; omega
  have hw4 : wrap64 (((c + 1 : Nat) : Int) - 1) = (c : Int) := by clear hw1 hw2 hw3; rw [wrap64_id (by omega) (by omega)]; omega
  refine Ev.step (fun _ => object_taken.l0.eq_2 ..) (Ev.pos (by clear hw1 hw2 hw3 hw4; omega) ?_)
  rw [hw1, hw2, hw4, hw3]
  clear hw1 hw2 hw3 hw4
  by_cases h1 : L.length ≤ k
  ·rw [show tk L i (c + 1) k = none from if_pos h1]
   exact Ev.pos (by omega) (Ev.now _)
  ·refine Ev.neg (by omega) (Ev.pos (by omega) (Ev.pos (by omega) ?_))
   by_cases h2 : vd L k = true
   ·refine Ev.pos h2 ?_
    by_cases h3 : L.length ≤ k + 1
    ·rw [show tk L i (c + 1) k = none from (if_neg h1).trans ((if_pos h2).trans (if_pos h3))]
     exact Ev.pos (by omega) (Ev.now _)
    ·rw [show tk L i (c + 1) k = tk L i c (k + 2) from (if_neg h1).trans ((if_pos h2).trans (if_neg h3))]
     exact Ev.neg (by omega) (ih (k + 2) (by omega) (.inr (by omega)) (by omega) (by omega))
   ·refine Ev.neg h2 ?_
    have n1 := ih (k + 1) (by omega) (.inr (by omega)) (by omega) (by omega)
    by_cases h3 : k + 1 < L.length
    ·have n2 := ih (k + 2) (by omega) (.inr (by omega)) (by omega) (by omega)
     refine Ev.pos (by omega) (Ev.pos (by omega) ?_)
     by_cases h4 : vd L (k + 1) = true
     ·refine Ev.pos h4 (Ev.pos (by omega) (Ev.pos (by omega) ?_))
      by_cases h5 : vd L i = true
      ·rw [show tk L i (c + 1) k = tk L i c (k + 1) from (if_neg h1).trans ((if_neg h2).trans (if_neg (by rw [h5]; simp)))]
       exact Ev.pos h5 n1
      ·rw [show tk L i (c + 1) k = tk L i c (k + 2) from (if_neg h1).trans ((if_neg h2).trans (if_pos ⟨h3, h4, by simpa using h5⟩))]
       exact Ev.neg h5 n2
     ·rw [show tk L i (c + 1) k = tk L i c (k + 1) from (if_neg h1).trans ((if_neg h2).trans (if_neg (fun h => h4 h.2.1)))]
      exact Ev.neg h4 n1
    ·rw [show tk L i (c + 1) k = tk L i c (k + 1) from (if_neg h1).trans ((if_neg h2).trans (if_neg (fun h => h3 h.1)))]
     exact Ev.neg (by omega) n1
def tkQ : Option (Nat × Nat) → Int × Int × Bool → Prop
 | none, q => q.2.2 = false
 | some x, q => q = ((x.1 : Int), (x.2 : Int), true)
theorem taken_ev {L : List S76} {i c : Nat} (hL : L.length ≤ 2000000) (hi : i < L.length) (h1 : 1 ≤ c) (h2 : c ≤ 9999) (around : Bool) : ∃ q, Ev (fun f => object_taken.f f L (i : Int) (c : Int) around) q ∧ tkQ (takenV L i c around) q := by
 cases around with
 | true =>
  refine ⟨_, Ev.pos rfl (taken_l0 hL hi c i (by omega) (.inl (by omega)) (Nat.le_refl _) h2), ?_⟩
  unfold takenV
  rw [if_pos rfl]
  cases tk L i c i with
  | none => rfl
  | some n => rfl
 | false =>
  have hw : wrap64 ((i : Int) + (c : Int)) = ((i + c : Nat) : Int) := by rw [wrap64_id (by omega) (by omega)]; omega
  refine ⟨((i : Int), ((i + c : Nat) : Int), decide (((i + c : Nat) : Int) ≤ (L.length : Int))), Ev.neg Bool.false_ne_true (by rw [hw]; exact Ev.now _), ?_⟩
  clear hw
  unfold takenV
  rw [if_neg Bool.false_ne_true]
  by_cases h : i + c ≤ L.length
  ·rw [if_pos h, decide_eq_true (by omega)]; rfl
  ·rw [if_neg h, decide_eq_false (by omega)]; rfl
def outV (L : List S76) : Option (Nat × Nat) → Int × Int × Bool
 | none => (0, 0, false)
 | some x => ((rd_T76 L (x.1 : Int)).f0, (rd_T76 L ((x.2 : Int) - 1)).f1, true)
theorem outW_out {L : List S76} {o : Option (Nat × Nat)} {q : Int × Int × Bool} (h : tkQ o q) : outV L o = outW L q := by
 cases o with
 | none =>
  have h : q.2.2 = false := h
  unfold outW
  rw [if_neg (by rw [h]; exact Bool.false_ne_true)]
  rfl
 | some x =>
  have h : q = ((x.1 : Int), (x.2 : Int), true) := h
  subst h
  rfl
/-- What a word's object is, of the line's stretches. -/
def wordsV (L : List S76) (p c : Nat) (around : Bool) : Int × Int × Bool :=
 if fk (p : Int) (-1) 0 L < 0 then (0, 0, false) else outV L (takenV L (fk (p : Int) (-1) 0 L).toNat c around)
theorem Ch_unique {C : Nat → Int} {e : Nat} : ∀ {L M : List S76} {s : Nat}, Ch C e s L → Ch C e s M → L = M
 | [], [], _, _, _ => rfl
 | [], _ :: _, s, h1, ⟨n, _, _, a, b, _⟩ => by have h1 : s = e := h1; omega
 | _ :: _, [], s, ⟨n, _, _, a, b, _⟩, h2 => by have h2 : s = e := h2; omega
 | x :: L, y :: M, s, ⟨n, x0, x1, x2, x3, x4, x5, x6, x7⟩, ⟨m, y0, y1, y2, y3, y4, y5, y6, y7⟩ => by
  have hnm : n = m := by
   rcases Nat.lt_trichotomy n m with h | h | h
   ·exact absurd (y4 n (by omega) h) (x5 (by omega))
   ·exact h
   ·exact absurd (x4 m (by omega) h) (y5 (by omega))
  subst hnm
  have hxy : x = y := by
   obtain ⟨a, b, c⟩ := x
   obtain ⟨a', b', c'⟩ := y
   simp only at x0 x1 x6 y0 y1 y6
   rw [x0, x1, x6, y0, y1, y6]
  rw [hxy, Ch_unique x7 y7]
theorem Ch_pw {C : Nat → Int} {e : Nat} : ∀ {L : List S76} {s : Nat}, Ch C e s L → L.Pairwise (fun x y => x.f1 ≤ y.f0)
 | [], _, _ => List.Pairwise.nil
 | x :: L, s, ⟨n, x0, x1, x2, x3, x4, x5, x6, x7⟩ => List.pairwise_cons.2 ⟨fun y hy => by have := Ch_mem x7 y hy; omega, Ch_pw x7⟩
theorem rd_get {L : List S76} {j : Nat} (h : j < L.length) : rd_T76 L (j : Int) = L[j] := by
 unfold rd_T76
 rw [Int.toNat_natCast, List.getD_eq_getElem?_getD, List.getElem?_eq_getElem h]
 rfl
/-- Where the stretches from a to b - 1 begin and end. -/
theorem Ch_span {C : Nat → Int} {s e : Nat} {L : List S76} (h : Ch C e s L) {a b : Nat} (hab : a < b) (hb : b ≤ L.length) : (s : Int) ≤ (rd_T76 L (a : Int)).f0 ∧ (rd_T76 L (a : Int)).f0 < (rd_T76 L ((b : Int) - 1)).f1 ∧ (rd_T76 L ((b : Int) - 1)).f1 ≤ (e : Int) := by
 have e1 : (b : Int) - 1 = ((b - 1 : Nat) : Int) := by omega
 rw [e1, rd_get (by omega), rd_get (by omega)]
 have m1 := Ch_mem h L[a] (List.getElem_mem _)
 have m2 := Ch_mem h L[b - 1] (List.getElem_mem _)
 refine ⟨m1.1, ?_, m2.2.2⟩
 rcases Nat.lt_or_ge a (b - 1) with h2 | h2
 ·have h3 := List.pairwise_iff_getElem.1 (Ch_pw h) a (b - 1) (by omega) (by omega) h2
  omega
 ·have h4 : a = b - 1 := by omega
  subst h4
  exact m1.2.1
section
variable {t : List Int} (hu : u8s t = true) (hl : t.length ≤ 1048576)
include hu hl
theorem words_ev {p : Nat} (hp : p ≤ t.length) {c : Nat} (hc1 : 1 ≤ c) (hc2 : c ≤ 9999) (big around : Bool) : Ev (fun k => object_words.f k t (cnt 10 (t.take p)) (p : Int) (c : Int) big around) (wordsV (lineL t big (beg t p) (fin t p)) p c around) := by
 have hb := beg_le t p
 have hf := fin_ge t p
 have hfl := fin_le hp
 have hse : beg t p ≤ fin t p := by omega
 have hlen : ((ends t big (fin t p) (beg t p) (fin t p - beg t p)).map fun n : Nat => (n : Int) - (beg t p : Nat)).length ≤ 1048576 := by
  rw [List.length_map]; have := ends_len (t := t) (big := big) (e := fin t p) (fin t p - beg t p) (beg t p); omega
 refine Ev.bind (Start_of hu (by omega) hp) (Ev.bind (End_of hu (by omega) hp) (Ev.pos (by omega) (Ev.pos (by omega) (Ev.pos (by omega) ?_))))
 rw [Int.toNat_natCast, Int.toNat_natCast]
 refine Ev.bind (Runs_ev hse hfl hl) ?_
 have hr := fk_range (p := (p : Int)) (lineL t big (beg t p) (fin t p)) (-1) 0 (by omega) (by omega)
 have hll := lineL_len (t := t) (big := big) (s := beg t p) (e := fin t p)
 refine words_l0 hfl hl (L0 := lineL t big (beg t p) (fin t p)) (kf := fk (p : Int) (-1) 0 (lineL t big (beg t p) (fin t p))) (fun h => if_pos h) (fun h => ?_)
  (ends t big (fin t p) (beg t p) (fin t p - beg t p)) [] [] (-1) (beg t p) rfl hlen rfl (fun n hn => (ends_le (t := t) (big := big) (e := fin t p) (fin t p - beg t p) (beg t p) (by omega) n hn).2) hse ?_ rfl rfl ?_ ?_
 ·rw [if_neg h]
  generalize fk (p : Int) (-1) 0 (lineL t big (beg t p) (fin t p)) = kf at hr h
  obtain ⟨i, rfl⟩ : ∃ i : Nat, kf = (i : Int) := ⟨kf.toNat, by omega⟩
  rw [Int.toNat_natCast]
  have hi : i < (lineL t big (beg t p) (fin t p)).length := by omega
  obtain ⟨q, q1, q2⟩ := taken_ev (L := lineL t big (beg t p) (fin t p)) (by omega) hi hc1 hc2 around
  refine ⟨q, q1, fun h2 => ?_, outW_out q2⟩
  cases ho : takenV (lineL t big (beg t p) (fin t p)) i c around with
  | none =>
   rw [ho] at q2
   have q2 : q.2.2 = false := q2
   rw [q2] at h2; cases h2
  | some x =>
   rw [ho] at q2
   have q2 : q = ((x.1 : Int), (x.2 : Int), true) := q2
   have hb2 := takenV_le hi hc1 ho
   subst q2
   simp only
   omega
 ·intro hne
  cases hd : fin t p - beg t p with
  | zero => rw [hd] at hne; exact absurd rfl hne
  | succ d => omega
 ·intro n ns e
  exact (ends_le (t := t) (big := big) (e := fin t p) (fin t p - beg t p) (beg t p) (by omega) n (by rw [e]; exact List.mem_cons_self)).1
 ·intro n ns e
  exact ends_pw _ _ (by omega)
/-- What a paragraph's object is, of the stretches of lines. -/
def parV (t : List Int) (L : List S76) : Option (Nat × Nat) → Int × Int × Bool
 | none => (0, 0, false)
 | some x => ((startR t (rd_T76 L (x.1 : Int)).f0).1, (startR t ((rd_T76 L ((x.2 : Int) - 1)).f1 - 1)).1, true)
theorem par_ev {p : Nat} (hp : p ≤ t.length) {c : Nat} (hc1 : 1 ≤ c) (hc2 : c ≤ 9999) (around : Bool) : ∃ (L : List S76) (i line : Nat), Ch (vC (splitR t)) (splitR t).length 0 L ∧ i < L.length ∧ cnt 10 (t.take p) = (line : Int) ∧ fk (line : Int) 0 0 L = (i : Int) ∧
  Ev (fun k => object_paragraphs.f k t (cnt 10 (t.take p)) (c : Int) around) (parV t L (takenV L i c around)) := by
 have hlen := splitR_len t
 have hcl := cnt_le 10 t
 have hcm := cnt_mono (t := t) hp (Nat.le_refl _)
 rw [List.take_length] at hcm
 have hcn := cnt_nonneg 10 (t.take p)
 obtain ⟨line, hline⟩ := Int.eq_ofNat_of_zero_le hcn
 rw [hline]
 obtain ⟨L, hL, hend⟩ := par_l0 (t := t) (M := splitR t) (by omega) (line := line) (c := (c : Int)) (around := around) (splitR t).length 0 [] (by omega) rfl
 obtain ⟨A, x, B, e1, e2, e3⟩ := Ch_at hL (Nat.zero_le line) (by omega)
 have hk : fk (line : Int) 0 0 L = (A.length : Int) := by subst e1; exact fk_at (kx := 0) hL e2 e3
 have hi : A.length < L.length := by rw [e1, List.length_append, List.length_cons]; omega
 have hlL := Ch_len hL
 refine ⟨L, A.length, line, hL, hi, rfl, hk, ?_⟩
 clear e1 e2 e3
 generalize A.length = i at hk hi
 refine Ev.cbind (show lines_Split.f t = some (splitR t) by unfold lines_Split.f; rw [if_pos hu, if_pos (by omega)]) ?_
 refine hend _ ?_
 rw [hk]
 obtain ⟨q, q1, q2⟩ := taken_ev (L := L) (by omega) hi hc1 hc2 around
 refine Ev.step (fun _ => object_paragraphs.l0.eq_2 ..) (Ev.neg (by omega) (Ev.bind q1 ?_))
 cases ho : takenV L i c around with
 | none =>
  rw [ho] at q2
  have q2 : q.2.2 = false := q2
  refine Ev.neg (by rw [q2]; exact Bool.false_ne_true) (Ev.now _)
 | some x =>
  obtain ⟨a, b⟩ := x
  rw [ho] at q2
  have q2 : q = ((a : Int), (b : Int), true) := q2
  have hb2 := takenV_le hi hc1 ho
  have hsp := Ch_span hL (a := a) (b := b) (by omega) (by omega)
  subst q2
  have hw1 : wrap64 ((b : Int) - 1) = (b : Int) - 1 := wrap64_id (by omega) (by omega)
  have hw2 : wrap64 ((rd_T76 L ((b : Int) - 1)).f1 - 1) = (rd_T76 L ((b : Int) - 1)).f1 - 1 := by clear hw1; exact wrap64_id (by omega) (by omega)
  refine Ev.pos rfl (Ev.pos (by clear hw1 hw2; simp only; omega) (Ev.pos (by clear hw1 hw2; simp only; omega) (Ev.bind (Start_ev hu (by omega) _ (by clear hw1 hw2; simp only; omega)) ?_)))
  simp only
  rw [hw1]
  refine Ev.pos (by clear hw1 hw2; omega) (Ev.pos (by clear hw1 hw2; omega) ?_)
  rw [hw2]
  refine Ev.bind (Start_ev hu (by omega) _ (by clear hw1 hw2; omega)) ?_
  exact Ev.now _
end
end Go.Proofs.YtcochbkdgjgaeaaDoor.OVW
end
section
namespace Go.Proofs.YtcochbkdgjgaeaaDoor.OVS
open Go.RowKit Go.Proofs.YtcochbkdgjgaeaaDoorW.PrintWords Go.Proofs.YtcochbkdgjgaeaaDoorW.PrintMore Go.Proofs.YtcochbkdgjgaeaaDoor.X Go.Proofs.YtcochbkdgjgaeaaDoor.XL Go.Proofs.YtcochbkdgjgaeaaDoor.XO Go.Proofs.YtcochbkdgjgaeaaDoor.LN Go.Proofs.YtcochbkdgjgaeaaDoor.OB Go.Proofs.YtcochbkdgjgaeaaDoor.OB2 Go.Proofs.YtcochbkdgjgaeaaDoor.OVB Go.Proofs.YtcochbkdgjgaeaaDoor.OVX Go.Proofs.YtcochbkdgjgaeaaDoor.OVQ Go.Proofs.YtcochbkdgjgaeaaDoor.OVW
set_option linter.unusedVariables false
section
variable {t : List Int} (hu : u8s t = true) (hl : t.length ≤ 1048576)
include hu hl
omit hl in
/-- Into Select, at a key of two bytes. -/
theorem into {p c : Nat} (hp : p ≤ t.length) (hc : c + 1 ≤ 9999) {key : ByteArray} (around : Bool) (hs : (key.size : Int) = 2) (h0 : bt key 0 = if around = true then 97 else 105) {V : Int × Int × Int × Int}
  (h : Ev (fun k => if (bt key 1) = 119 then (object_Select.j1 k t (p : Int) ((c + 1 : Nat) : Int) (cnt 10 (t.take p)) around 1 (bt key 1) true) else (object_Select.j1 k t (p : Int) ((c + 1 : Nat) : Int) (cnt 10 (t.take p)) around 1 (bt key 1) ((bt key 1) == 87))) V) :
  Ev (fun k => object_Select.f k t (p : Int) ((c + 1 : Nat) : Int) key) V := by
 have ha : (bt key 0 == 97) = around := by rw [h0]; cases around <;> rfl
 have fini : Ev (fun k => object_Select.j0 k t (p : Int) ((c + 1 : Nat) : Int) key (cnt 10 (t.take p)) false) V := by
  refine Ev.step (fun _ => object_Select.j0.eq_2 ..) (Ev.neg Bool.false_ne_true (Ev.pos (by omega) (Ev.pos (by omega) ?_)))
  rw [ha]
  exact h
 refine Ev.cbind (Of_eq hu (p : Int)) ?_
 rw [if_pos ⟨by omega, by omega⟩, Int.toNat_natCast]
 refine Ev.pos rfl (Ev.neg (by omega) (Ev.neg (by omega) (Ev.pos hs (Ev.pos (by omega) ?_))))
 cases around with
 | true =>
  refine Ev.neg (by rw [h0]; decide) ?_
  rw [h0]
  exact fini
 | false => exact Ev.pos h0 fini
omit hu hl in
theorem fine {r : Int × Int × Bool} {kd : Int} : Ev (fun _ : Nat => if r.2.2 = true then some (r.1, r.2.1, kd, (0 : Int)) else some ((0 : Int), (0 : Int), (0 : Int), (130 : Int))) (selW kd r) := by
 by_cases hr : r.2.2 = true
 ·rw [show selW kd r = _ from if_pos hr]; exact Ev.pos hr (Ev.now _)
 ·rw [show selW kd r = _ from if_neg hr]; exact Ev.neg hr (Ev.now _)
theorem Select_w {p c : Nat} (hp : p ≤ t.length) (hc : c + 1 ≤ 9999) {key : ByteArray} (around : Bool) (hs : (key.size : Int) = 2) (h0 : bt key 0 = if around = true then 97 else 105) (big : Bool) (h1 : bt key 1 = if big = true then 87 else 119) :
  Ev (fun k => object_Select.f k t (p : Int) ((c + 1 : Nat) : Int) key) (selW 1 (wordsV (lineL t big (beg t p) (fin t p)) p (c + 1) around)) := by
 refine into hu hp hc around hs h0 ?_
 have hw := words_ev hu hl hp (c := c + 1) (by omega) hc big around
 rw [h1]
 have fini : Ev (fun k => object_Select.j1 k t (p : Int) ((c + 1 : Nat) : Int) (cnt 10 (t.take p)) around 1 (if big = true then 87 else 119) true) (selW 1 (wordsV (lineL t big (beg t p) (fin t p)) p (c + 1) around)) := by
  refine Ev.step (fun _ => object_Select.j1.eq_2 ..) (Ev.pos rfl ?_)
  rw [show ((if big = true then (87 : Int) else 119) == 87) = big from by cases big <;> rfl]
  exact Ev.bind hw fine
 cases big with
 | true => exact Ev.neg (by decide) fini
 | false => exact Ev.pos rfl fini
omit hl in
theorem Select_p {p c : Nat} (hp : p ≤ t.length) (hc : c + 1 ≤ 9999) {key : ByteArray} (around : Bool) (hs : (key.size : Int) = 2) (h0 : bt key 0 = if around = true then 97 else 105) (h1 : bt key 1 = 112) {V : Int × Int × Bool}
  (h : Ev (fun k => object_paragraphs.f k t (cnt 10 (t.take p)) ((c + 1 : Nat) : Int) around) V) :
  Ev (fun k => object_Select.f k t (p : Int) ((c + 1 : Nat) : Int) key) (selW 3 V) := by
 refine into hu hp hc around hs h0 ?_
 rw [h1]
 exact Ev.neg (by decide) (Ev.step (fun _ => object_Select.j1.eq_2 ..) (Ev.neg (by decide) (Ev.pos rfl (Ev.bind h fine))))
theorem Select_q {p c : Nat} (hp : p ≤ t.length) (hc : c + 1 ≤ 9999) {key : ByteArray} (around : Bool) (hs : (key.size : Int) = 2) (h0 : bt key 0 = if around = true then 97 else 105) {x : Int} (h1 : bt key 1 = x) (hx : x = 34 ∨ x = 39 ∨ x = 96) :
  Ev (fun k => object_Select.f k t (p : Int) ((c + 1 : Nat) : Int) key) (selW 1 (quoV t (beg t p) (fin t p) around (fp p (lineQ t x (beg t p) (fin t p))))) := by
 refine into hu hp hc around hs h0 ?_
 have hw := quoted_ev hu hl hp x around
 rw [h1]
 have h87 : (x == 87) = false := beq_eq_false_iff_ne.2 (by omega)
 rw [h87]
 refine Ev.neg (by omega) (Ev.step (fun _ => object_Select.j1.eq_2 ..) (Ev.neg Bool.false_ne_true (Ev.neg (by omega) ?_)))
 have fini : Ev (fun k => object_Select.j2 k t (p : Int) ((c + 1 : Nat) : Int) (cnt 10 (t.take p)) around 1 x true) (selW 1 (quoV t (beg t p) (fin t p) around (fp p (lineQ t x (beg t p) (fin t p))))) :=
  Ev.step (fun _ => object_Select.j2.eq_2 ..) (Ev.pos rfl (Ev.bind hw fine))
 by_cases e1 : x = 34
 ·exact Ev.pos e1 fini
 ·refine Ev.neg e1 ?_
  by_cases e2 : x = 39
  ·exact Ev.pos e2 fini
  ·refine Ev.neg e2 ?_
   rw [show (x == 96) = true from beq_iff_eq.2 (by omega)]
   exact fini
end
end Go.Proofs.YtcochbkdgjgaeaaDoor.OVS
end
