/-
  StepPlaces: the row of the law, out of its pure statement and the printed walk.
  Conditions: none.
-/
import Derived.Test.YtofkcdnkbjpmmaaBPlaces1
import Derived.Test.YtofkcdnkbjpmmaaBPlaces8
import Derived.Test.YtofkcdnkbjpmmaaBPlaces7
import Derived.Test.YtofkcdnkbjpmmaaRows
import Derived.WalkKit
import Derived.ProofKit
import Derived.OpenShut
import Derived.ShutString
import Derived.ChangeOld
import Derived.Below
import Derived.SizedLaws
import Derived.Carry
import Derived.JoinedCond
import Derived.Deep.CondSized
section
namespace Go.Proofs.Ytofkcdnkbjpmmaa.Say
open Go.RowKit Go.Proofs.YtofkcdnkbjpmmaaW.PrintWords Go.Proofs.Ytofkcdnkbjpmmaa.X Go.Proofs.Ytofkcdnkbjpmmaa.XO
def StepPlaces : Prop := ∀ (l0 : List Int) (x1 : S27), (okSl 1 okU8) l0 → okS27 x1 → ∃ k, quoinlaw07_StepPlaces.f k l0 x1.f0 x1.f1 x1.f2 x1.f3 = some true
end Go.Proofs.Ytofkcdnkbjpmmaa.Say
end
section
namespace Go.Proofs.Ytofkcdnkbjpmmaa.Pure
open Go.RowKit Go.Proofs.YtofkcdnkbjpmmaaW.PrintWords Go.Proofs.YtofkcdnkbjpmmaaW.PrintMore Go.Proofs.Ytofkcdnkbjpmmaa.X Go.Proofs.Ytofkcdnkbjpmmaa.XL Go.Proofs.Ytofkcdnkbjpmmaa.XO Go.Proofs.Ytofkcdnkbjpmmaa.LN Go.Proofs.Ytofkcdnkbjpmmaa.MV
section
variable {t : List Int}
/-- What a motion by lines comes to. -/
def GoodL (t : List Int) (a to_ want : Int) (jk dollar : Bool) (f g kd w e : Int) : Prop :=
  ((to_ < 0 ∨ to_ > cnt 10 t) → f = 0 ∧ g = 0 ∧ kd = 0 ∧ w = 0 ∧ e = 70) ∧
  (¬ (to_ < 0 ∨ to_ > cnt 10 t) → f = a ∧ e = 0 ∧
    (dollar = true → kd = 1 ∧ w = -1 ∧ endR t to_ = (g, 0) ∧ ∃ q : Nat, g = (q : Int) ∧ q ≤ t.length ∧ cnt 10 (t.take q) = to_) ∧
    (dollar = false → kd = 3 ∧ There t to_ g ∧ (jk = true → w = want) ∧ (jk = false → w = (colR t g).1)))
/-- What a motion by bytes comes to. -/
def GoodX (t : List Int) (a n : Int) (bar home : Bool) (f g kd w e : Int) : Prop :=
  (f = 0 ∧ g = 0 ∧ kd = 0 ∧ w = 0 ∧ e = 70 ∧ home = false ∧ bar = false) ∨ (f = a ∧ 0 ≤ g ∧ g ≤ t.length ∧ kd = 1 ∧ e = 0 ∧ (bar = true → w = n - 1) ∧ (bar = false → w = (colR t g).1))
theorem five_true (t : List Int) (p want : Int) (to_ : Int) (jk : Bool) : (lineV t p want to_ jk).2.2.2.2.2 = true := by
  unfold lineV
  repeat' split
  all_goals rfl
theorem line_good {p n : Nat} {want to_ : Int} {g0 jk : Bool} {key : ByteArray} {f g kd w e : Int} (hw : -1 ≤ want) (hb : bytesV t p n (cnt 10 (t.take p)) key = (0, 0, 0, 0, 0, false)) (hlv : linesV t p want n g0 (cnt 10 (t.take p)) key = lineV t p want to_ jk) (h : moveN t p want n g0 key = (f, g, kd, w, e)) : GoodL t p to_ want jk false f g kd w e := by
  unfold moveN at h
  rw [hb, if_neg (by decide), hlv, if_pos (five_true _ _ _ _ _)] at h
  refine ⟨fun hto => ?_, fun hto => ?_⟩
  · unfold lineV at h
    rw [if_pos hto] at h
    simp only [F6, five, Prod.mk.injEq] at h
    omega
  · unfold lineV at h
    rw [if_neg hto] at h
    have h0 : 0 ≤ to_ ∧ to_ ≤ cnt 10 t := by omega
    cases jk with
    | true =>
      rw [if_pos rfl] at h
      simp only [five, Prod.mk.injEq] at h
      obtain ⟨rfl, rfl, rfl, rfl, rfl⟩ := h
      exact ⟨rfl, rfl, fun h => (by cases h), fun _ => ⟨rfl, at_there h0.1 h0.2 hw, fun _ => rfl, fun h => (by cases h)⟩⟩
    | false =>
      rw [if_neg (by decide)] at h
      simp only [T6, five, Prod.mk.injEq] at h
      obtain ⟨rfl, rfl, rfl, rfl, rfl⟩ := h
      exact ⟨rfl, rfl, fun h => (by cases h), fun _ => ⟨rfl, first_there h0.1 h0.2, fun h => (by cases h), fun _ => rfl⟩⟩
theorem end_good {p n : Nat} {want : Int} {g0 : Bool} {key : ByteArray} {f g kd w e : Int} (k : key.toList = ([36] : List UInt8)) (h : moveN t p want n g0 key = (f, g, kd, w, e)) : GoodL t p (cnt 10 (t.take p) + n - 1) want false true f g kd w e := by
  have hb : bytesV t p n (cnt 10 (t.take p)) key = if (endR t (cnt 10 (t.take p) + n - 1)).2 = 0 then ((p : Int), (endR t (cnt 10 (t.take p) + n - 1)).1, 1, -1, 0, true) else F6 := by simp [bytesV, k]
  generalize cnt 10 (t.take p) + (n : Int) - 1 = to_ at hb
  refine ⟨fun hto => ?_, fun hto => ?_⟩
  · have h2 := end_none (t := t) hto
    rw [if_neg (by omega)] at hb
    unfold moveN at h
    rw [hb, if_pos (show F6.2.2.2.2.2 = true from rfl)] at h
    simp only [F6, five, Prod.mk.injEq] at h
    omega
  · obtain ⟨q, h1, h2, h3⟩ := end_there (t := t) (l := to_) (by omega) (by omega)
    rw [h1, if_pos rfl] at hb
    unfold moveN at h
    rw [hb, if_pos rfl] at h
    simp only [five, Prod.mk.injEq] at h
    obtain ⟨rfl, rfl, rfl, rfl, rfl⟩ := h
    exact ⟨rfl, rfl, fun _ => ⟨rfl, rfl, h1, q, rfl, h2, h3⟩, fun h => by cases h⟩
theorem onw_in : ∀ (n x : Nat) (f : Int), f ≤ t.length → onwN t n x f ≤ t.length := by
  have hn : ∀ (d x y : Nat), x + d = t.length + 1 → nxt t d x = some y → y ≤ t.length := by
    intro d
    induction d with
    | zero => intro x y _ h; simp [nxt] at h
    | succ d ih =>
      intro x y hx h
      unfold nxt at h
      by_cases hs : stopR t x
      · rw [if_pos hs] at h
        have := Option.some.inj h
        omega
      · rw [if_neg hs] at h
        exact ih (x + 1) y (by omega) h
  intro n
  induction n with
  | zero => intro x f h; exact h
  | succ n ih =>
    intro x f h
    unfold onwN
    cases e : nx t x with
    | none => exact h
    | some y =>
      refine ih (y + 1) y ?_
      unfold nx at e
      by_cases hx : x ≤ t.length + 1
      · have := hn _ _ _ (by omega) e; omega
      · rw [show t.length + 1 - x = 0 from by omega] at e; simp [nxt] at e
theorem prv_lt : ∀ (x y : Nat), prv t x = some y → y < x := by
  intro x
  induction x with
  | zero => intro y h; simp [prv] at h
  | succ x ih =>
    intro y h
    unfold prv at h
    by_cases hs : stopL t x
    · rw [if_pos hs] at h
      have := Option.some.inj h
      omega
    · rw [if_neg hs] at h
      have := ih y h
      omega
theorem bck_in : ∀ (n x : Nat) (f : Int), x ≤ t.length → f ≤ t.length → bckN t n x f ≤ t.length := by
  intro n
  induction n with
  | zero => intro x f _ h; exact h
  | succ n ih =>
    intro x f hx h
    unfold bckN
    cases e : prv t x with
    | none => exact h
    | some y =>
      have := prv_lt x y e
      exact ih y y (by omega) (by omega)
theorem x_of {p n : Nat} {want : Int} {g0 : Bool} {key : ByteArray} {f g kd w e : Int} {b : R6} (hb : bytesV t p n (cnt 10 (t.take p)) key = b) (ht : b.2.2.2.2.2 = true) (h : moveN t p want n g0 key = (f, g, kd, w, e)) : f = b.1 ∧ g = b.2.1 ∧ kd = b.2.2.1 ∧ w = b.2.2.2.1 ∧ e = b.2.2.2.2.1 := by
  unfold moveN at h
  rw [hb, if_pos ht] at h
  simp only [five, Prod.mk.injEq] at h
  obtain ⟨h1, h2, h3, h4, h5⟩ := h
  exact ⟨h1.symm, h2.symm, h3.symm, h4.symm, h5.symm⟩
theorem x_fails {p : Int} {n : Int} {f g kd w e : Int} (h : f = F6.1 ∧ g = F6.2.1 ∧ kd = F6.2.2.1 ∧ w = F6.2.2.2.1 ∧ e = F6.2.2.2.2.1) : GoodX t p n false false f g kd w e := .inl ⟨h.1, h.2.1, h.2.2.1, h.2.2.2.1, h.2.2.2.2, rfl, rfl⟩
theorem x_to {p q : Int} {n : Int} {home : Bool} {f g kd w e : Int} (h0 : 0 ≤ q) (h1 : q ≤ t.length) (h : f = (T6 t p q 1).1 ∧ g = (T6 t p q 1).2.1 ∧ kd = (T6 t p q 1).2.2.1 ∧ w = (T6 t p q 1).2.2.2.1 ∧ e = (T6 t p q 1).2.2.2.2.1) : GoodX t p n false home f g kd w e := by
  obtain ⟨a, b, c, d, e⟩ := h
  have b' : g = q := b
  subst b'
  exact .inr ⟨a, h0, h1, c, e, fun h => (by cases h), fun _ => d⟩
theorem x_fin {p q : Int} {n : Int} {f g kd w e : Int} (h1 : q ≤ t.length) (h : f = (fin6 t p q).1 ∧ g = (fin6 t p q).2.1 ∧ kd = (fin6 t p q).2.2.1 ∧ w = (fin6 t p q).2.2.2.1 ∧ e = (fin6 t p q).2.2.2.2.1) : GoodX t p n false false f g kd w e := by
  unfold fin6 at h
  by_cases hq : q < 0
  · rw [if_pos hq] at h; exact x_fails h
  · rw [if_neg hq] at h; exact x_to (by omega) h1 h
def homes (key : ByteArray) : Bool := key.toList == ([48] : List UInt8) || key.toList == ([94] : List UInt8)
def barK (key : ByteArray) : Bool := key.toList == ([124] : List UInt8)
theorem x_good {p n : Nat} {want : Int} {g0 : Bool} {key : ByteArray} {f g kd w e : Int} (hp : p ≤ t.length) (h1 : 1 ≤ n)
    (hk : key.toList = ([104] : List UInt8) ∨ key.toList = ([108] : List UInt8) ∨ key.toList = ([32] : List UInt8) ∨ key.toList = ([8] : List UInt8) ∨ key.toList = ([48] : List UInt8) ∨ key.toList = ([94] : List UInt8) ∨ key.toList = ([124] : List UInt8))
    (h : moveN t p want n g0 key = (f, g, kd, w, e)) : GoodX t p n (barK key) (homes key) f g kd w e := by
  have hbl := beg_le t p
  have hfg := fin_ge t p
  have hfl := fin_le hp
  have hc := cnt_mono (t := t) (p := 0) (Nat.zero_le _) hp
  have hc2 := cnt_mono (t := t) hp (Nat.le_refl _)
  rw [List.take_length] at hc2
  have hc0 : cnt 10 (t.take 0) = 0 := rfl
  rcases hk with k | k | k | k | k | k | k
  · have hb : bytesV t p n (cnt 10 (t.take p)) key = if p = beg t p then F6 else T6 t p (max ((p : Int) - n) (beg t p)) 1 := by simp [bytesV, k]
    rw [show barK key = false from by simp [barK, k], show homes key = false from by simp [homes, k]]
    by_cases hh : p = beg t p
    · rw [if_pos hh] at hb; exact x_fails (x_of hb rfl h)
    · rw [if_neg hh] at hb; exact x_to (by omega) (by omega) (x_of hb rfl h)
  · have hb : bytesV t p n (cnt 10 (t.take p)) key = if p = fin t p then F6 else T6 t p (min ((p : Int) + n) (fin t p)) 1 := by simp [bytesV, k]
    rw [show barK key = false from by simp [barK, k], show homes key = false from by simp [homes, k]]
    by_cases hh : p = fin t p
    · rw [if_pos hh] at hb; exact x_fails (x_of hb rfl h)
    · rw [if_neg hh] at hb; exact x_to (by omega) (by omega) (x_of hb rfl h)
  · have hb : bytesV t p n (cnt 10 (t.take p)) key = fin6 t p (onwN t n (p + 1) (-1)) := by simp [bytesV, k]
    rw [show barK key = false from by simp [barK, k], show homes key = false from by simp [homes, k]]
    exact x_fin (onw_in _ _ _ (by omega)) (x_of hb (by unfold fin6; split <;> rfl) h)
  · have hb : bytesV t p n (cnt 10 (t.take p)) key = fin6 t p (bckN t n p (-1)) := by simp [bytesV, k]
    rw [show barK key = false from by simp [barK, k], show homes key = false from by simp [homes, k]]
    exact x_fin (bck_in _ _ _ hp (by omega)) (x_of hb (by unfold fin6; split <;> rfl) h)
  · have hb : bytesV t p n (cnt 10 (t.take p)) key = T6 t p (beg t p) 1 := by simp [bytesV, k]
    rw [show barK key = false from by simp [barK, k]]
    exact x_to (by omega) (by omega) (x_of hb rfl h)
  · have hb : bytesV t p n (cnt 10 (t.take p)) key = T6 t p (firstR t (cnt 10 (t.take p))).1 1 := by simp [bytesV, k]
    rw [show barK key = false from by simp [barK, k]]
    obtain ⟨q, hq, hq2, _, _⟩ := first_there (t := t) (l := cnt 10 (t.take p)) (by omega) hc2
    rw [hq] at hb
    exact x_to (by omega) (by omega) (x_of hb rfl h)
  · have hb : bytesV t p n (cnt 10 (t.take p)) key = ((p : Int), (atR t (cnt 10 (t.take p)) ((n : Int) - 1)).1, 1, (n : Int) - 1, 0, true) := by simp [bytesV, k]
    rw [show barK key = true from by simp [barK, k]]
    obtain ⟨q, hq, hq2, _, _⟩ := at_there (t := t) (l := cnt 10 (t.take p)) (c := (n : Int) - 1) (by omega) hc2 (by omega)
    rw [hq] at hb
    obtain ⟨a, b, c, d, e⟩ := x_of hb rfl h
    have b' : g = (q : Int) := b
    exact .inr ⟨a, by omega, by omega, c, e, fun _ => d, fun h => by cases h⟩
end
section
variable {t : List Int} (hu : u8s t = true) (hl : t.length ≤ 140737488355328)
include hl
theorem column_ev (g : Int) : Ev (fun k => quoinlaw07_column.f k t g) (colR t g).1 := Ev.done (Column_ev hl g) rfl
theorem P_j10 {w a want count f g kd : Int} {key : ByteArray} (hj : key.toList = ([106] : List UInt8) ∨ key.toList = ([107] : List UInt8) → w = want) (hn : ¬ (key.toList = ([106] : List UInt8) ∨ key.toList = ([107] : List UInt8)) → w = (colR t g).1) : Ev (fun k => quoinlaw07_StepPlaces.j10 k t w false a want count key f g kd) true := by
  refine Ev.step (fun _ => quoinlaw07_StepPlaces.j10.eq_2 ..) (Ev.neg Bool.false_ne_true ?_)
  by_cases k1 : key.toList = ([106] : List UInt8)
  · exact Ev.pos k1 (Ev.const (by rw [hj (.inl k1)]; simp))
  by_cases k2 : key.toList = ([107] : List UInt8)
  · exact Ev.neg k1 (Ev.pos k2 (Ev.const (by rw [hj (.inr k2)]; simp)))
  refine Ev.neg k1 (Ev.neg k2 (Ev.done (column_ev hl g) ?_))
  rw [hn (fun h => h.elim k1 k2)]
  simp
include hu
theorem P_j9 {w a want count f g kd to_ : Int} {key : ByteArray} {dollar : Bool} (hto : to_ ≤ 9223372036854775807) (hd : dollar = true ↔ key.toList = ([36] : List UInt8))
    (h1 : dollar = true → kd = 1 ∧ w = -1 ∧ endR t to_ = (g, 0)) (h2 : dollar = false → kd = 3 ∧ There t to_ g)
    (hj : dollar = false → key.toList = ([106] : List UInt8) ∨ key.toList = ([107] : List UInt8) → w = want) (hn : dollar = false → ¬ (key.toList = ([106] : List UInt8) ∨ key.toList = ([107] : List UInt8)) → w = (colR t g).1) : Ev (fun k => quoinlaw07_StepPlaces.j9 k t w to_ false a want count key f g kd) true := by
  refine Ev.step (fun _ => quoinlaw07_StepPlaces.j9.eq_2 ..) (Ev.neg Bool.false_ne_true ?_)
  cases dollar with
  | true =>
    obtain ⟨rfl, rfl, h3⟩ := h1 rfl
    have he := End_ev hu hl to_ hto
    rw [h3] at he
    exact Ev.pos (hd.1 rfl) (Ev.bind he (Ev.pos rfl (Ev.pos rfl (Ev.pos rfl (Ev.const rfl)))))
  | false =>
    obtain ⟨rfl, q, rfl, hq1, hq2, hq3⟩ := h2 rfl
    have hr := Rest_ev hu hl (q : Int)
    rw [clamp_id hq1, hq3] at hr
    refine Ev.neg (fun h => by have := hd.2 h; cases this) (Ev.pos rfl (Ev.bind hr ?_))
    rw [show ((q : Int) != (q : Int)) = false from by simp]
    exact P_j10 hl (hj rfl) (hn rfl)
theorem P_j6 {w e a want count f g kd to_ : Int} {key : ByteArray} {jk dollar : Bool} (hto : to_ ≤ 9223372036854775807) (hd : dollar = true ↔ key.toList = ([36] : List UInt8)) (hk : jk = true ↔ (key.toList = ([106] : List UInt8) ∨ key.toList = ([107] : List UInt8))) (hG : GoodL t a to_ want jk dollar f g kd w e) : Ev (fun k => quoinlaw07_StepPlaces.j6 k t w e (cnt 10 t) to_ a want count key f g kd) true := by
  refine Ev.step (fun _ => quoinlaw07_StepPlaces.j6.eq_2 ..) ?_
  have bad : (to_ < 0 ∨ to_ > cnt 10 t) → Ev (fun k => quoinlaw07_StepPlaces.j7 k t w e to_ true a want count key f g kd) true := fun h => by
    obtain ⟨rfl, rfl, rfl, rfl, rfl⟩ := hG.1 h
    exact Ev.step (fun _ => quoinlaw07_StepPlaces.j7.eq_2 ..) (Ev.pos rfl (Ev.pos rfl (Ev.pos (by decide) (Ev.const rfl))))
  by_cases h0 : to_ < 0
  · exact Ev.pos h0 (bad (.inl h0))
  refine Ev.neg h0 ?_
  by_cases h1 : to_ > cnt 10 t
  · rw [decide_eq_true h1]; exact bad (.inr h1)
  rw [decide_eq_false h1]
  obtain ⟨rfl, rfl, g1, g2⟩ := hG.2 (by omega)
  obtain ⟨q, rfl, hq1, hq2⟩ : ∃ q : Nat, g = (q : Int) ∧ q ≤ t.length ∧ cnt 10 (t.take q) = to_ := by
    cases dollar with
    | true => exact (g1 rfl).2.2.2
    | false => obtain ⟨q, a, b, c, _⟩ := (g2 rfl).2.1; exact ⟨q, a, b, c⟩
  refine Ev.step (fun _ => quoinlaw07_StepPlaces.j7.eq_2 ..) (Ev.neg Bool.false_ne_true (Ev.pos rfl (Ev.pos rfl (Ev.neg (by omega) ?_))))
  rw [decide_eq_false (show ¬ (q : Int) > (t.length : Int) by omega)]
  refine Ev.step (fun _ => quoinlaw07_StepPlaces.j8.eq_2 ..) (Ev.neg Bool.false_ne_true (Ev.cbind (Of_eq hu (q : Int)) ?_))
  rw [if_pos ⟨by omega, by omega⟩]
  refine Ev.pos rfl ?_
  rw [show ((cnt 10 (t.take (q : Int).toNat), (0 : Int)).1 != to_) = false from by rw [Int.toNat_natCast, hq2]; simp]
  refine P_j9 hu hl (dollar := dollar) hto hd (fun h => ⟨(g1 h).1, (g1 h).2.1, (g1 h).2.2.1⟩) (fun h => ⟨(g2 h).1, (g2 h).2.1⟩) (fun h h2 => (g2 h).2.2.1 (hk.2 h2)) (fun h h2 => (g2 h).2.2.2 ?_)
  cases jk with
  | true => exact absurd (hk.1 rfl) h2
  | false => rfl
omit hu in
theorem P_j5 {w e a n want count f g kd : Int} {key : ByteArray} (hn : 1 ≤ n ∧ n ≤ 9999) (hG : GoodX t a n (barK key) (homes key) f g kd w e) : Ev (fun k => quoinlaw07_StepPlaces.j5 k t w e 0 n true a want count key f g kd) true := by
  refine Ev.step (fun _ => quoinlaw07_StepPlaces.j5.eq_2 ..) (Ev.pos rfl ?_)
  rcases hG with ⟨rfl, rfl, rfl, rfl, rfl, h1, h2⟩ | ⟨rfl, h0, h1, rfl, rfl, h2, h3⟩
  · refine Ev.neg (by decide) (Ev.pos rfl (Ev.pos (by decide) (Ev.pos rfl ?_)))
    unfold homes at h1
    unfold barK at h2
    rw [Bool.or_eq_false_iff] at h1
    refine Ev.neg (by simpa using h1.1) (Ev.neg (by simpa using h1.2) (Ev.const ?_))
    have h4 : key.toList ≠ ([124] : List UInt8) := by simpa using h2
    rw [show (key.toList != ([124] : List UInt8)) = true from by simpa using h4]
  · refine Ev.pos rfl (Ev.pos rfl (Ev.pos rfl (Ev.pos h0 (Ev.pos h1 (Ev.pos rfl ?_)))))
    by_cases k1 : key.toList = ([124] : List UInt8)
    · refine Ev.pos k1 (Ev.pos ?_ (Ev.const rfl))
      rw [h2 (by simp [barK, k1]), wrap64_id (by omega) (by omega)]
    · refine Ev.neg k1 (Ev.done (column_ev hl g) ?_)
      rw [h3 (by simp [barK, k1])]
      simp
omit hu hl in
theorem P_bad {w e a want count f g kd : Int} {key : ByteArray} (h : f = 0 ∧ g = 0 ∧ kd = 0 ∧ w = 0 ∧ e = 2) : Ev (fun k => quoinlaw07_StepPlaces.j0 k t w e true a want count key f g kd) true := by
  obtain ⟨rfl, rfl, rfl, rfl, rfl⟩ := h
  exact Ev.step (fun _ => quoinlaw07_StepPlaces.j0.eq_2 ..) (Ev.pos rfl (Ev.pos rfl (Ev.pos (by decide) (Ev.const rfl))))
end
section
variable {t : List Int} (hu : u8s t = true) (hl : t.length ≤ 140737488355328)
variable {p n : Nat} {want count f g kd w e : Int} {key : ByteArray} (hp : p ≤ t.length) (hw : -1 ≤ want) (h1 : 1 ≤ n) (hn : n ≤ 9999) (hc : (n : Int) = max count 1) (hc0 : 0 ≤ count)
  (h : moveN t p want n (decide (count > 0)) key = (f, g, kd, w, e))
include hu hl hp hw h1 hn hc hc0 h
theorem P_j4 (k1 : key.toList ≠ ([106] : List UInt8)) (k2 : key.toList ≠ ([43] : List UInt8)) (k3 : key.toList ≠ ([13] : List UInt8)) (k4 : key.toList ≠ ([107] : List UInt8)) (k5 : key.toList ≠ ([45] : List UInt8)) (k6 : key.toList ≠ ([95] : List UInt8)) (k7 : key.toList ≠ ([36] : List UInt8)) (b : Bool) (hb : b = true ↔ (key.toList = ([71] : List UInt8) ∨ key.toList = ([103, 103] : List UInt8))) :
    Ev (fun k => quoinlaw07_StepPlaces.j4 k t w e 0 (cnt 10 t) (n : Int) key b (p : Int) want count key f g kd) true := by
  have hcl := cnt_le 10 t
  refine Ev.step (fun _ => quoinlaw07_StepPlaces.j4.eq_2 ..) ?_
  cases b with
  | true =>
    refine Ev.pos rfl ?_
    have hnw : wrap64 ((n : Int) - 1) = (n : Int) - 1 := wrap64_id (by omega) (by omega)
    rw [hnw]
    clear hnw
    have hd : (false = true) ↔ key.toList = ([36] : List UInt8) := ⟨fun h => (by cases h), fun h => absurd h k7⟩
    have hk : (false = true) ↔ (key.toList = ([106] : List UInt8) ∨ key.toList = ([107] : List UInt8)) := ⟨fun h => (by cases h), fun h => (h.elim k1 k4).elim⟩
    rcases hb.1 rfl with k | k
    · refine Ev.pos k ?_
      have hb : bytesV t p n (cnt 10 (t.take p)) key = (0, 0, 0, 0, 0, false) := by simp [bytesV, k]
      by_cases c0 : count = 0
      · refine Ev.pos c0 (P_j6 hu hl (by omega) hd hk (line_good hw hb (?_ : _ = lineV t p want (cnt 10 t) false) h))
        simp [linesV, k, c0]
      · refine Ev.neg c0 (P_j6 hu hl (by omega) hd hk (line_good hw hb (?_ : _ = lineV t p want ((n : Int) - 1) false) h))
        have hgt : count > 0 := by omega
        simp [linesV, k, hgt]
    · refine Ev.neg (by rw [k]; decide) ?_
      have hb : bytesV t p n (cnt 10 (t.take p)) key = (0, 0, 0, 0, 0, false) := by simp [bytesV, k]
      refine P_j6 hu hl (by omega) hd hk (line_good hw hb (?_ : _ = lineV t p want ((n : Int) - 1) false) h)
      simp [linesV, k]
  | false =>
    refine Ev.neg Bool.false_ne_true ?_
    have k8 : key.toList ≠ ([71] : List UInt8) := fun k => by have := hb.2 (.inl k); cases this
    have k9 : key.toList ≠ ([103, 103] : List UInt8) := fun k => by have := hb.2 (.inr k); cases this
    have go : (hk : key.toList = ([104] : List UInt8) ∨ key.toList = ([108] : List UInt8) ∨ key.toList = ([32] : List UInt8) ∨ key.toList = ([8] : List UInt8) ∨ key.toList = ([48] : List UInt8) ∨ key.toList = ([94] : List UInt8) ∨ key.toList = ([124] : List UInt8)) → Ev (fun k => quoinlaw07_StepPlaces.j5 k t w e 0 (n : Int) true (p : Int) want count key f g kd) true := fun hk => P_j5 hl ⟨by omega, by omega⟩ (x_good hp h1 hk h)
    by_cases e1 : key.toList = ([104] : List UInt8)
    · rw [show (key.toList == ([104] : List UInt8)) = true from by simp [e1]]
      exact Ev.pos e1 (go (.inl e1))
    by_cases e2 : key.toList = ([108] : List UInt8)
    · rw [show (key.toList == ([108] : List UInt8)) = true from by simp [e2]]
      exact Ev.neg e1 (Ev.pos e2 (go (.inr (.inl e2))))
    by_cases e3 : key.toList = ([32] : List UInt8)
    · rw [show (key.toList == ([32] : List UInt8)) = true from by simp [e3]]
      exact Ev.neg e1 (Ev.neg e2 (Ev.pos e3 (go (.inr (.inr (.inl e3))))))
    by_cases e4 : key.toList = ([8] : List UInt8)
    · rw [show (key.toList == ([8] : List UInt8)) = true from by simp [e4]]
      exact Ev.neg e1 (Ev.neg e2 (Ev.neg e3 (Ev.pos e4 (go (.inr (.inr (.inr (.inl e4))))))))
    by_cases e5 : key.toList = ([48] : List UInt8)
    · rw [show (key.toList == ([48] : List UInt8)) = true from by simp [e5]]
      exact Ev.neg e1 (Ev.neg e2 (Ev.neg e3 (Ev.neg e4 (Ev.pos e5 (go (.inr (.inr (.inr (.inr (.inl e5))))))))))
    by_cases e6 : key.toList = ([94] : List UInt8)
    · rw [show (key.toList == ([94] : List UInt8)) = true from by simp [e6]]
      exact Ev.neg e1 (Ev.neg e2 (Ev.neg e3 (Ev.neg e4 (Ev.neg e5 (Ev.pos e6 (go (.inr (.inr (.inr (.inr (.inr (.inl e6))))))))))))
    refine Ev.neg e1 (Ev.neg e2 (Ev.neg e3 (Ev.neg e4 (Ev.neg e5 (Ev.neg e6 ?_)))))
    by_cases e7 : key.toList = ([124] : List UInt8)
    · rw [show (key.toList == ([124] : List UInt8)) = true from by simp [e7]]
      exact go (.inr (.inr (.inr (.inr (.inr (.inr e7))))))
    rw [show (key.toList == ([124] : List UInt8)) = false from by simp [e7]]
    have hM : moveN t p want n (decide (count > 0)) key = (0, 0, 0, 0, 2) := by simp [moveN, bytesV, linesV, k1, k2, k3, k4, k5, k6, k7, k8, k9, e1, e2, e3, e4, e5, e6, e7]
    rw [hM] at h
    simp only [Prod.mk.injEq] at h
    obtain ⟨rfl, rfl, rfl, rfl, rfl⟩ := h
    exact Ev.step (fun _ => quoinlaw07_StepPlaces.j5.eq_2 ..) (Ev.neg Bool.false_ne_true (Ev.pos rfl (Ev.pos (by decide) (Ev.const rfl))))
theorem P_j3 (k1 : key.toList ≠ ([106] : List UInt8)) (k2 : key.toList ≠ ([43] : List UInt8)) (k3 : key.toList ≠ ([13] : List UInt8)) (k4 : key.toList ≠ ([107] : List UInt8)) (k5 : key.toList ≠ ([45] : List UInt8)) (b : Bool) (hb : b = true ↔ (key.toList = ([95] : List UInt8) ∨ key.toList = ([36] : List UInt8))) :
    Ev (fun k => quoinlaw07_StepPlaces.j3 k t w e (cnt 10 (t.take p)) 0 (cnt 10 t) (n : Int) key b (p : Int) want count key f g kd) true := by
  have hcl := cnt_le 10 t
  have hc2 := cnt_mono (t := t) hp (Nat.le_refl _)
  rw [List.take_length] at hc2
  have hcn := cnt_nonneg 10 (t.take p)
  refine Ev.step (fun _ => quoinlaw07_StepPlaces.j3.eq_2 ..) ?_
  cases b with
  | true =>
    refine Ev.pos rfl ?_
    have hnw : wrap64 (wrap64 (cnt 10 (t.take p) + (n : Int)) - 1) = cnt 10 (t.take p) + (n : Int) - 1 := by
      rw [wrap64_id (n := cnt 10 (t.take p) + (n : Int)) (by omega) (by omega)]
      exact wrap64_id (by omega) (by omega)
    rw [hnw]
    clear hnw
    have hk : (false = true) ↔ (key.toList = ([106] : List UInt8) ∨ key.toList = ([107] : List UInt8)) := ⟨fun h => (by cases h), fun h => (h.elim k1 k4).elim⟩
    rcases hb.1 rfl with k | k
    · have hb : bytesV t p n (cnt 10 (t.take p)) key = (0, 0, 0, 0, 0, false) := by simp [bytesV, k]
      refine P_j6 hu hl (by omega) (dollar := false) ⟨fun h => (by cases h), fun h => by rw [k] at h; cases h⟩ hk (line_good hw hb (?_ : _ = lineV t p want (cnt 10 (t.take p) + (n : Int) - 1) false) h)
      rw [show cnt 10 (t.take p) + (n : Int) - 1 = cnt 10 (t.take p) + ((n : Int) - 1) from by omega]
      simp [linesV, k]
    · exact P_j6 hu hl (by omega) (dollar := true) ⟨fun _ => k, fun _ => rfl⟩ hk (end_good k h)
  | false =>
    refine Ev.neg Bool.false_ne_true ?_
    have k6 : key.toList ≠ ([95] : List UInt8) := fun k => by have := hb.2 (.inl k); cases this
    have k7 : key.toList ≠ ([36] : List UInt8) := fun k => by have := hb.2 (.inr k); cases this
    by_cases e1 : key.toList = ([71] : List UInt8)
    · exact Ev.pos e1 (P_j4 hu hl hp hw h1 hn hc hc0 h k1 k2 k3 k4 k5 k6 k7 _ (by simp [e1]))
    · exact Ev.neg e1 (P_j4 hu hl hp hw h1 hn hc hc0 h k1 k2 k3 k4 k5 k6 k7 _ (by simp [e1]))
theorem P_j2 (k1 : key.toList ≠ ([106] : List UInt8)) (k2 : key.toList ≠ ([43] : List UInt8)) (k3 : key.toList ≠ ([13] : List UInt8)) (b : Bool) (hb : b = true ↔ (key.toList = ([107] : List UInt8) ∨ key.toList = ([45] : List UInt8))) :
    Ev (fun k => quoinlaw07_StepPlaces.j2 k t w e (cnt 10 (t.take p)) 0 (cnt 10 t) (n : Int) key b (p : Int) want count key f g kd) true := by
  have hcl := cnt_le 10 t
  have hc2 := cnt_mono (t := t) hp (Nat.le_refl _)
  rw [List.take_length] at hc2
  have hcn := cnt_nonneg 10 (t.take p)
  refine Ev.step (fun _ => quoinlaw07_StepPlaces.j2.eq_2 ..) ?_
  cases b with
  | true =>
    refine Ev.pos rfl ?_
    have hnw : wrap64 (cnt 10 (t.take p) - (n : Int)) = cnt 10 (t.take p) - (n : Int) := wrap64_id (by omega) (by omega)
    rw [hnw]
    clear hnw
    rcases hb.1 rfl with k | k
    · have hb : bytesV t p n (cnt 10 (t.take p)) key = (0, 0, 0, 0, 0, false) := by simp [bytesV, k]
      refine P_j6 hu hl (by omega) (dollar := false) ⟨fun h => (by cases h), fun h => by rw [k] at h; cases h⟩ (jk := true) ⟨fun _ => .inr k, fun _ => rfl⟩ (line_good hw hb (?_ : _ = lineV t p want (cnt 10 (t.take p) - (n : Int)) true) h)
      simp [linesV, k]
    · have hb : bytesV t p n (cnt 10 (t.take p)) key = (0, 0, 0, 0, 0, false) := by simp [bytesV, k]
      refine P_j6 hu hl (by omega) (dollar := false) ⟨fun h => (by cases h), fun h => by rw [k] at h; cases h⟩ (jk := false) ⟨fun h => (by cases h), fun h => by rw [k] at h; rcases h with h | h <;> cases h⟩ (line_good hw hb (?_ : _ = lineV t p want (cnt 10 (t.take p) - (n : Int)) false) h)
      simp [linesV, k]
  | false =>
    refine Ev.neg Bool.false_ne_true ?_
    have k4 : key.toList ≠ ([107] : List UInt8) := fun k => by have := hb.2 (.inl k); cases this
    have k5 : key.toList ≠ ([45] : List UInt8) := fun k => by have := hb.2 (.inr k); cases this
    by_cases e1 : key.toList = ([95] : List UInt8)
    · exact Ev.pos e1 (P_j3 hu hl hp hw h1 hn hc hc0 h k1 k2 k3 k4 k5 _ (by simp [e1]))
    · exact Ev.neg e1 (P_j3 hu hl hp hw h1 hn hc hc0 h k1 k2 k3 k4 k5 _ (by simp [e1]))
theorem P_j1 (b : Bool) (hb : b = true ↔ (key.toList = ([106] : List UInt8) ∨ key.toList = ([43] : List UInt8) ∨ key.toList = ([13] : List UInt8))) :
    Ev (fun k => quoinlaw07_StepPlaces.j1 k t w e (cnt 10 (t.take p)) 0 (cnt 10 t) (n : Int) key b (p : Int) want count key f g kd) true := by
  have hcl := cnt_le 10 t
  have hc2 := cnt_mono (t := t) hp (Nat.le_refl _)
  rw [List.take_length] at hc2
  have hcn := cnt_nonneg 10 (t.take p)
  refine Ev.step (fun _ => quoinlaw07_StepPlaces.j1.eq_2 ..) ?_
  cases b with
  | true =>
    refine Ev.pos rfl ?_
    have hnw : wrap64 (cnt 10 (t.take p) + (n : Int)) = cnt 10 (t.take p) + (n : Int) := wrap64_id (by omega) (by omega)
    rw [hnw]
    clear hnw
    rcases hb.1 rfl with k | k | k
    · have hb : bytesV t p n (cnt 10 (t.take p)) key = (0, 0, 0, 0, 0, false) := by simp [bytesV, k]
      refine P_j6 hu hl (by omega) (dollar := false) ⟨fun h => (by cases h), fun h => by rw [k] at h; cases h⟩ (jk := true) ⟨fun _ => .inl k, fun _ => rfl⟩ (line_good hw hb (?_ : _ = lineV t p want (cnt 10 (t.take p) + (n : Int)) true) h)
      simp [linesV, k]
    · have hb : bytesV t p n (cnt 10 (t.take p)) key = (0, 0, 0, 0, 0, false) := by simp [bytesV, k]
      refine P_j6 hu hl (by omega) (dollar := false) ⟨fun h => (by cases h), fun h => by rw [k] at h; cases h⟩ (jk := false) ⟨fun h => (by cases h), fun h => by rw [k] at h; rcases h with h | h <;> cases h⟩ (line_good hw hb (?_ : _ = lineV t p want (cnt 10 (t.take p) + (n : Int)) false) h)
      simp [linesV, k]
    · have hb : bytesV t p n (cnt 10 (t.take p)) key = (0, 0, 0, 0, 0, false) := by simp [bytesV, k]
      refine P_j6 hu hl (by omega) (dollar := false) ⟨fun h => (by cases h), fun h => by rw [k] at h; cases h⟩ (jk := false) ⟨fun h => (by cases h), fun h => by rw [k] at h; rcases h with h | h <;> cases h⟩ (line_good hw hb (?_ : _ = lineV t p want (cnt 10 (t.take p) + (n : Int)) false) h)
      simp [linesV, k]
  | false =>
    refine Ev.neg Bool.false_ne_true ?_
    have k1 : key.toList ≠ ([106] : List UInt8) := fun k => by have := hb.2 (.inl k); cases this
    have k2 : key.toList ≠ ([43] : List UInt8) := fun k => by have := hb.2 (.inr (.inl k)); cases this
    have k3 : key.toList ≠ ([13] : List UInt8) := fun k => by have := hb.2 (.inr (.inr k)); cases this
    by_cases e1 : key.toList = ([107] : List UInt8)
    · exact Ev.pos e1 (P_j2 hu hl hp hw h1 hn hc hc0 h k1 k2 k3 _ (by simp [e1]))
    · exact Ev.neg e1 (P_j2 hu hl hp hw h1 hn hc hc0 h k1 k2 k3 _ (by simp [e1]))
theorem P_j0 : Ev (fun k => quoinlaw07_StepPlaces.j0 k t w e false (p : Int) want count key f g kd) true := by
  have hcl := cnt_le 10 t
  refine Ev.step (fun _ => quoinlaw07_StepPlaces.j0.eq_2 ..) (Ev.neg Bool.false_ne_true (Ev.cbind (Of_eq hu (p : Int)) (Ev.cbind (Count_eq hu hl) ?_)))
  have hnw : wrap64 (cnt 10 t + 1 - 1) = cnt 10 t := by rw [Int.add_sub_cancel]; exact wrap64_id (by have := cnt_nonneg 10 t; omega) (by omega)
  rw [hnw, if_pos ⟨by omega, by omega⟩, Int.toNat_natCast, mx_eq, ← hc]
  clear hnw
  have go := P_j1 hu hl hp hw h1 hn hc hc0 h
  by_cases e1 : key.toList = ([106] : List UInt8)
  · exact Ev.pos e1 (go _ (by simp [e1]))
  by_cases e2 : key.toList = ([43] : List UInt8)
  · exact Ev.neg e1 (Ev.pos e2 (go _ (by simp [e2])))
  · exact Ev.neg e1 (Ev.neg e2 (go _ (by simp [e1, e2])))
end
theorem StepPlaces : Say.StepPlaces := by
  intro t x o1 o2
  obtain ⟨a, want, count, key⟩ := x
  have hu := u8s_ok o1
  have hl : t.length ≤ 140737488355328 := by have := o1.1; omega
  refine Ev.rounds ?_
  show Ev (fun k => quoinlaw07_StepPlaces.f k t a want count key) true
  have hm := move_ev hu hl a want count key
  obtain ⟨f, g, kd, w, e, hr⟩ : ∃ f g kd w e, moveV t a want count key = (f, g, kd, w, e) := ⟨_, _, _, _, _, rfl⟩
  rw [hr] at hm
  refine Ev.bind awake_ev (Ev.pos rfl (Ev.bind hm ?_))
  have bad : ¬ ((0 ≤ a ∧ a ≤ t.length) ∧ ¬ want < -1 ∧ ¬ count < 0 ∧ ¬ count > 9999) → Ev (fun k => quoinlaw07_StepPlaces.j0 k t w e true a want count key f g kd) true := fun hb => by
    unfold moveV at hr
    rw [if_neg hb] at hr
    simp only [Prod.mk.injEq] at hr
    exact P_bad ⟨hr.1.symm, hr.2.1.symm, hr.2.2.1.symm, hr.2.2.2.1.symm, hr.2.2.2.2.symm⟩
  by_cases c1 : a < 0
  · exact Ev.pos c1 (bad (by omega))
  by_cases c2 : a > (t.length : Int)
  · exact Ev.neg c1 (Ev.pos c2 (bad (by omega)))
  by_cases c3 : want < -1
  · exact Ev.neg c1 (Ev.neg c2 (Ev.pos c3 (bad (by omega))))
  by_cases c4 : count < 0
  · exact Ev.neg c1 (Ev.neg c2 (Ev.neg c3 (Ev.pos c4 (bad (by omega)))))
  refine Ev.neg c1 (Ev.neg c2 (Ev.neg c3 (Ev.neg c4 ?_)))
  by_cases c5 : count > 9999
  · rw [decide_eq_true c5]; exact bad (by omega)
  rw [decide_eq_false c5]
  obtain ⟨p, rfl⟩ := Int.eq_ofNat_of_zero_le (show 0 ≤ a by omega)
  unfold moveV at hr
  rw [if_pos ⟨⟨by omega, by omega⟩, by omega, by omega, by omega⟩, Int.toNat_natCast] at hr
  exact P_j0 hu hl (by omega) (by omega) (by omega) (by omega) (by omega) (by omega) hr
end Go.Proofs.Ytofkcdnkbjpmmaa.Pure
end
section
namespace Go.Proofs.Ytofkcdnkbjpmmaa.stepPlaces
open Go.ChangeShapes Go.WideShapes Go.ChangeAt Go.RowKit Go.Proofs.YtofkcdnkbjpmmaaW.PrintWords Go.Proofs.Ytofkcdnkbjpmmaa.X Go.Proofs.Ytofkcdnkbjpmmaa.XO
open Go.ChangeMaps (open_string shut_string)
set_option linter.unusedVariables false
theorem own : ownKnob Try.prog.godebug = none := by kernel_rfl
theorem laidOut : laidOutB Try.prog = true := by kernel_rfl
theorem walk (A0 : Option Addr) (c0 : Nat) (l0 : List Int) (x1 : S27) (w : World) (hr0 : Kd.C (Kd.int .u8) w A0 l0.length l0) (hc0 : l0.length ≤ c0) (o0 : (okSl 1 okU8) l0) (o1 : okS27 x1) :
    Calls Try.prog 6 #[.slice A0 l0.length c0, .agg #[.int .i64 x1.f0, .int .i64 x1.f1, .int .i64 x1.f2, .string x1.f3]] w fun e w' => e = .returned (.bool true) ∧ Below w.heap.size w w' := by
  obtain ⟨k, h⟩ := Go.Proofs.Ytofkcdnkbjpmmaa.Pure.StepPlaces l0 x1 o0 o1
  refine (quoinlaw07_StepPlaces.calls k A0 c0 l0 x1.f0 x1.f1 x1.f2 x1.f3 true w hr0 hc0 h).mono ?_
  rintro e w' ⟨rfl, hd⟩
  exact ⟨rfl, hd⟩
theorem contract (H : Type) (enc : TypeId × Value → H) (W : World) (base : Nat) (args : Array Value) (ds gs : List (DataW H)) (before : List MemPlace)
    (hval0 : ∀ (j : Nat) t v, Try.f6.params[j]? = some t → args[j]? = some v → Value.okWide Try.prog W .any base t v)
    (hW : DataW.Whole enc Try.prog Try.f6.params.toList Rows.stepPlacesSpec.vars false W args.toList ds gs before)
    (hsz0 : (DataW.weightsEach Try.prog (Try.f6.params.toList ++ Rows.stepPlacesSpec.plain.varTypes Try.prog) (ds ++ gs)).all (· ≤ reachBytes) = true) :
    Calls Try.prog 6 args W fun e W' => ∃ v, e = .returned v ∧ Rows.stepPlacesSpec.post enc Try.prog Try.f6 false true false false W args v W' := by
  have hsz : (DataW.weightsEach Try.prog (Try.f6.params.toList ++ Rows.stepPlacesSpec.plain.varTypes Try.prog) (ds ++ gs)).all (· ≤ reachBytes) = true := hsz0
  have hval : ∀ (j : Nat) t v, Try.f6.params[j]? = some t → args[j]? = some v → Value.okWide Try.prog W .any base t v := hval0
  have hW' := hW
  obtain ⟨p, q, hA0, hV, rfl, hfz, hnd⟩ := hW
  have hA : DataW.TrodAll enc Try.prog W 0 (fun _ => true) true Try.f6.params.toList args.toList ds p := hA0
  rw [Try.params6] at hA hval hsz
  obtain ⟨v0, vs0, d0, ds0, p0, q0, hargs, rfl, rfl, h0, r0⟩ := trodAll_cons hA
  obtain ⟨v1, vs1, d1, ds1, p1, q1, rfl, rfl, rfl, h1, r1⟩ := trodAll_cons r0
  obtain ⟨rfl, rfl, rfl⟩ := trodAll_nil r1
  obtain rfl : args = #[v0, v1] := by cases args; simp_all
  obtain ⟨rfl, rfl⟩ := trodVars_none hV
  have k0 := h0
  have lt0 : ∀ x ∈ p0, x.block < W.heap.size := by obtain ⟨m, hm⟩ := k0; exact DataW.trod_lt m _ _ _ hm
  have wt0 := weightsEach_at (j := 0) (t := 22) (d := d0) rfl rfl hsz
  obtain ⟨fuel0, hf0⟩ := h0
  obtain ⟨l0, K0, o0, s0⟩ := (Opens.get (opens_sl (B := 1) Try.underlying22 (opens_u8 Try.underlying5) (by kernel_rfl) (by kernel_rfl)) hf0 wt0)
  obtain ⟨A0, n0, c0, rfl⟩ := okWide_slice Try.underlying22 (hval 0 22 v0 rfl rfl)
  obtain ⟨A'0, c'0, e0, hc0, hr0⟩ := K0
  obtain ⟨rfl, rfl, rfl⟩ : A0 = A'0 ∧ n0 = l0.length ∧ c0 = c'0 := by simpa [Value.cells] using e0
  have k1 := h1
  have lt1 : ∀ x ∈ p1, x.block < W.heap.size := by obtain ⟨m, hm⟩ := k1; exact DataW.trod_lt m _ _ _ hm
  have wt1 := weightsEach_at (j := 1) (t := 27) (d := d1) rfl rfl hsz
  obtain ⟨fuel1, hf1⟩ := h1
  obtain ⟨x1, K1, o1, s1⟩ := (Opens.get opens27 hf1 wt1)
  obtain ⟨cs1, rfl, _⟩ := okWide_struct Try.underlying27 (hval 1 27 v1 rfl rfl)
  have e1 := k27_open K1
  obtain ⟨cs1⟩ := cs1
  obtain rfl := (show cs1 = _ from e1)
  refine (walk A0 c0 l0 x1 W hr0 hc0 o0 o1).mono fun e W' ⟨he, bel⟩ => ?_
  subst he
  exact ⟨_, rfl, _, _, _, [], _, [], hW', trodAll_mk1 (shut_bool Try.underlying4 _), (trodAll_cons_mk (Below.trod laidOut (by kernel_rfl) (of_decide_eq_true (by kernel_rfl)) k0 bel lt0) (trodAll_cons_mk (Below.trod laidOut (by kernel_rfl) (of_decide_eq_true (by kernel_rfl)) k1 bel lt1) trodAll_mk0)), rfl, bel.frame _, fun h => by cases h⟩
set_option maxRecDepth 100000 in
theorem lifted (os : Os) (started : os.Started) (H : Type) (enc : TypeId × Value → H) :
    ReturnsInHanded {} Try.checked os 6 .any (Rows.stepPlacesSpec.pre6 enc Try.prog Try.f6 Rows.stepPlacesRow.domain false) (Rows.stepPlacesSpec.post enc Try.prog Try.f6 false true false false) := by
  refine returnsInHanded_of_change_sized (C := Try.checked) own started (by kernel_rfl) Try.func6
    (ChangeSpec.witness6 (enc := enc) (C := Try.checked) false ⟨#[], #[.slice none 0 0, .agg #[.int .i64 0, .int .i64 0, .int .i64 0, .string ByteArray.empty]], []⟩ 8 (by kernel_rfl) (by kernel_rfl) (by kernel_rfl) (by kernel_rfl)) ?_
  intro W base args ds gs before hval0 hW _ hsz0 _
  exact contract H enc W base args ds gs before hval0 hW hsz0
theorem proved : Rows.StepPlacesSaid :=
  OpenClaim.holds_of_wide 6 Try.f6 rfl rfl rfl rfl rfl rfl rfl ⟨rfl, rfl, rfl, rfl, rfl⟩ rfl rfl rfl rfl rfl (by kernel_rfl) Try.func6 (by kernel_rfl)
    (of_decide_eq_true (by kernel_rfl)) (by unfold Func.isWrapper; first | (rw [if_pos (by decide +kernel)]; kernel_rfl) | (rw [if_neg (by decide +kernel)]; exact ⟨rfl, rfl⟩))
    (fun os started H enc _ => lifted os started H enc)
#print axioms proved
end Go.Proofs.Ytofkcdnkbjpmmaa.stepPlaces
namespace Go.Proofs.Ytofkcdnkbjpmmaa
/-- The row, under a short name, for the claim. -/
theorem stepPlaces_holds : Rows.StepPlacesSaid := stepPlaces.proved
end Go.Proofs.Ytofkcdnkbjpmmaa
end
