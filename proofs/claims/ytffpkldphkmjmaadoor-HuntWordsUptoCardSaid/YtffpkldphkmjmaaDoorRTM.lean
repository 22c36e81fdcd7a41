/-
  Texts of one proof in one file (wip/some.py): HP0, PT13, PT14, RT0, RT1, RT2, RT3, RT4, RT5, HC0.
  Conditions: none.
-/
import Derived.Test.YtffpkldphkmjmaaDoorHTB
import Derived.Test.YtffpkldphkmjmaaDoorPT11
import Derived.Deep.WholeRow
import Derived.Deep.MidRow
import Derived.Laws.ResultCell
import Derived.Laws.CopyOwn
import Derived.Great.BuildSlice
import Derived.Test.YtffpkldphkmjmaaDoorXO
section
namespace Go.Proofs.YtffpkldphkmjmaaDoor.PT
open Go.RowKit Go.Proofs.YtffpkldphkmjmaaDoorW.PrintWords Go.Proofs.YtffpkldphkmjmaaDoorW.PrintMore
set_option linter.unusedVariables false
theorem last_ge {l : List Int} (h : l.Pairwise (· < ·)) (hne : l ≠ []) : ∀ x ∈ l, x ≤ rd l ((l.length : Int) - 1) := by
  intro x hx
  have h0 := List.length_pos_iff.2 hne
  obtain ⟨i, hi, rfl⟩ := List.mem_iff_getElem.1 hx
  have e : rd l ((l.length : Int) - 1) = l[l.length - 1] := by
    unfold rd
    rw [show ((l.length : Int) - 1).toNat = l.length - 1 from by omega, List.getD_eq_getElem?_getD, List.getElem?_eq_getElem (by omega)]
    rfl
  rw [e]
  rcases Nat.lt_or_ge i (l.length - 1) with hlt | hge
  · exact Int.le_of_lt ((List.pairwise_iff_getElem.1 h) i (l.length - 1) hi (by omega) hlt)
  · have : i = l.length - 1 := by omega
    subst this
    exact Int.le_refl _
theorem push_inc {acc : List Int} {x : Int} (h : acc.Pairwise (· < ·)) (hx : ∀ y ∈ acc, y ≤ x) : (push acc x).Pairwise (· < ·) ∧ ∀ y ∈ push acc x, y ≤ x := by
  unfold push
  split
  · rename_i hc
    refine ⟨List.pairwise_append.2 ⟨h, List.pairwise_singleton _ _, fun a ha b hb => ?_⟩, fun y hy => ?_⟩
    · rw [List.mem_singleton.1 hb]
      rcases hc with e | e
      · rw [e] at ha; cases ha
      · have h1 := hx a ha
        have hne : acc ≠ [] := fun e => by rw [e] at ha; cases ha
        have h2 := last_ge h hne a ha
        have h3 : rd acc ((acc.length : Int) - 1) ≤ x := hx _ (by
          unfold rd
          rw [show ((acc.length : Int) - 1).toNat = acc.length - 1 from by omega, List.getD_eq_getElem?_getD, List.getElem?_eq_getElem (by have := List.length_pos_iff.2 hne; omega)]
          exact List.getElem_mem _)
        omega
    · rcases List.mem_append.1 hy with e | e
      · exact hx y e
      · rw [List.mem_singleton.1 e]; exact Int.le_refl _
  · exact ⟨h, hx⟩
theorem restH_mono {n st a b : Nat} (hab : a ≤ b) (hb : b ≤ n) : restH n st a ≤ restH n st b := by
  unfold restH
  split <;> split <;> omega
theorem restH_le (n st a : Nat) (ha : a ≤ n) : restH n st a ≤ (st : Int) + n ∧ (st : Int) ≤ restH n st a := by
  unfold restH
  split <;> omega
theorem lineH_inc (line : List Int) (pl : List PTh) (st : Nat) : ∀ (d f : Nat) (acc : List Int), acc.Pairwise (· < ·) → (∀ x ∈ acc, ∀ a, f ≤ a → a ≤ line.length → x ≤ restH line.length st a) → (∀ x ∈ acc, 0 ≤ x ∧ x ≤ (st : Int) + line.length) →
    (lineH line pl st d f acc).Pairwise (· < ·) ∧ ∀ x ∈ lineH line pl st d f acc, 0 ≤ x ∧ x ≤ (st : Int) + line.length := by
  intro d
  induction d with
  | zero => intro f acc h1 h2 h3; exact ⟨h1, h3⟩
  | succ d ih =>
    intro f acc h1 h2 h3
    unfold lineH
    by_cases h : (findV line pl (f : Int)).2.2 = true
    · rw [if_pos h]
      obtain ⟨_, k1, k2, k3, _⟩ := (find_spec line pl f).1 h
      obtain ⟨a, ha⟩ : ∃ a : Nat, (findV line pl (f : Int)).1 = (a : Int) := ⟨(findV line pl (f : Int)).1.toNat, by omega⟩
      rw [ha, Int.toNat_natCast]
      obtain ⟨p1, p2⟩ := push_inc h1 (fun y hy => h2 y hy a (by omega) (by omega))
      refine ih _ _ p1 (fun x hx b hb1 hb2 => Int.le_trans (p2 x hx) (restH_mono (by omega) hb2)) (fun x hx => ?_)
      have hr := restH_le line.length st a (by omega)
      have hx2 := p2 x hx
      refine ⟨?_, by omega⟩
      unfold push at hx
      split at hx
      · rcases List.mem_append.1 hx with e | e
        · exact (h3 x e).1
        · rw [List.mem_singleton.1 e]; omega
      · exact (h3 x hx).1
    · rw [if_neg h]
      exact ⟨h1, h3⟩
theorem linesH_inc (pl : List PTh) : ∀ (ls : List (List Int)) (st : Nat) (acc : List Int), acc.Pairwise (· < ·) → (∀ x ∈ acc, 0 ≤ x ∧ x < (st : Int)) → (linesH pl ls st acc).Pairwise (· < ·) ∧ ∀ x ∈ linesH pl ls st acc, 0 ≤ x ∧ x < (st : Int) + tot ls := by
  intro ls
  induction ls with
  | nil => intro st acc h1 h2; exact ⟨h1, fun x hx => by have := h2 x hx; simp [tot]; omega⟩
  | cons l ls ih =>
    intro st acc h1 h2
    obtain ⟨p1, p2⟩ := lineH_inc l pl st (l.length + 2) 0 acc h1 (fun x hx a _ ha => by have := h2 x hx; have := (restH_le l.length st a ha).2; omega) (fun x hx => by have := h2 x hx; omega)
    obtain ⟨q1, q2⟩ := ih (st + l.length + 1) _ p1 (fun x hx => by have := p2 x hx; omega)
    refine ⟨q1, fun x hx => ?_⟩
    have := q2 x hx
    rw [tot_cons]
    omega
/-- The hits rise, and are places of the text. -/
theorem hits_inc (t : List Int) (pl : List PTh) : (hitsV t pl).Pairwise (· < ·) ∧ ∀ x ∈ hitsV t pl, 0 ≤ x ∧ x ≤ t.length := by
  obtain ⟨h1, h2⟩ := linesH_inc pl (X.splitR t) 0 [] List.Pairwise.nil (fun x hx => by cases hx)
  refine ⟨h1, fun x hx => ?_⟩
  have := h2 x hx
  rw [tot_split] at this
  omega
theorem inc_lt {l : List Int} (h : l.Pairwise (· < ·)) {i j : Nat} (hij : i < j) (hj : j < l.length) : rd l i < rd l j := by
  have e : ∀ k : Nat, ∀ hk : k < l.length, rd l (k : Int) = l[k] := fun k hk => by
    unfold rd
    rw [Int.toNat_natCast, List.getD_eq_getElem?_getD, List.getElem?_eq_getElem hk]
    rfl
  rw [e i (by omega), e j hj]
  exact (List.pairwise_iff_getElem.1 h) i j (by omega) hj hij
theorem inc_eq {l : List Int} (h : l.Pairwise (· < ·)) {i j : Nat} (hi : i < l.length) (hj : j < l.length) (e : rd l i = rd l j) : i = j := by
  rcases Nat.lt_trichotomy i j with h1 | h1 | h1
  · have := inc_lt h h1 hj; omega
  · exact h1
  · have := inc_lt h h1 hi; omega
theorem fI_spec (l : List Int) (p : Int) : ∀ d, d ≤ l.length → ((∀ j, l.length - d ≤ j → j < l.length → rd l (j : Nat) ≤ p) ∧ fI l p d = 0) ∨ (l.length - d ≤ fI l p d ∧ fI l p d < l.length ∧ rd l (fI l p d : Nat) > p ∧ ∀ j, l.length - d ≤ j → j < fI l p d → rd l (j : Nat) ≤ p) := by
  intro d
  induction d with
  | zero => intro _; exact .inl ⟨fun j h1 h2 => by omega, rfl⟩
  | succ d ih =>
    intro hd
    by_cases h : rd l ((l.length - (d + 1) : Nat) : Int) > p
    · have e : fI l p (d + 1) = l.length - (d + 1) := if_pos h
      rw [e]
      exact .inr ⟨Nat.le_refl _, by omega, h, fun j h1 h2 => by omega⟩
    · have e : fI l p (d + 1) = fI l p d := if_neg h
      rw [e]
      rcases ih (by omega) with ⟨h1, h2⟩ | ⟨h1, h2, h3, h4⟩
      · refine .inl ⟨fun j j1 j2 => ?_, h2⟩
        by_cases ej : j = l.length - (d + 1)
        · rw [ej]; omega
        · exact h1 j (by omega) j2
      · refine .inr ⟨by omega, h2, h3, fun j j1 j2 => ?_⟩
        by_cases ej : j = l.length - (d + 1)
        · rw [ej]; omega
        · exact h4 j (by omega) j2
theorem bI_spec (l : List Int) (p : Int) : ∀ k, k ≤ l.length → ((∀ j, j < k → p ≤ rd l (j : Nat)) ∧ bI l p k = l.length - 1) ∨ (bI l p k < k ∧ rd l (bI l p k : Nat) < p ∧ ∀ j, bI l p k < j → j < k → p ≤ rd l (j : Nat)) := by
  intro k
  induction k with
  | zero => intro _; exact .inl ⟨fun j h => by omega, rfl⟩
  | succ k ih =>
    intro hk
    by_cases h : rd l (k : Int) < p
    · have e : bI l p (k + 1) = k := if_pos h
      rw [e]
      exact .inr ⟨by omega, h, fun j h1 h2 => by omega⟩
    · have e : bI l p (k + 1) = bI l p k := if_neg h
      rw [e]
      rcases ih (by omega) with ⟨h1, h2⟩ | ⟨h1, h2, h3⟩
      · refine .inl ⟨fun j j1 => ?_, h2⟩
        by_cases ej : j = k
        · rw [ej]; omega
        · exact h1 j (by omega)
      · refine .inr ⟨by omega, h2, fun j j1 j2 => ?_⟩
        by_cases ej : j = k
        · rw [ej]; omega
        · exact h3 j j1 (by omega)
/-- From a hit on. -/
theorem fI_hit {l : List Int} (h : l.Pairwise (· < ·)) {k : Nat} (hk : k < l.length) : fI l (rd l k) l.length = if k + 1 < l.length then k + 1 else 0 := by
  have hs := fI_spec l (rd l k) l.length (Nat.le_refl _)
  rw [Nat.sub_self] at hs
  generalize fI l (rd l k) l.length = i at hs
  by_cases h1 : k + 1 < l.length
  · rw [if_pos h1]
    have h2 := inc_lt h (show k < k + 1 by omega) h1
    rcases hs with ⟨h3, h4⟩ | ⟨_, h4, h5, h6⟩
    · have := h3 (k + 1) (by omega) h1; omega
    · rcases Nat.lt_trichotomy i (k + 1) with h7 | h7 | h7
      · rcases Nat.lt_or_ge i k with h8 | h8
        · have := inc_lt h h8 hk; omega
        · have : i = k := by omega
          subst this; omega
      · exact h7
      · have := h6 (k + 1) (by omega) h7; omega
  · rw [if_neg h1]
    rcases hs with ⟨h3, h4⟩ | ⟨_, h4, h5, h6⟩
    · exact h4
    · rcases Nat.lt_or_ge i k with h8 | h8
      · have := inc_lt h h8 hk; omega
      · have : i = k := by omega
        subst this; omega
theorem bI_hit {l : List Int} (h : l.Pairwise (· < ·)) {k : Nat} (hk : k < l.length) : bI l (rd l k) l.length = if 0 < k then k - 1 else l.length - 1 := by
  have hs := bI_spec l (rd l k) l.length (Nat.le_refl _)
  generalize bI l (rd l k) l.length = i at hs
  by_cases h1 : 0 < k
  · rw [if_pos h1]
    have h2 := inc_lt h (show k - 1 < k by omega) hk
    rcases hs with ⟨h3, h4⟩ | ⟨h4, h5, h6⟩
    · have := h3 (k - 1) (by omega); omega
    · rcases Nat.lt_trichotomy i (k - 1) with h7 | h7 | h7
      · have := h6 (k - 1) h7 (by omega); omega
      · exact h7
      · rcases Nat.lt_or_ge k i with h8 | h8
        · have := inc_lt h h8 h4; omega
        · have : i = k := by omega
          subst this; omega
  · rw [if_neg h1]
    rcases hs with ⟨h3, h4⟩ | ⟨h4, h5, h6⟩
    · exact h4
    · rcases Nat.lt_or_ge k i with h8 | h8
      · have := inc_lt h h8 h4; omega
      · have : i = k := by omega
        subst this; omega
theorem mod_two {x m : Nat} (h : x < 2 * m) : x % m = if x < m then x else x - m := by
  by_cases hx : x < m
  · rw [if_pos hx, Nat.mod_eq_of_lt hx]
  · rw [if_neg hx, Nat.mod_eq_sub_mod (by omega), Nat.mod_eq_of_lt (by omega)]
/-- Which hit Next picks. -/
def pickI (l : List Int) (p count : Int) (back : Bool) : Nat := ((if back = true then bI l p l.length else fI l p l.length) + moreV l.length count back) % l.length
theorem pickV_rd (l : List Int) (p count : Int) (back : Bool) : pickV l p count back = rd l (pickI l p count back : Nat) := rfl
theorem pickI_lt {l : List Int} (h : l ≠ []) (p count : Int) (back : Bool) : pickI l p count back < l.length := Nat.mod_lt _ (List.length_pos_iff.2 h)
theorem more_pos {m : Nat} {c : Nat} (hc : 1 ≤ c) (back : Bool) : moreV m (c : Int) back = if back = true then m - (c - 1) % m else (c - 1) % m := by
  unfold moreV
  rw [show (max (c : Int) 1).toNat - 1 = c - 1 from by omega]
/-- A whole round more changes nothing. -/
theorem pick_round {l : List Int} (h : l ≠ []) (p : Int) {c : Nat} (hc : 1 ≤ c) (back : Bool) : pickI l p ((c : Int) + l.length) back = pickI l p c back := by
  have h0 := List.length_pos_iff.2 h
  unfold pickI
  rw [show ((c : Int) + l.length) = ((c + l.length : Nat) : Int) from by omega, more_pos hc, more_pos (show 1 ≤ c + l.length by omega)]
  rw [show c + l.length - 1 = (c - 1) + l.length from by omega, Nat.add_mod_right]
/-- From a hit, so many on. -/
theorem pick_on {l : List Int} (h : l.Pairwise (· < ·)) {k c : Nat} (hk : k < l.length) (hc : 1 ≤ c) : pickI l (rd l k) c false = ((if k + 1 < l.length then k + 1 else 0) + (c - 1) % l.length) % l.length := by
  unfold pickI
  rw [if_neg (show ¬ (false = true) by simp), fI_hit h hk, more_pos hc, if_neg (show ¬ (false = true) by simp)]
theorem pick_off {l : List Int} (h : l.Pairwise (· < ·)) {k c : Nat} (hk : k < l.length) (hc : 1 ≤ c) : pickI l (rd l k) c true = ((if 0 < k then k - 1 else l.length - 1) + (l.length - (c - 1) % l.length)) % l.length := by
  unfold pickI
  rw [if_pos rfl, bI_hit h hk, more_pos hc, if_pos rfl]
theorem pick_one {l : List Int} (h : l.Pairwise (· < ·)) {k : Nat} (hk : k < l.length) : pickI l (rd l k) 1 false = if k + 1 < l.length then k + 1 else 0 := by
  have e := pick_on h hk (c := 1) (Nat.le_refl _)
  rw [show (((1 : Nat) : Int)) = (1 : Int) from rfl] at e
  rw [e, Nat.sub_self, Nat.zero_mod, Nat.add_zero]
  split <;> exact Nat.mod_eq_of_lt (by omega)
/-- There and back again. -/
theorem pick_back {l : List Int} (h : l.Pairwise (· < ·)) {k c : Nat} (hk : k < l.length) (hc : 1 ≤ c) (back : Bool) : pickI l (rd l (pickI l (rd l k) c back : Nat)) c (!back) = k := by
  have hq := Nat.mod_lt (c - 1) (show 0 < l.length by omega)
  have hne : l ≠ [] := fun e => by rw [e] at hk; cases hk
  have hj := pickI_lt hne (rd l k) c back
  cases back with
  | false =>
    rw [show (!false) = true from rfl, pick_off h hj hc]
    rw [pick_on h hk hc] at hj ⊢
    generalize (c - 1) % l.length = q at hq hj ⊢
    rw [mod_two (x := (if k + 1 < l.length then k + 1 else 0) + q) (by split <;> omega)] at hj ⊢
    rw [mod_two (by split <;> split <;> split <;> omega)]
    split <;> split <;> split <;> split <;> omega
  | true =>
    rw [show (!true) = false from rfl, pick_on h hj hc]
    rw [pick_off h hk hc] at hj ⊢
    generalize (c - 1) % l.length = q at hq hj ⊢
    rw [mod_two (x := (if 0 < k then k - 1 else l.length - 1) + (l.length - q)) (by split <;> omega)] at hj ⊢
    rw [mod_two (by split <;> split <;> split <;> omega)]
    split <;> split <;> split <;> split <;> omega
end Go.Proofs.YtffpkldphkmjmaaDoor.PT
end
section
namespace Go.Proofs.YtffpkldphkmjmaaDoor.PT
open Go.RowKit Go.Proofs.YtffpkldphkmjmaaDoorW.PrintWords Go.Proofs.YtffpkldphkmjmaaDoorW.PrintMore
set_option linter.unusedVariables false
/-- A pair of whole numbers: two cells. -/
def kP : Kd (Int × Int) := Kd.pair (Kd.int .i64) (Kd.int .i64)
/-- The matches from a place on. -/
def allE (E : List Int) : Nat → Int → List (Int × Int)
  | 0, _ => []
  | d + 1, from_ => if (firstV E (E.length + 2) from_).2 = true then ((firstV E (E.length + 2) from_).1, rd E (firstV E (E.length + 2) from_).1) :: allE E d (max (rd E (firstV E (E.length + 2) from_).1) ((firstV E (E.length + 2) from_).1 + 1)) else []
/-- What All comes to. -/
def allV (line : List Int) (l : List PTh) : List (Int × Int) := allE (endsV line l) (line.length + 2) 0
theorem kP_M (w : World) (base : Nat) (ok : Nat → Prop) (a b : Int) : kP.M w base ok (a, b) [.int .i64 a, .int .i64 b] := ⟨[_], [_], rfl, rfl, rfl⟩
theorem infoP : (Tryd.prog.info? 52).map (fun i => (i.zero, i.size, i.bytes)) = some (some (.agg #[.int .i64 0, .int .i64 0]), 2, 16) := by kernel_rfl
theorem allE_step (E : List Int) (d : Nat) (k : Int) : allE E (d + 1) k = if (firstV E (E.length + 2) k).2 = true then ((firstV E (E.length + 2) k).1, rd E (firstV E (E.length + 2) k).1) :: allE E d (max (rd E (firstV E (E.length + 2) k).1) ((firstV E (E.length + 2) k).1 + 1)) else [] := rfl
set_option maxHeartbeats 2000000 in
set_option maxRecDepth 100000 in
theorem all_calls {w : World} {A : Option Addr} {c : Nat} {line : List Int} {v : Value} {base : Nat} {pl : List PTh} (hr : Kd.C (Kd.int .u8) w A line.length line) (hu : ∀ i, 0 ≤ rd line i ∧ rd line i ≤ 255)
    (hn : line.length ≤ 1048576) (hc : line.length ≤ c) (hp : PatO w base v (some pl)) :
    Calls Tryd.prog 19 #[v, .slice A line.length c] w fun e w' => ∃ v, e = .returned v ∧ Below w.heap.size w w' ∧ kP.R 52 w' w.heap.size (fun _ => True) v (allV line pl) := by
  obtain ⟨b, A1, c1, l, rfl, hb, BK, HO, HS, hl, rfl⟩ := hp
  have HK : kTh.C w A1 l.length l := (Kd.R_reads' HO).2.2
  have HE := Aside0.mk (ends_calls hr hu (by omega) BK HK HS hl hc)
  have hl2 := endsV_len line (l.map den)
  have hF := Aside0.mk (endsV_fine line (l.map den))
  clear HO HS HK BK hb hr hu
  have HV := Aside0.mk (show allV line (l.map den) = allE (endsV line (l.map den)) (line.length + 2) 0 from rfl)
  generalize allV line (l.map den) = out at HV
  generalize endsV line (l.map den) = E at HE hl2 hF HV
  have HF : Aside0 (∀ (w' : World) (q : Int), 0 ≤ q → w'.heap[w.heap.size + 1]? = some (.cells (iv E) 3 (0, 0)) → Calls Tryd.prog 34 #[.slice (some ⟨w.heap.size + 1, 0, none⟩) (line.length + 1) (line.length + 1), .int .i64 q] w' fun e w'' => e = .returned (.tuple #[.int .i64 (firstV E (E.length + 2) q).1, .bool (firstV E (E.length + 2) q).2]) ∧ Drawn0 w' w'') := ⟨fun w' q h0 h => by
    have h2 := first_plain h (by omega) q h0
    rw [hl2] at h2 ⊢
    exact h2⟩
  have HL := Aside0.mk hl2
  clear hl2
  go_enter Tryd.func19, Tryd.ntmps19
  go_wp2_with (go_at_call 33; refine HE.out.mono ?_; rintro e w' ⟨rfl, hx⟩; have HX := Aside0.mk hx; clear hx)
  clear HE
  go_loopw [6, 7] (fun v6 v7 wl => ∃ (k d : Nat) (acc : List (Int × Int)), k ≤ line.length + 1 ∧ line.length + 1 < k + d ∧ v7 = .int .i64 k ∧ acc.length ≤ k ∧ Aside0 (Below w.heap.size w wl ∧ wl.heap[w.heap.size + 1]? = some (.cells (iv E) 3 (0, 0)) ∧ kP.R 52 wl w.heap.size (fun _ => True) v6 acc ∧ acc ++ allE E d k = out)) (fun _ v7 _ => line.length + 1 - (intOf v7).toNat)
  case atStart => exact ⟨0, line.length + 2, [], by omega, by omega, rfl, by simp, ⟨HX.out.1, HX.out.2, Kd.R_nil _ _ _ _ _, HV.out.symm⟩⟩
  case round =>
    obtain ⟨k, d, acc, hk, hd, rfl, hal, HA⟩ := hrel
    clear HX HV
    obtain ⟨d, rfl⟩ : ∃ d', d = d' + 1 := ⟨d - 1, by omega⟩
    have HQ := Aside0.mk (HF.out wr k (by omega) HA.out.2.1)
    have HC := Aside0.mk (allE_step E d k)
    have hsp := first_spec E (E.length + 2) k (by omega) (by omega)
    generalize firstV E (E.length + 2) (k : Int) = r at HQ HC hsp
    obtain ⟨r1, r2⟩ := r
    simp only at hsp HQ HC
    cases r2 with
    | false =>
      have HZ := Aside0.mk (show acc = out from by have h := HA.out.2.2.2; rw [HC.out] at h; simpa using h)
      clear HC hsp
      go_wp2_with (go_at_call 34; refine HQ.out.mono ?_; rintro e w'' ⟨rfl, ⟨nd, rfl⟩⟩)
      exact bodyPost_ret (v := u6) (by simp [results, Tryd.results19, go_sem]) rfl ⟨u6, rfl, pw_below_drewN HA.out.1 nd, by rw [← HZ.out]; exact Kd.R_drewN HA.out.2.2.1 nd⟩
    | true =>
      obtain ⟨h1, h2, h3, _⟩ := hsp.1 rfl
      clear hsp
      obtain ⟨j, rfl⟩ : ∃ j : Nat, r1 = (j : Int) := ⟨r1.toNat, by omega⟩
      have hEl := HL.out
      have hfj := hF.out.2 j (by omega)
      have hj : j < line.length + 1 := by omega
      have ce : wr.cell? ⟨w.heap.size + 1, j, none⟩ = some (.int .i64 (rd E (j : Int))) := (blk_cell HA.out.2.1 j).trans (iv_get (by omega))
      have HC' := Aside0.mk (show acc ++ [((j : Int), rd E (j : Int))] ++ allE E d (max (rd E (j : Int)) ((j : Int) + 1)) = out from by have h := HA.out.2.2.2; rw [HC.out] at h; simpa using h)
      clear HC hEl
      obtain ⟨m, hm⟩ : ∃ m : Nat, rd E (j : Int) = (m : Int) := ⟨(rd E (j : Int)).toNat, by omega⟩
      have hm1 : (j : Int) ≤ m := by omega
      have hm2 : m ≤ line.length := by omega
      have hkj : k ≤ j := by omega
      rw [hm] at ce HC'
      have HM := Aside0.mk hm
      clear hfj h1 h2 h3 hm
      obtain ⟨A6, c6, e6⟩ := Kd.R_slice HA.out.2.2.1
      subst e6
      have q1 : (0 ≤ (j : Int)) = True := eq_true (by omega)
      have q2 : ((j : Int) < (line.length : Int) + 1) = True := eq_true (by omega)
      go_wp2_with (first
        | (go_at_call 34; refine HQ.out.mono ?_; rintro e w'' ⟨rfl, ⟨nd, rfl⟩⟩)
        | (at_builtin; refine Kd.R_append kP (w0 := w) w.heap.size rfl (.tmp 24) (.tmp 31) 49 52 (.agg #[.int .i64 0, .int .i64 0]) 16 rfl Tryd.underlying49 infoP rfl (by decide) (by omega) (.slice A6 acc.length c6) acc ((j : Int), (m : Int)) [.int .i64 j, .int .i64 m] (fun _ => True) (fun _ => False) rfl rfl (kP_M _ _ _ _ _) (fun _ hk => hk.elim) (fun _ _ => trivial) (Kd.R_drewN HA.out.2.2.1 nd) (pw_below_drewN HA.out.1 nd) HA.out.1.size (by omega) ?_; intro v1 w1 hR hB hG hat; have BE := blk_grown (blk_drewN HA.out.2.1 nd) hG (Kd.R_ne (Kd.R_drewN HA.out.2.2.1 nd) (blk_drewN HA.out.2.1 nd) (by decide)); have cf := (blk_cell BE j).trans (iv_get (show j < E.length by have := HL.out; omega)); rw [HM.out] at cf; have HG := Aside0.mk (And.intro hB (And.intro BE hR)); clear hR hB hG hat BE))
      go_roundw
      case rel => exact ⟨max m (j + 1), d, _, by omega, by omega, by congr 1; omega, by simp only [List.length_append, List.length_singleton]; omega, ⟨HG.out.1, HG.out.2.1, HG.out.2.2, by rw [show ((max m (j + 1) : Nat) : Int) = max (m : Int) ((j : Int) + 1) from by omega]; exact HC'.out⟩⟩
      case measure => simp [intOf]; omega
end Go.Proofs.YtffpkldphkmjmaaDoor.PT
end
section
namespace Go.Proofs.YtffpkldphkmjmaaDoor.PT
open Go.RowKit Go.Proofs.YtffpkldphkmjmaaDoorW.PrintWords Go.Proofs.YtffpkldphkmjmaaDoorW.PrintMore
set_option linter.unusedVariables false
/-- '==' of two whole numbers, of two pairs. -/
theorem eqi (d : Nat) (a c : Int) (w : World) : (Op.equalIn (d + 1) 3 (.int .i64 a) (.int .i64 c)).run Tryd.prog w = .ok (a == c) w := by
  simp only [Op.equalIn, Sem.run_bind, run_underlying Tryd.underlying3, Result.andThen_ok]
  simp
theorem eq2 (a b c e : Int) (w : World) : (Op.equalIn 10000 52 (.agg #[.int .i64 a, .int .i64 b]) (.agg #[.int .i64 c, .int .i64 e])).run Tryd.prog w = .ok ((a == c) && (b == e)) w := by
  rw [show (10000 : Nat) = 9999 + 1 from rfl, Op.equalIn]
  simp only [Sem.run_bind, run_underlying Tryd.underlying52, Result.andThen_ok]
  have hs : (sizeOf 3).run Tryd.prog w = .ok 1 w := by kernel_rfl
  have p0 : ∀ x y : Int, (part 3 #[.int .i64 x, .int .i64 y] 0).run Tryd.prog w = .ok (.int .i64 x) w := fun x y => by kernel_rfl
  have p1 : ∀ x y : Int, (part 3 #[.int .i64 x, .int .i64 y] 1).run Tryd.prog w = .ok (.int .i64 y) w := fun x y => by kernel_rfl
  simp only [hs, Result.andThen_ok]
  rw [Std.Legacy.Range.forIn_eq_forIn_range']
  simp only [Std.Legacy.Range.size, List.range'_succ, List.range'_zero, List.forIn_cons, List.forIn_nil, Nat.sub_zero, Nat.div_one, Nat.reduceAdd, Nat.reduceSub, Nat.mul_one, Sem.run_bind, p0, Result.andThen_ok, eqi 9998 a c]
  by_cases h1 : a = c <;> by_cases h2 : b = e <;> simp [h1, h2, p1, eqi 9998]
theorem kP_at {w : World} {A : Option Addr} {n : Nat} {xs : List (Int × Int)} (h : kP.C w A n xs) {i : Nat} (hi : i < n) : ∃ ad, A = some ad ∧ w.cell? (ad.add (i * 2)) = some (.int .i64 (xs.getD i (0, 0)).1) ∧ w.cell? ⟨(ad.add (i * 2)).block, (ad.add (i * 2)).off + 1, none⟩ = some (.int .i64 (xs.getD i (0, 0)).2) := by
  obtain ⟨ad, c, rfl, hc, hk, hcc⟩ := Kd.C_get h (0, 0) (i : Int) (by omega) (by omega)
  obtain ⟨c0, c1, rfl, e0, e1⟩ := hk
  rw [show c0 = [.int .i64 (xs.getD (i : Int).toNat (0, 0)).1] from e0, show c1 = [.int .i64 (xs.getD (i : Int).toNat (0, 0)).2] from e1] at hcc
  rw [Int.toNat_natCast] at hcc
  refine ⟨ad, rfl, hcc 0 _ rfl, ?_⟩
  rw [← add_field _ _ 1 (by omega)]
  exact hcc 1 _ rfl
/-- All, a step. -/
theorem all_step {line : List Int} {pl : List PTh} {d k : Nat} (hk : k ≤ line.length + 1) :
    (allE (endsV line pl) (d + 1) k = [] ∧ findV line pl k = (0, 0, false)) ∨
    ∃ a b : Nat, allE (endsV line pl) (d + 1) k = ((a : Int), (b : Int)) :: allE (endsV line pl) d ((max b (a + 1) : Nat) : Int) ∧ findV line pl k = ((a : Int), (b : Int), true) ∧ k ≤ a ∧ a ≤ b ∧ b ≤ line.length := by
  have hf := endsV_fine line pl
  have hl := endsV_len line pl
  rw [allE_step]
  unfold findV
  generalize endsV line pl = E at hf hl ⊢
  have hs := first_spec E (E.length + 2) k (by omega) (by omega)
  by_cases h : (k : Int) > line.length
  · rw [if_pos (show (k : Int) < 0 ∨ (k : Int) > line.length from .inr h)]
    generalize firstV E (E.length + 2) (k : Int) = r at hs ⊢
    obtain ⟨r1, r2⟩ := r
    cases r2 with
    | false => exact .inl ⟨if_neg (by simp), rfl⟩
    | true =>
      have := hs.1 rfl
      simp only at this
      omega
  · rw [if_neg (show ¬ ((k : Int) < 0 ∨ (k : Int) > line.length) by omega)]
    rw [show line.length + 1 + 2 = E.length + 2 from by omega]
    generalize firstV E (E.length + 2) (k : Int) = r at hs ⊢
    obtain ⟨r1, r2⟩ := r
    cases r2 with
    | false => exact .inl ⟨if_neg (by simp), if_neg (by simp)⟩
    | true =>
      obtain ⟨h1, h2, h3, h4⟩ := hs.1 rfl
      simp only at h1 h2 h3 h4 ⊢
      obtain ⟨a, rfl⟩ : ∃ a : Nat, r1 = (a : Int) := ⟨r1.toNat, by omega⟩
      have h5 := hf.2 a (by omega)
      obtain ⟨b, hb⟩ : ∃ b : Nat, rd E (a : Int) = (b : Int) := ⟨(rd E (a : Int)).toNat, by omega⟩
      rw [hb] at h5 ⊢
      refine .inr ⟨a, b, ?_, if_pos trivial, by omega, by omega, by omega⟩
      rw [if_pos trivial, show ((max b (a + 1) : Nat) : Int) = max (b : Int) ((a : Int) + 1) from by omega]
theorem all_len {line : List Int} {pl : List PTh} : ∀ (d k : Nat), k ≤ line.length + 1 → (allE (endsV line pl) d k).length + k ≤ line.length + 1 := by
  intro d
  induction d with
  | zero => intro k hk; simpa [allE] using hk
  | succ d ih =>
    intro k hk
    rcases all_step (line := line) (pl := pl) (d := d) hk with ⟨h, _⟩ | ⟨a, b, h, _, h1, h2, h3⟩
    · rw [h]; simpa using hk
    · rw [h]
      have h4 := ih (max b (a + 1)) (by omega)
      simp only [List.length_cons]
      omega
/-- What stands at place i of All's answer, and what Find tells there. -/
theorem all_at {line : List Int} {pl : List PTh} {d k i : Nat} {l : List (Int × Int)} (h : l.drop i = allE (endsV line pl) d k) (hk : k ≤ line.length + 1) (hd : line.length + 1 < k + d) (hi : i < l.length) :
    ∃ a b : Nat, l.getD i (0, 0) = ((a : Int), (b : Int)) ∧ findV line pl k = ((a : Int), (b : Int), true) ∧ k ≤ a ∧ a ≤ b ∧ b ≤ line.length ∧ l.drop (i + 1) = allE (endsV line pl) (d - 1) ((max b (a + 1) : Nat) : Int) := by
  obtain ⟨d, rfl⟩ : ∃ d', d = d' + 1 := ⟨d - 1, by omega⟩
  rw [List.drop_eq_getElem_cons hi] at h
  rcases all_step (line := line) (pl := pl) (d := d) hk with ⟨e, _⟩ | ⟨a, b, e, e2, h1, h2, h3⟩
  · rw [e] at h; cases h
  · rw [e] at h
    injection h with h4 h5
    refine ⟨a, b, ?_, e2, h1, h2, h3, h5⟩
    rw [List.getD_eq_getElem?_getD, List.getElem?_eq_getElem hi]
    exact h4
theorem all_end {line : List Int} {pl : List PTh} {d k i : Nat} {l : List (Int × Int)} (h : l.drop i = allE (endsV line pl) d k) (hk : k ≤ line.length + 1) (hd : line.length + 1 < k + d) (hi : l.length ≤ i) : findV line pl k = (0, 0, false) := by
  obtain ⟨d, rfl⟩ : ∃ d', d = d' + 1 := ⟨d - 1, by omega⟩
  rw [List.drop_eq_nil_of_le hi] at h
  rcases all_step (line := line) (pl := pl) (d := d) hk with ⟨_, e⟩ | ⟨a, b, e, e2, h1, h2, h3⟩
  · exact e
  · rw [e] at h; cases h
end Go.Proofs.YtffpkldphkmjmaaDoor.PT
end
section
namespace Go.Proofs.YtffpkldphkmjmaaDoor.PT
open Go.RowKit Go.Proofs.YtffpkldphkmjmaaDoorW.PrintWords Go.Proofs.YtffpkldphkmjmaaDoorW.PrintMore
set_option linter.unusedVariables false
theorem bset_one (S : Nat → Bool) : ∀ v ∈ (bset S).toList, v.oneCell' = true := by
  intro v hv
  simp only [bset, List.mem_map] at hv
  obtain ⟨i, _, rfl⟩ := hv
  rfl
theorem bset_all (S : Nat → Bool) : (bset S).all (·.oneCell') = true := Array.all_eq_true_iff_forall_mem.2 (fun v hv => bset_one S v (by simpa using hv))
theorem zset' (w : World) : (zeroValue 101).run Tryd.prog w = .ok (.agg (bset fun _ => false)) w := by kernel_rfl
theorem szset : (Tryd.prog.info? 101).map (·.size) = some 256 := by kernel_rfl
theorem szset' (S : Nat → Bool) : (Tryd.prog.info? 101).map (·.size) = some (bset S).size := by rw [bset_size]; exact szset
/-- A set out of its block. -/
theorem ld_set {w : World} {g : Nat} {S : Nat → Bool} (h : w.heap[g]? = some (.cells (bset S) 101 (0, 0))) : (Instr.loadAt 101 (.pointer (some ⟨g, 0, none⟩))).run Tryd.prog w = .ok (.agg (bset S)) w := by
  simp only [Instr.loadAt, Instr.sureAddr, Sem.run_bind, Sem.run_pure, Result.andThen]
  exact run_loadVar_row w g _ _ _ _ _ h Tryd.underlying101 rfl (szset' S)
/-- A set into its block. -/
theorem st_set {w : World} {g : Nat} {S S' : Nat → Bool} (h : w.heap[g]? = some (.cells (bset S) 101 (0, 0))) : (Instr.storeAt 101 (.pointer (some ⟨g, 0, none⟩)) (.agg (bset S'))).run Tryd.prog w = .ok () (w.setRow g (bset S')) := by
  simp only [Instr.storeAt, Instr.sureAddr, Sem.run_bind, Sem.run_pure, Result.andThen]
  exact run_storeVar_row w g _ _ _ _ h (szset' S') (by rw [bset_size, bset_size]) (bset_all S')
theorem row_blk {w : World} {g t : Nat} {cs cs' : Array Value} (h : w.heap[g]? = some (.cells cs t (0, 0))) : (w.setRow g cs').heap[g]? = some (.cells cs' t (0, 0)) := setRow_heap w g cs cs' t (0, 0) h
theorem row_far {w : World} {g k : Nat} {o : Obj} (h : w.heap[k]? = some o) (hk : k ≠ g) (cs : Array Value) : (w.setRow g cs).heap[k]? = some o := (setRow_other w g k cs hk).trans h
theorem res_cell {fn : Func} {p : Tmp} {ty : TypeId} (h : fn.results = #[.cell p ty]) (tmps : Array Value) (P : Program) (w : World) :
    (results fn tmps).run P w = ((asAddr (tmps.getD p undef)).run P w).andThen fun a w₁ => (loadVar ty a).run P w₁ := by
  simp only [results, h]
  simp [Sem.run_bind, Result.andThen]
theorem res_cell3 {fn : Func} {p u v : Tmp} {ty : TypeId} (h : fn.results = #[.cell p ty, .tmp u, .tmp v]) (tmps : Array Value) (P : Program) (w : World) :
    (results fn tmps).run P w = ((asAddr (tmps.getD p undef)).run P w).andThen fun a w₁ => ((loadVar ty a).run P w₁).andThen fun x w₂ => .ok (.tuple #[x, tmps.getD u undef, tmps.getD v undef]) w₂ := by
  simp only [results, h]
  simp [Sem.run_bind, Result.andThen]
theorem ldv_set {w : World} {g : Nat} {S : Nat → Bool} (h : w.heap[g]? = some (.cells (bset S) 101 (0, 0))) : (loadVar 101 ⟨g, 0, none⟩).run Tryd.prog w = .ok (.agg (bset S)) w :=
  run_loadVar_row w g _ _ _ _ _ h Tryd.underlying101 rfl (szset' S)
theorem res3_of {fn : Func} {p u v : Tmp} (h : fn.results = #[.cell p 101, .tmp u, .tmp v]) {tmps : Array Value} {w : World} {g : Nat} {S : Nat → Bool} {x y : Value} (hp : tmps.getD p undef = .pointer (some ⟨g, 0, none⟩)) (hu : tmps.getD u undef = x) (hv : tmps.getD v undef = y)
    (hb : w.heap[g]? = some (.cells (bset S) 101 (0, 0))) : (results fn tmps).run Tryd.prog w = .ok (.tuple #[.agg (bset S), x, y]) w := by
  rw [res_cell3 h, hp, hu, hv, show (asAddr (.pointer (some ⟨g, 0, none⟩))).run Tryd.prog w = .ok ⟨g, 0, none⟩ w from rfl, Result.andThen_ok, ldv_set hb, Result.andThen_ok]
set_option maxHeartbeats 1000000 in
set_option maxRecDepth 100000 in
theorem rone_calls (b : Int) (hb : 0 ≤ b ∧ b ≤ 255) (w : World) :
    Calls Tryd.prog 62 #[.int .u8 b] w fun e w' => e = .returned (.agg (bset fun j => j == b.toNat)) ∧ Below w.heap.size w w' := by
  go_enter Tryd.func62, Tryd.ntmps62
  have z := zset'
  have hg := bset_get (S := fun _ => false) (i := b.toNat) (by omega)
  go_upto_region 2 with (fail)
  have B1 : ((w.alloc (Obj.cells (bset fun x => false) 101)).alloc (Obj.cells (bset fun x => false) 101)).heap[w.heap.size]? = some (.cells (bset fun x => false) 101 (0, 0)) := blk_alloc (blk_new w _) _
  have B2 : ((w.alloc (Obj.cells (bset fun x => false) 101)).alloc (Obj.cells (bset fun x => false) 101)).heap[w.heap.size + 1]? = some (.cells (bset fun x => false) 101 (0, 0)) := by simpa using blk_new (w.alloc (Obj.cells (bset fun x => false) 101)) (Obj.cells (bset fun x => false) 101)
  have BB : Below w.heap.size w ((w.alloc (Obj.cells (bset fun x => false) 101)).alloc (Obj.cells (bset fun x => false) 101)) := below_alloc (below_alloc (Below.refl _ _) _) _
  generalize ((w.alloc (Obj.cells (bset fun x => false) 101)).alloc (Obj.cells (bset fun x => false) 101)) = W at B1 B2 BB ⊢
  have cb := (blk_cell B2 b.toNat).trans hg
  have fb := blk_frozen B2 b.toNat
  have B3 := blk_put B2 b.toNat (.bool true) rfl
  have B4 := blk_far B1 (p := ⟨w.heap.size + 1, b.toNat, none⟩) (by simp) (.bool true)
  rw [bset_set] at B3
  have BB2 : Below w.heap.size w (W.setCell ⟨w.heap.size + 1, b.toNat, none⟩ (.bool true)) := below_set BB (by omega)
  have H := Aside0.mk (And.intro B3 (And.intro B4 BB2))
  clear B1 B2 B3 B4 BB BB2 z hg
  go_wp2_with (first
    | ((with_reducible refine gate_ (.load 101 (.tmp 3)) rfl ?_); refine wpList_load_row rfl 101 (.tmp 3) rfl (w.heap.size + 1) rfl _ _ _ _ H.out.1 Tryd.underlying101 rfl (szset' _) ?_)
    | ((with_reducible refine gate_ (.store 101 (.tmp 2) (.tmp 6)) rfl ?_); refine wpList_store_row rfl 101 (.tmp 2) (.tmp 6) rfl w.heap.size (bset fun j => if j = b.toNat then true else false) rfl rfl _ _ H.out.2.1 (szset' _) (by rw [bset_size, bset_size]) (bset_all _) ?_))
  refine bodyPost_ret (v := .agg (bset fun j => if j = b.toNat then true else false)) ?_ rfl ⟨?_, below_setRow H.out.2.2 (Nat.le_refl _) _⟩
  · rw [res_cell rfl]
    simp only [go_sem, asAddr]
    exact ldv_set (row_blk H.out.2.1)
  · rw [show (fun j => j == b.toNat) = (fun j => if j = b.toNat then true else false) from funext fun j => by by_cases e : j = b.toNat <;> simp [e]]
set_option maxHeartbeats 1000000 in
set_option maxRecDepth 100000 in
theorem rall_calls (w : World) :
    Calls Tryd.prog 63 #[] w fun e w' => e = .returned (.agg (bset fun j => decide (j < 256))) ∧ Below w.heap.size w w' := by
  go_enter Tryd.func63, Tryd.ntmps63
  have z := zset'
  go_upto_region 2 with (fail)
  have B1 : ((w.alloc (Obj.cells (bset fun x => false) 101)).alloc (Obj.cells (bset fun x => false) 101)).heap[w.heap.size]? = some (.cells (bset fun x => false) 101 (0, 0)) := blk_alloc (blk_new w _) _
  have B2 : ((w.alloc (Obj.cells (bset fun x => false) 101)).alloc (Obj.cells (bset fun x => false) 101)).heap[w.heap.size + 1]? = some (.cells (bset fun x => false) 101 (0, 0)) := by simpa using blk_new (w.alloc (Obj.cells (bset fun x => false) 101)) (Obj.cells (bset fun x => false) 101)
  have BB : Below w.heap.size w ((w.alloc (Obj.cells (bset fun x => false) 101)).alloc (Obj.cells (bset fun x => false) 101)) := below_alloc (below_alloc (Below.refl _ _) _) _
  generalize ((w.alloc (Obj.cells (bset fun x => false) 101)).alloc (Obj.cells (bset fun x => false) 101)) = W at B1 B2 BB ⊢
  have H := Aside0.mk (And.intro B1 (And.intro B2 BB))
  clear B1 B2 BB z
  go_wp2
  go_loopw [2] (fun i wr => ∃ k : Nat, k ≤ 256 ∧ i = .int .i64 k ∧ Aside0 (wr.heap[w.heap.size]? = some (.cells (bset fun x => false) 101 (0, 0)) ∧ wr.heap[w.heap.size + 1]? = some (.cells (bset fun j => decide (j < k)) 101 (0, 0)) ∧ Below w.heap.size w wr)) (fun i _ => 256 - (intOf i).toNat)
  case atStart => exact ⟨0, by omega, rfl, ⟨by simpa using H.out⟩⟩
  case round =>
    obtain ⟨k, hk, rfl, hw⟩ := hrel
    clear H
    by_cases hlt : k < 256
    · have ck := (blk_cell hw.out.2.1 k).trans (bset_get (S := fun j => decide (j < k)) (i := k) hlt)
      have fk := blk_frozen hw.out.2.1 k
      go_wp2
      go_roundw
      case rel =>
        refine ⟨k + 1, by omega, by go_num, ⟨blk_far hw.out.1 (by simp) _, ?_, below_set hw.out.2.2 (by omega)⟩⟩
        have B3 := blk_put hw.out.2.1 k (.bool true) rfl
        rw [bset_set] at B3
        rw [show (fun j => decide (j < k + 1)) = (fun j => if j = k then true else decide (j < k)) from funext fun j => by by_cases e : j = k <;> simp [e]; omega]
        exact B3
      case measure => simp [intOf]; omega
    · obtain rfl : k = 256 := by omega
      go_wp2_with (first
        | ((with_reducible refine gate_ (.load 101 (.tmp 1)) rfl ?_); refine wpList_load_row rfl 101 (.tmp 1) rfl (w.heap.size + 1) rfl _ _ _ _ hw.out.2.1 Tryd.underlying101 rfl (szset' _) ?_)
        | ((with_reducible refine gate_ (.store 101 (.tmp 0) (.tmp 9)) rfl ?_); refine wpList_store_row rfl 101 (.tmp 0) (.tmp 9) rfl w.heap.size (bset fun j => decide (j < 256)) rfl rfl _ _ hw.out.1 (szset' _) (by rw [bset_size, bset_size]) (bset_all _) ?_))
      refine bodyPost_ret (v := .agg (bset fun j => decide (j < 256))) ?_ rfl ⟨rfl, below_setRow hw.out.2.2 (Nat.le_refl _) _⟩
      rw [res_cell rfl]
      simp only [go_sem, asAddr]
      exact ldv_set (row_blk hw.out.1)
end Go.Proofs.YtffpkldphkmjmaaDoor.PT
end
section
namespace Go.Proofs.YtffpkldphkmjmaaDoor.PT
open Go.RowKit Go.Proofs.YtffpkldphkmjmaaDoorW.PrintWords Go.Proofs.YtffpkldphkmjmaaDoorW.PrintMore
set_option linter.unusedVariables false
/-- The result's cell and the set at work. -/
def RS (w : World) (S : Nat → Bool) (wl : World) : Prop := wl.heap[w.heap.size]? = some (.cells (bset fun _ => false) 101 (0, 0)) ∧ wl.heap[w.heap.size + 1]? = some (.cells (bset S) 101 (0, 0)) ∧ Below w.heap.size w wl
theorem RS.drew {w wl : World} {S : Nat → Bool} (h : RS w S wl) (n : Nat) : RS w S (wl.drewN n) := ⟨blk_drewN h.1 n, blk_drewN h.2.1 n, pw_below_drewN h.2.2 n⟩
theorem RS.put {w wl : World} {S : Nat → Bool} (h : RS w S wl) (k : Nat) (x : Bool) : RS w (fun j => if j = k then x else S j) (wl.setCell ⟨w.heap.size + 1, k, none⟩ (.bool x)) := by
  have B3 := blk_put h.2.1 k (.bool x) rfl
  rw [bset_set] at B3
  exact ⟨blk_far h.1 (by simp) _, B3, below_set h.2.2 (by omega)⟩
theorem RS.congr {w wl : World} {S S' : Nat → Bool} (h : RS w S wl) (e : ∀ j, j < 256 → S j = S' j) : RS w S' wl := ⟨h.1, by rw [← bset_congr e]; exact h.2.1, h.2.2⟩
theorem RS.byte {w wl : World} {S : Nat → Bool} (h : RS w S wl) {A : Option Addr} {p : List Int} (hr : Kd.C (Kd.int .u8) w A p.length p) {i : Nat} (h1 : i < p.length) : ∃ ad, A = some ad ∧ wl.cell? (ad.add i) = some (.int .u8 (rd p (i : Int))) := by
  obtain ⟨ad, e, hc⟩ := Kd.at_int hr (i : Int) (by omega) (by omega)
  rw [Int.toNat_natCast] at hc
  exact ⟨ad, e, (h.2.2.cell (World.block_lt_of_cell? w _ hc)).trans hc⟩
theorem RS.start (w : World) : RS w (fun _ => false) ((w.alloc (Obj.cells (bset fun x => false) 101)).alloc (Obj.cells (bset fun x => false) 101)) :=
  ⟨blk_alloc (blk_new w _) _, by simpa using blk_new (w.alloc (Obj.cells (bset fun x => false) 101)) (Obj.cells (bset fun x => false) 101), below_alloc (below_alloc (Below.refl _ _) _) _⟩
/-- Is a span written here? -/
def rngB (p : List Int) (b : Nat) : Bool := decide (b + 2 < p.length) && (rd p ((b : Int) + 1) == 45 && rd p ((b : Int) + 2) != 93)
theorem brkL_end {p : List Int} {d b : Nat} {tu : Int} {f : Bool} {S : Nat → Bool} (h : p.length ≤ b) : brkL p (d + 1) b tu f S = (false, b, tu, S) := by
  unfold brkL; rw [if_pos h]
theorem brkL_shut {p : List Int} {d b : Nat} {tu : Int} {f : Bool} {S : Nat → Bool} (h : b < p.length) (h2 : rd p b = 93 ∧ f = false) : brkL p (d + 1) b tu f S = (true, b + 1, tu, S) := by
  unfold brkL; rw [if_neg (by omega), if_pos h2]
theorem brkL_more {p : List Int} {d b : Nat} {tu : Int} {f : Bool} {S : Nat → Bool} (h : b < p.length) (h2 : ¬ (rd p b = 93 ∧ f = false)) (h3 : rngB p b = true) : brkL p (d + 1) b tu f S = brkL p d (b + 3) (if rd p ((b : Int) + 2) < rd p b ∧ tu < 0 then (b : Int) else tu) false (rng S (rd p b) (rd p ((b : Int) + 2))) := by
  unfold rngB at h3
  rw [Bool.and_eq_true, Bool.and_eq_true, decide_eq_true_iff, beq_iff_eq, bne_iff_ne] at h3
  conv => lhs; unfold brkL
  rw [if_neg (by omega), if_neg h2, if_pos h3]
theorem brkL_one {p : List Int} {d b : Nat} {tu : Int} {f : Bool} {S : Nat → Bool} (h : b < p.length) (h2 : ¬ (rd p b = 93 ∧ f = false)) (h3 : rngB p b = false) : brkL p (d + 1) b tu f S = brkL p d (b + 1) tu false (rng S (rd p b) (rd p b)) := by
  conv => lhs; unfold brkL
  rw [if_neg (by omega), if_neg h2, if_neg]
  rintro ⟨h4, h5, h6⟩
  unfold rngB at h3
  rw [decide_eq_true h4, h5] at h3
  simp at h3
  exact h6 h3
set_option maxHeartbeats 2000000 in
set_option maxRecDepth 100000 in
theorem rset_calls {w : World} {A : Option Addr} {c : Nat} {p : List Int} {a : Nat} (hr : Kd.C (Kd.int .u8) w A p.length p) (ha : 1 ≤ a ∧ a ≤ p.length) (hp : p.length ≤ 256) (hu : ∀ i, 0 ≤ rd p i ∧ rd p i ≤ 255) :
    Calls Tryd.prog 64 #[.slice A p.length c, .int .i64 a] w fun e w' => e = .returned (.tuple #[.agg (bset (brkV p a (-1)).1), .int .i64 (brkV p a (-1)).2.1, .int .i64 (brkV p a (-1)).2.2]) ∧ Below w.heap.size w w' := by
  go_enter Tryd.func64, Tryd.ntmps64
  have z := zset'
  go_upto_region 3 with (fail)
  have H := Aside0.mk (RS.start w)
  generalize ((w.alloc (Obj.cells (bset fun x => false) 101)).alloc (Obj.cells (bset fun x => false) 101)) = W at H ⊢
  clear z
  go_cut [9] (fun v9 wc => v9 = .bool (brkN p a) ∧ Aside0 (RS w (fun _ => false) wc))
  case first => as_aux_lemma =>
    by_cases lt : a < p.length
    · obtain ⟨ad, rfl, hb⟩ := H.out.byte hr lt
      have q0 : decide ((a : Int) < (p.length : Int)) = true := decide_eq_true (by omega)
      have q1 : (0 ≤ (a : Int)) = True := eq_true (by omega)
      have q2 : ((a : Int) < (p.length : Int)) = True := eq_true (by omega)
      by_cases e94 : rd p a = 94
      · have HN := Aside0.mk (show brkN p a = true by unfold brkN; rw [decide_eq_true lt, e94]; rfl)
        rw [e94] at hb
        clear e94
        go_wp2
        go_meet
        case rel => exact ⟨by rw [HN.out], H⟩
      · have HN := Aside0.mk (show brkN p a = false by unfold brkN; rw [decide_eq_true lt]; simpa using e94)
        have e94b : (rd p a == 94) = false := beq_eq_false_iff_ne.mpr e94
        clear e94
        go_wp2
        go_meet
        case rel => exact ⟨by rw [HN.out], H⟩
    · have HN := Aside0.mk (show brkN p a = false by unfold brkN; rw [decide_eq_false lt]; rfl)
      have q0 : decide ((a : Int) < (p.length : Int)) = false := decide_eq_false (by omega)
      go_wp2
      go_meet
      case rel => exact ⟨by rw [HN.out], H⟩
  case rest => as_aux_lemma =>
    obtain ⟨rfl, HR⟩ := hcut
    clear H
    generalize hN : brkN p a = N
    have HN := Aside0.mk hN
    clear hN
    go_upto_if 29 with (fail)
    go_cut [1] (fun v1 wc => v1 = .int .i64 ((if N = true then a + 1 else a : Nat) : Int) ∧ Aside0 (RS w (fun _ => false) wc))
    case first => as_aux_lemma =>
      cases N with
      | true =>
        go_wp2
        go_meet
        case rel => exact ⟨rfl, HR⟩
      | false =>
        go_wp2
        go_meet
        case rel => exact ⟨rfl, HR⟩
    case rest => as_aux_lemma =>
      obtain ⟨rfl, HQ⟩ := hcut
      clear HR
      obtain ⟨a2, ha2, hle, hge⟩ : ∃ a2 : Nat, Aside0 ((if N = true then a + 1 else a : Nat) = a2) ∧ a2 ≤ p.length ∧ 1 ≤ a2 := by
        refine ⟨_, ⟨rfl⟩, ?_⟩
        cases N with
        | true =>
          have h1 := HN.out
          unfold brkN at h1
          rw [Bool.and_eq_true, decide_eq_true_iff] at h1
          rw [if_pos rfl]
          omega
        | false => rw [if_neg (by decide)]; omega
      rw [ha2.out]
      have HV := Aside0.mk (show brkR p a = brkL p (p.length + 1) a2 (-1) true (fun _ => false) by unfold brkR; rw [HN.out, ha2.out])
      clear ha2
      go_wp2
      go_loopg [1, 11] (p.length + 1) (fun g v1 v11 wr => ∃ (b : Nat) (tu : Int) (S : Nat → Bool), v1 = .int .i64 b ∧ v11 = .int .i64 tu ∧ a2 ≤ b ∧ b ≤ p.length ∧ p.length < b + g ∧ -1 ≤ tu ∧ tu ≤ 256 ∧
        Aside0 (RS w S wr ∧ brkR p a = brkL p g b tu (decide (b = a2)) S))
      case atStart => exact ⟨a2, -1, fun _ => false, rfl, rfl, Nat.le_refl _, hle, by omega, by omega, by omega, ⟨HQ.out, by rw [decide_eq_true rfl]; exact HV.out⟩⟩
      case round =>
        obtain ⟨b, tu, S, rfl, rfl, hb0, hb1, hb2, ht1, ht2, HA⟩ := hrel
        clear HQ HV
        obtain ⟨d, rfl⟩ : ∃ d, gk = d + 1 := ⟨gk - 1, by omega⟩
        by_cases lt : b < p.length
        · obtain ⟨ad, rfl, hbyte⟩ := HA.out.1.byte hr lt
          have q0 : decide ((b : Int) < (p.length : Int)) = true := decide_eq_true (by omega)
          have q1 : (0 ≤ (b : Int)) = True := eq_true (by omega)
          have q2 : ((b : Int) < (p.length : Int)) = True := eq_true (by omega)
          by_cases hcl : rd p (b : Int) = 93 ∧ decide (b = a2) = false
          · obtain ⟨h93, hne⟩ := hcl
            have HE := Aside0.mk (show brkR p a = (true, b + 1, tu, S) by rw [HA.out.2]; exact brkL_shut lt ⟨h93, hne⟩)
            have hne2 : ((b : Int) == (a2 : Int)) = false := beq_eq_false_iff_ne.mpr (by have := of_decide_eq_false hne; omega)
            rw [h93] at hbyte
            clear h93 hne
            have q3 : decide ((p.length : Int) ≤ (b : Int)) = false := decide_eq_false (by omega)
            cases N with
            | true =>
              go_wp2
              have HB := Aside0.mk HA.out.1
              clear hbyte HA
              go_loopw [16] (fun v wl => ∃ k : Nat, k ≤ 256 ∧ v = .int .i64 k ∧ Aside0 (RS w (fun j => if j < k then !S j else S j) wl)) (fun v _ => 256 - (intOf v).toNat)
              case atStart => exact ⟨0, by omega, rfl, ⟨HB.out.congr (fun j _ => by simp)⟩⟩
              case round =>
                obtain ⟨k, hk, rfl, HL⟩ := hrel
                clear HB
                by_cases hlt : k < 256
                · have ck : wr.cell? ⟨w.heap.size + 1, k, none⟩ = some (.bool (S k)) := by
                    have h_ := bset_get (S := fun j => if j < k then !S j else S j) hlt
                    rw [if_neg (Nat.lt_irrefl k)] at h_
                    exact (blk_cell HL.out.2.1 k).trans h_
                  have fk := blk_frozen HL.out.2.1 k
                  go_wp2
                  go_roundw
                  case rel =>
                    refine ⟨k + 1, by omega, by go_num, ⟨(HL.out.put k (!S k)).congr (fun j _ => ?_)⟩⟩
                    by_cases e : j = k <;> by_cases e2 : j < k <;> by_cases e3 : j < k + 1 <;> first | omega | simp [e, e2, e3]
                  case measure => simp [intOf]; omega
                · obtain rfl : k = 256 := by omega
                  go_wp2_with (first
                    | ((with_reducible refine gate_ (.load 101 (.tmp 7)) rfl ?_); refine wpList_load_row rfl 101 (.tmp 7) rfl (w.heap.size + 1) rfl _ _ _ _ HL.out.2.1 Tryd.underlying101 rfl (szset' _) ?_)
                    | ((with_reducible refine gate_ (.store 101 (.tmp 4) (.tmp 124)) rfl ?_); refine wpList_store_row rfl 101 (.tmp 4) (.tmp 124) rfl w.heap.size (bset fun j => if j < 256 then !S j else S j) rfl rfl _ _ HL.out.1 (szset' _) (by rw [bset_size, bset_size]) (bset_all _) ?_))
                  refine bodyPost_ret (v := .tuple #[.agg (bset fun j => if j < 256 then !S j else S j), .int .i64 ((b : Int) + 1), .int .i64 tu]) ?_ rfl ⟨?_, below_setRow HL.out.2.2 (Nat.le_refl _) _⟩
                  · exact res3_of rfl rfl rfl rfl (row_blk HL.out.1)
                  · rw [brkV_close HE.out, HN.out, if_pos rfl, show (if tu ≥ 0 then tu else -1) = tu from by split <;> omega, bset_congr (S := fun j => if j < 256 then !S j else S j) (S' := fun j => decide (j < 256) && !S j) (fun j hj => by simp [hj])]
                    rfl
            | false =>
              go_wp2_with (first
                | ((with_reducible refine gate_ (.load 101 (.tmp 7)) rfl ?_); refine wpList_load_row rfl 101 (.tmp 7) rfl (w.heap.size + 1) rfl _ _ _ _ HA.out.1.2.1 Tryd.underlying101 rfl (szset' _) ?_)
                | ((with_reducible refine gate_ (.store 101 (.tmp 4) (.tmp 124)) rfl ?_); refine wpList_store_row rfl 101 (.tmp 4) (.tmp 124) rfl w.heap.size (bset S) rfl rfl _ _ HA.out.1.1 (szset' _) (by rw [bset_size, bset_size]) (bset_all _) ?_))
              refine bodyPost_ret (v := .tuple #[.agg (bset S), .int .i64 ((b : Int) + 1), .int .i64 tu]) ?_ rfl ⟨?_, below_setRow HA.out.1.2.2 (Nat.le_refl _) _⟩
              · exact res3_of rfl rfl rfl rfl (row_blk HA.out.1.1)
              · rw [brkV_close HE.out, HN.out, if_neg Bool.false_ne_true, show (if tu ≥ 0 then tu else -1) = tu from by split <;> omega]
                rfl
          · have HX := Aside0.mk hcl
            have hu1 := hu (b : Int)
            have HE := Aside0.mk HA.out.2
            have HB := Aside0.mk HA.out.1
            clear HA
            generalize hx : rd p (b : Int) = x at hbyte HX hu1
            have HXX := Aside0.mk hx
            clear hx hcl
            go_upto_region 8 with (fail)
            go_cut [48] (fun v48 wc => v48 = .bool true ∧ wc = wr)
            case first => as_aux_lemma =>
              by_cases e93 : x = 93
              · have hf : b = a2 := by
                  by_cases hf : b = a2
                  · exact hf
                  · exact absurd ⟨e93, decide_eq_false hf⟩ HX.out
                subst hf
                subst e93
                go_wp2
                go_meet
                case rel => exact ⟨rfl, rfl⟩
              · have e93b : (x != 93) = true := bne_iff_ne.mpr e93
                have E3 := Aside0.mk e93
                clear e93
                go_wp2
                go_meet
                case rel => exact ⟨rfl, rfl⟩
            case rest => as_aux_lemma =>
              obtain ⟨rfl, rfl⟩ := hcut
              go_wp2
              go_quiet (fail)
              have HB2 := Aside0.mk (HB.out.drew nq)
              clear HB hbyte
              generalize wc.drewN nq = W2 at HB2 ⊢
              go_upto_region 11 with (fail)
              go_cut [79] (fun v79 wc => v79 = .bool (rngB p b) ∧ wc = W2)
              case first => as_aux_lemma =>
                by_cases l2 : b + 2 < p.length
                · obtain ⟨ad1, hA1, hb1⟩ := HB2.out.byte hr (i := b + 1) (by omega)
                  obtain ⟨ad2, hA2, hb2⟩ := HB2.out.byte hr (i := b + 2) (by omega)
                  injection hA1 with hA1
                  injection hA2 with hA2
                  subst hA1
                  subst hA2
                  have l2b : decide ((b : Int) + 2 < (p.length : Int)) = true := decide_eq_true (by omega)
                  have q1 : (0 ≤ (b : Int) + 1) = True := eq_true (by omega)
                  have q2 : ((b : Int) + 1 < (p.length : Int)) = True := eq_true (by omega)
                  have q3 : (0 ≤ (b : Int) + 2) = True := eq_true (by omega)
                  have q4 : ((b : Int) + 2 < (p.length : Int)) = True := eq_true (by omega)
                  have t1 : ((b : Int) + 1).toNat = b + 1 := by omega
                  have t2 : ((b : Int) + 2).toNat = b + 2 := by omega
                  rw [add_far, show ((b + 1 : Nat) : Int) = (b : Int) + 1 from by omega] at hb1
                  rw [add_far, show ((b + 2 : Nat) : Int) = (b : Int) + 2 from by omega] at hb2
                  have HR := Aside0.mk (show rngB p b = (rd p ((b : Int) + 1) == 45 && rd p ((b : Int) + 2) != 93) by unfold rngB; rw [decide_eq_true l2, Bool.true_and])
                  clear l2
                  generalize rd p ((b : Int) + 1) = y1 at hb1 HR
                  generalize rd p ((b : Int) + 2) = y2 at hb2 HR
                  by_cases e1 : y1 = 45
                  · subst e1
                    by_cases e2 : y2 = 93
                    · subst e2
                      go_wp2
                      go_meet
                      case rel => exact ⟨by rw [HR.out]; rfl, rfl⟩
                    · have e2b : (y2 != 93) = true := bne_iff_ne.mpr e2
                      have E2 := Aside0.mk e2b
                      clear e2
                      go_wp2
                      go_meet
                      case rel => exact ⟨by rw [HR.out, E2.out]; rfl, rfl⟩
                  · have e1b : (y1 == 45) = false := beq_eq_false_iff_ne.mpr e1
                    have E1 := Aside0.mk e1b
                    clear e1
                    go_wp2
                    go_meet
                    case rel => exact ⟨by rw [HR.out, E1.out]; rfl, rfl⟩
                · have l2b : decide ((b : Int) + 2 < (p.length : Int)) = false := decide_eq_false (by omega)
                  have HL := Aside0.mk l2
                  clear l2
                  go_wp2
                  go_meet
                  case rel => exact ⟨by unfold rngB; rw [decide_eq_false HL.out]; rfl, rfl⟩
              case rest => as_aux_lemma =>
                obtain ⟨rfl, rfl⟩ := hcut
                generalize hR : rngB p b = R
                have HR := Aside0.mk hR
                clear hR
                go_upto_if 79 with (fail)
                go_cut [13, 14] (fun v13 v14 wc => ∃ (e : Nat) (y : Int), v13 = .int .i64 y ∧ v14 = .int .i64 ((e : Int) + 1) ∧ 0 ≤ y ∧ y ≤ 255 ∧ b + e + 1 ≤ p.length ∧ e ≤ 2 ∧ Aside0 (RS w S wc ∧ brkR p a = brkL p d (b + e + 1) (if y < x ∧ tu < 0 then (b : Int) else tu) false (rng S x y)))
                case first => as_aux_lemma =>
                  cases R with
                  | false =>
                    have HE2 := Aside0.mk (show brkR p a = brkL p d (b + 0 + 1) (if x < x ∧ tu < 0 then (b : Int) else tu) false (rng S x x) by
                      rw [HE.out, brkL_one lt (by rw [HXX.out]; exact HX.out) HR.out, HXX.out, if_neg (by omega)])
                    go_wp2
                    go_meet
                    case rel => exact ⟨0, x, rfl, rfl, hu1.1, hu1.2, by omega, by omega, ⟨HB2.out, HE2.out⟩⟩
                  | true =>
                    have l2 : b + 2 < p.length := by
                      have h := HR.out
                      unfold rngB at h
                      rw [Bool.and_eq_true, decide_eq_true_iff] at h
                      exact h.1
                    obtain ⟨ad2, hA2, hb2⟩ := HB2.out.byte hr (i := b + 2) (by omega)
                    injection hA2 with hA2
                    subst hA2
                    have hu2 := hu ((b : Int) + 2)
                    have HE2 := Aside0.mk (show brkR p a = brkL p d (b + 2 + 1) (if rd p ((b : Int) + 2) < x ∧ tu < 0 then (b : Int) else tu) false (rng S x (rd p ((b : Int) + 2))) by
                      rw [HE.out, brkL_more lt (by rw [HXX.out]; exact HX.out) HR.out, HXX.out])
                    have q3 : (0 ≤ (b : Int) + 2) = True := eq_true (by omega)
                    have q4 : ((b : Int) + 2 < (p.length : Int)) = True := eq_true (by omega)
                    have t2 : ((b : Int) + 2).toNat = b + 2 := by omega
                    have HL2 := Aside0.mk l2
                    clear l2
                    rw [add_far, show ((b + 2 : Nat) : Int) = (b : Int) + 2 from by omega] at hb2
                    generalize rd p ((b : Int) + 2) = y2 at hb2 hu2 HE2
                    go_wp2
                    go_meet
                    case rel => exact ⟨2, y2, rfl, rfl, hu2.1, hu2.2, by have := HL2.out; omega, by omega, ⟨HB2.out, HE2.out⟩⟩
                case rest => as_aux_lemma =>
                  obtain ⟨e, y, rfl, rfl, hy0, hy1, hbe, he2, HB3⟩ := hcut
                  clear HB2 HR HE HX HXX
                  go_upto_region 14 with (fail)
                  go_cut [92] (fun v92 wd => v92 = .bool (decide (y < x) && decide (tu < 0)) ∧ wd = wc)
                  case first => as_aux_lemma =>
                    by_cases h1 : y < x
                    · by_cases h2 : tu < 0
                      · have d1 : decide (y < x) = true := decide_eq_true h1
                        have d2 : decide (tu < 0) = true := decide_eq_true h2
                        have D1 := Aside0.mk (And.intro d1 d2)
                        clear h1 h2
                        go_wp2
                        go_meet
                        case rel => exact ⟨by rw [D1.out.1, D1.out.2]; rfl, rfl⟩
                      · have d1 : decide (y < x) = true := decide_eq_true h1
                        have d2 : decide (tu < 0) = false := decide_eq_false h2
                        have D1 := Aside0.mk (And.intro d1 d2)
                        clear h1 h2
                        go_wp2
                        go_meet
                        case rel => exact ⟨by rw [D1.out.1, D1.out.2]; rfl, rfl⟩
                    · have d1 : decide (y < x) = false := decide_eq_false h1
                      have D1 := Aside0.mk d1
                      clear h1
                      go_wp2
                      go_meet
                      case rel => exact ⟨by rw [D1.out]; rfl, rfl⟩
                  case rest => as_aux_lemma =>
                    obtain ⟨rfl, rfl⟩ := hcut
                    obtain ⟨tu', htu⟩ : ∃ tu' : Int, Aside0 ((if y < x ∧ tu < 0 then (b : Int) else tu) = tu' ∧ -1 ≤ tu' ∧ tu' ≤ 256) := ⟨_, ⟨rfl, by split <;> omega, by split <;> omega⟩⟩
                    generalize hB : (decide (y < x) && decide (tu < 0)) = B
                    have HT := Aside0.mk hB
                    clear hB
                    go_upto_if 92 with (fail)
                    go_cut [11] (fun v11 we => v11 = .int .i64 tu' ∧ we = wc)
                    case first => as_aux_lemma =>
                      cases B with
                      | false =>
                        have e1 : tu = tu' := by
                          have h := HT.out
                          rw [← htu.out.1, if_neg]
                          rintro ⟨h1, h2⟩
                          rw [decide_eq_true h1, decide_eq_true h2] at h
                          cases h
                        subst e1
                        go_wp2
                        go_meet
                        case rel => exact ⟨rfl, rfl⟩
                      | true =>
                        have e1 : (b : Int) = tu' := by
                          have h := HT.out
                          rw [Bool.and_eq_true, decide_eq_true_iff, decide_eq_true_iff] at h
                          rw [← htu.out.1, if_pos h]
                        subst e1
                        go_wp2
                        go_meet
                        case rel => exact ⟨rfl, rfl⟩
                    case rest => as_aux_lemma =>
                      obtain ⟨rfl, rfl⟩ := hcut
                      have HE4 := Aside0.mk HB3.out.2
                      have HB4 := Aside0.mk HB3.out.1
                      rw [htu.out.1] at HE4
                      clear HB3 HT
                      go_wp2
                      obtain ⟨kx, rfl⟩ := Int.eq_ofNat_of_zero_le hu1.1
                      go_loopw [15] (fun v wl => ∃ k : Nat, kx ≤ k ∧ k ≤ 256 ∧ ((kx : Int) ≤ y → (k : Int) ≤ y + 1) ∧ (y < (kx : Int) → k = kx) ∧ v = .int .i64 k ∧ Aside0 (RS w (fun j => S j || (decide (kx ≤ j) && decide (j < k))) wl)) (fun v _ => 257 - (intOf v).toNat)
                      case atStart => exact ⟨kx, Nat.le_refl _, by omega, fun _ => by omega, fun _ => rfl, rfl, ⟨HB4.out.congr (fun j _ => by show S j = (S j || (decide (kx ≤ j) && decide (j < kx))); by_cases h1 : kx ≤ j <;> by_cases h2 : j < kx <;> first | omega | simp [h1, h2])⟩⟩
                      case round =>
                        obtain ⟨k, hk0, hk1, hk2, hk3, rfl, HL⟩ := hrel
                        clear HB4
                        by_cases hle : (k : Int) ≤ y
                        · have hk256 : k < 256 := by omega
                          have ck : wr.cell? ⟨w.heap.size + 1, k, none⟩ = some (.bool (S k || (decide (kx ≤ k) && decide (k < k)))) := (blk_cell HL.out.2.1 k).trans (bset_get hk256)
                          have fk := blk_frozen HL.out.2.1 k
                          go_wp2
                          go_roundw
                          case rel => exact ⟨k + 1, by omega, by omega, fun _ => by omega, fun _ => by omega, by go_num, ⟨(HL.out.put k true).congr (fun j _ => (rng_step hk0).symm)⟩⟩
                          case measure => simp [intOf]; omega
                        · have HG := Aside0.mk (show RS w (rng S (kx : Int) y) wr from HL.out.congr (fun j _ => by
                              have h1 : decide (kx ≤ j) = decide ((kx : Int) ≤ (j : Int)) := by by_cases h : kx ≤ j <;> simp [h]
                              have h2 : kx ≤ j → (decide (j < k) = decide ((j : Int) ≤ y)) := fun h => by
                                by_cases h3 : j < k
                                · rw [decide_eq_true h3, decide_eq_true (by omega)]
                                · rw [decide_eq_false h3, decide_eq_false (by omega)]
                              unfold rng
                              by_cases h : kx ≤ j
                              · rw [h2 h, h1]
                              · rw [← h1, decide_eq_false h]; simp))
                          clear HL
                          go_wp2
                          go_roundg d
                          case measure => omega
                          case rel => exact ⟨b + e + 1, tu', rng S (kx : Int) y, by first | (congr 1; done) | (congr 1; omega), rfl, by omega, hbe, by omega, htu.out.2.1, htu.out.2.2, ⟨HG.out, by rw [decide_eq_false (show ¬ b + e + 1 = a2 by omega)]; exact HE4.out⟩⟩
        · have HE := Aside0.mk (show brkR p a = (false, b, tu, S) by rw [HA.out.2]; exact brkL_end (by omega))
          have q0 : decide ((b : Int) < (p.length : Int)) = false := decide_eq_false (by omega)
          have q3 : decide ((p.length : Int) ≤ (b : Int)) = true := decide_eq_true (by omega)
          go_wp2_with (first
            | ((with_reducible refine gate_ (.load 101 (.tmp 7)) rfl ?_); refine wpList_load_row rfl 101 (.tmp 7) rfl (w.heap.size + 1) rfl _ _ _ _ HA.out.1.2.1 Tryd.underlying101 rfl (szset' _) ?_)
            | ((with_reducible refine gate_ (.store 101 (.tmp 4) (.tmp 109)) rfl ?_); refine wpList_store_row rfl 101 (.tmp 4) (.tmp 109) rfl w.heap.size (bset S) rfl rfl _ _ HA.out.1.1 (szset' _) (by rw [bset_size, bset_size]) (bset_all _) ?_))
          refine bodyPost_ret (v := .tuple #[.agg (bset S), .int .i64 (b : Int), .int .i64 ((a : Int) - 1)]) ?_ rfl ⟨?_, below_setRow HA.out.1.2.2 (Nat.le_refl _) _⟩
          · exact res3_of rfl rfl rfl rfl (row_blk HA.out.1.1)
          · rw [brkV_open HE.out]
end Go.Proofs.YtffpkldphkmjmaaDoor.PT
end
section
namespace Go.Proofs.YtffpkldphkmjmaaDoor.PT
open Go.RowKit Go.Proofs.YtffpkldphkmjmaaDoorW.PrintWords Go.Proofs.YtffpkldphkmjmaaDoorW.PrintMore
set_option linter.unusedVariables false
/-- A thing of the reference: its kind, its set. -/
abbrev RT := Int × (Nat → Bool)
def tcl (x : RT) : List Value := .int .i64 x.1 :: (bset x.2).toList
def tcells (x : RT) : Array Value := (tcl x).toArray
theorem tcl_len (x : RT) : (tcl x).length = 257 := by simp [tcl, bset]
theorem tcl_one (x : RT) : ∀ v ∈ tcl x, v.oneCell' = true := by
  intro v hv
  rcases List.mem_cons.1 hv with rfl | hv
  · rfl
  · exact bset_one _ v hv
theorem tcells_size (x : RT) : (tcells x).size = 257 := by simp [tcells, tcl_len]
theorem tcells_all (x : RT) : (tcells x).all (·.oneCell') = true := Array.all_eq_true_iff_forall_mem.2 (fun v hv => tcl_one x v (by simpa [tcells] using hv))
theorem zth (w : World) : (zeroValue 103).run Tryd.prog w = .ok (.agg (tcells (0, fun _ => false))) w := by kernel_rfl
theorem szth : (Tryd.prog.info? 103).map (·.size) = some 257 := by kernel_rfl
theorem szth' (x : RT) : (Tryd.prog.info? 103).map (·.size) = some (tcells x).size := by rw [tcells_size]; exact szth
theorem infoR : (Tryd.prog.info? 103).map (fun i => (i.zero, i.size, i.bytes)) = some (some (.agg (tcells (0, fun _ => false))), 257, 264) := by kernel_rfl
theorem bld0 (k : Int) : Tryd.prog.built 103 [(0, .int .i64 k)] = some (tcells (k, fun _ => false)) := by kernel_rfl
theorem bld1 (S : Nat → Bool) : Tryd.prog.built 103 [(1, .agg (bset S))] = some (tcells (0, S)) := by kernel_rfl
theorem fillR (x : RT) : Instr.fill (fun i => some (i * 257, 257)) ((Array.range (1 * 257)).map ((Value.agg (tcells (0, fun _ => false))).cells[· % (Value.agg (tcells (0, fun _ => false))).cells.size]!)) [(0, .agg (tcells x))] = some (tcells x) := by kernel_rfl
/-- Rows of things. -/
def kR : Kd RT where
  sz := 257
  E := []
  K := fun _ x cs => cs = tcl x
  M := fun _ _ _ x cs => cs = tcl x
  K_len := fun h => by rw [h]; exact tcl_len _
  K_one := fun h => by rw [h]; exact tcl_one _
  K_below := fun _ h => h
  K_of_M := fun h => h
  M_mono := fun _ h => h
  M_bound := fun h => h
  M_move := fun _ h => h
  M_lower := fun _ h => h
/-- What a thing of the reference stands for. -/
def RTd (x : RT) : PTh :=
  if x.1 = 0 then .single x.2 else if x.1 = 1 then .many x.2 else if x.1 = 2 then .front else if x.1 = 3 then .back else if x.1 = 4 then .opens else .closes
section
variable {P : Program} {ops : Array Oper} {rest : List Oper} {o : Oper} {a : Act} {Q : Exit → Act → World → Prop} {W : World}
theorem wpl_build (hgd : o.guard = none) (t : TypeId) (i : Nat) (x : Operand) (ho : o.op = .build t #[(i, x)]) (cells : Array Value)
    (hf : P.built t [(i, a.eval x)] = some cells) (h : wpList P ops Q rest (a.put o.dst (.agg cells)) W) : wpList P ops Q (o :: rest) a W := by
  have hf' : P.built t ((#[(i, x)] : Array (Nat × Operand)).map fun (i, x) => (i, a.eval x)).toList = some cells := by simpa using hf
  exact wpList_plain hgd fun _ hK => wp_build t _ ho (by rw [hf']; rfl) (by rw [hf']; exact hK _ _ h)
theorem wpl_slice1 (hgd : o.guard = none) (t e : TypeId) (x : Operand) (ho : o.op = .buildSlice t 1 #[(0, x)]) (u : Value) (hx : a.eval x = u) (cells : Array Value) (ie : TypeInfo) (z : Value)
    (hu : P.underlying t = some (.slice e)) (hie : P.info? e = some ie) (hz : ie.zero = some z) (hsmall : ¬ 1 * ie.size > 2 ^ 24) (hpos : ¬ 1 * ie.size = 0)
    (hf : Instr.fill (fun i => some (i * ie.size, ie.size)) ((Array.range (1 * ie.size)).map (z.cells[· % z.cells.size]!)) [(0, u)] = some cells)
    (h : wpList P ops Q rest (a.put o.dst (.slice (some ⟨W.heap.size, 0, none⟩) 1 1)) (W.alloc (.cells cells e))) : wpList P ops Q (o :: rest) a W := by
  subst hx
  exact wpList_buildSlice hgd t e 1 _ ho cells ie z hu hie hz hsmall hpos (by simpa using hf) h
end
theorem tset0 (k k' : Int) (S : Nat → Bool) : (tcells (k, S)).setIfInBounds 0 (.int .i64 k') = tcells (k', S) := by
  unfold tcells tcl
  simp
theorem blk_kind {w : World} {T : Nat} {k : Int} {S : Nat → Bool} (h : w.heap[T]? = some (.cells (tcells (k, S)) 103 (0, 0))) (k' : Int) : (w.setCell ⟨T, 0, none⟩ (.int .i64 k')).heap[T]? = some (.cells (tcells (k', S)) 103 (0, 0)) := by
  have h2 := blk_set h 0 (.int .i64 k')
  rwa [tset0] at h2
theorem th_there {w : World} {T : Nat} {k : Int} {S : Nat → Bool} (h : w.heap[T]? = some (.cells (tcells (k, S)) 103 (0, 0))) (S' : Nat → Bool) : w.there T 1 (bset S').size := fun j hj => by
  rw [bset_size] at hj
  refine ⟨?_, blk_frozen h _⟩
  rw [blk_cell h]
  simp [tcells_size]
  omega
theorem blk_setS {w : World} {T : Nat} {k : Int} {S : Nat → Bool} (h : w.heap[T]? = some (.cells (tcells (k, S)) 103 (0, 0))) (S' : Nat → Bool) : (w.setCells T 1 (bset S').toList).heap[T]? = some (.cells (tcells (k, S')) 103 (0, 0)) := by
  obtain ⟨cur', h1, h2, h3⟩ := setCells_row (bset S').toList 1 w _ h (by rw [tcells_size, Array.length_toList, bset_size]; decide)
  rw [h1, show cur' = tcells (k, S') from ?_]
  rw [← Array.toList_inj, h3]
  simp [tcells, tcl, bset]
theorem kR_M (w : World) (base : Nat) (ok : Nat → Prop) (x : RT) : kR.M w base ok x (tcl x) := rfl
section
variable {ops : Array Oper} {rest : List Oper} {o : Oper} {a : Act} {Q : Exit → Act → World → Prop} {W : World}
/-- '[]thing{x}'. -/
theorem wpl_thing (hgd : o.guard = none) (x : Operand) (ho : o.op = .buildSlice 73 1 #[(0, x)]) (y : RT) (hx : a.eval x = .agg (tcells y))
    (h : wpList Tryd.prog ops Q rest (a.put o.dst (.slice (some ⟨W.heap.size, 0, none⟩) 1 1)) (W.alloc (.cells (tcl y).toArray 103))) : wpList Tryd.prog ops Q (o :: rest) a W := by
  obtain ⟨i0, hi, hzz⟩ := Option.map_eq_some_iff.1 infoR
  simp only [Prod.mk.injEq] at hzz
  obtain ⟨hz0, hz1, hz2⟩ := hzz
  exact wpl_slice1 hgd _ _ x ho _ hx (tcells y) i0 _ Tryd.underlying73 hi hz0 (by rw [hz1]; decide) (by rw [hz1]; decide) (by rw [hz1]; exact fillR y) h
end
theorem ld_u8 {W : World} {ad : Addr} {b : Int} (h : W.cell? ad = some (.int .u8 b)) : (Instr.loadAt 5 (.pointer (some ad))).run Tryd.prog W = .ok (.int .u8 b) W := by
  have hagg : (isAgg 5).run Tryd.prog W = .ok false W := by kernel_rfl
  simp only [Instr.loadAt, Instr.sureAddr, Sem.run_bind, Sem.run_pure, Result.andThen_ok, loadVar, hagg]
  simp [h]
section
variable {P : Program} {ops : Array Oper} {rest : List Oper} {o : Oper} {a : Act} {Q : Exit → Act → World → Prop} {W : World}
theorem wpl_ld (hgd : o.guard = none) (t : TypeId) (x : Operand) (ho : o.op = .load t x) (ad : Addr) (v : Value) (hx : a.eval x = .pointer (some ad)) (hl : (Instr.loadAt t (.pointer (some ad))).run P W = .ok v W)
    (h : wpList P ops Q rest (a.put o.dst v) W) : wpList P ops Q (o :: rest) a W := by
  refine wpList_plain hgd fun _ hK => ?_
  unfold Oper.wp execOp
  simp only [ho, hx, Sem.run_bind, hl, Result.andThen_ok]
  exact hK _ _ h
end
theorem st_int {W : World} {ad : Addr} {u : Value} {b : Int} (h : W.cell? ad = some u) (hf : W.frozen? ad = false) : (Instr.storeAt 3 (.pointer (some ad)) (.int .i64 b)).run Tryd.prog W = .ok () (W.setCell ad (.int .i64 b)) := by
  have hs : (sizeOf 3).run Tryd.prog W = .ok 1 W := by kernel_rfl
  simp [Instr.storeAt, Instr.sureAddr, storeVar, hs, Value.cells, storeCells]
  rw [show ad.add 0 = ad from by simp [Addr.add]]
  rw [run_store _ _ _ _ _ rfl, h]
  simp [hf]
section
variable {P : Program} {ops : Array Oper} {rest : List Oper} {o : Oper} {a : Act} {Q : Exit → Act → World → Prop} {W W' : World}
theorem wpl_st (hgd : o.guard = none) (t : TypeId) (x y : Operand) (ho : o.op = .store t x y) (ad : Addr) (v : Value) (hx : a.eval x = .pointer (some ad)) (hy : a.eval y = v) (hl : (Instr.storeAt t (.pointer (some ad)) v).run P W = .ok () W')
    (h : wpList P ops Q rest (a.put o.dst undef) W') : wpList P ops Q (o :: rest) a W := by
  refine wpList_plain hgd fun _ hK => ?_
  unfold Oper.wp execOp
  simp only [ho, hx, hy, Sem.run_bind, hl, Result.andThen_ok]
  exact hK _ _ h
end
theorem ld_int {W : World} {ad : Addr} {b : Int} (h : W.cell? ad = some (.int .i64 b)) : (Instr.loadAt 3 (.pointer (some ad))).run Tryd.prog W = .ok (.int .i64 b) W := by
  have hagg : (isAgg 3).run Tryd.prog W = .ok false W := by kernel_rfl
  simp only [Instr.loadAt, Instr.sureAddr, Sem.run_bind, Sem.run_pure, Result.andThen_ok, loadVar, hagg]
  simp [h]
end Go.Proofs.YtffpkldphkmjmaaDoor.PT
end
section
namespace Go.Proofs.YtffpkldphkmjmaaDoor.PT
open Go.RowKit Go.Proofs.YtffpkldphkmjmaaDoorW.PrintWords Go.Proofs.YtffpkldphkmjmaaDoorW.PrintMore
set_option linter.unusedVariables false
def starB (l : List PTh) : Bool := match l.getLast? with
  | some (.many _) => true
  | some .back => true
  | some .opens => true
  | some .closes => true
  | _ => false
def bareB (l : List PTh) : Bool := match l.getLast? with
  | none => true
  | some .front => true
  | _ => false
theorem comp_step {p : List Int} {d a a' : Nat} {l l' : List PTh} (h : a < p.length) (hn : nextV p a l = (a', -1, l')) : compL p (d + 1) a l = compL p d a' l' := by
  conv => lhs; unfold compL
  rw [if_pos h, hn]
  exact if_neg (show ¬ ((-1 : Int) ≥ 0) by decide)
theorem comp_fault {p : List Int} {d a : Nat} {l : List PTh} {f : Int} (h : a < p.length) (hn : (nextV p a l).2.1 = f) (hf : 0 ≤ f) : compL p (d + 1) a l = (f, l) := by
  conv => lhs; unfold compL
  rw [if_pos h, hn, if_pos (show f ≥ 0 from hf)]
theorem nx_front {p : List Int} {l : List PTh} (h : rd p 0 = 94) : nextV p 0 l = (1, -1, l ++ [.front]) := by
  unfold nextV
  exact if_pos ⟨h, rfl⟩
section
variable {p : List Int} {a : Nat} {l : List PTh}
theorem nx_star (h : rd p a = 42) : nextV p a l = (a + 1, (starV a l).1, (starV a l).2) := by
  unfold nextV
  rw [if_neg (by omega), if_neg (by omega), if_neg (by omega), if_neg (by omega), if_pos h]
theorem nx_starred (h : rd p a = 42) (hs : starB l = true) : (nextV p a l).2.1 = (a : Int) := by
  rw [nx_star h]
  show (starV a l).1 = a
  unfold starB at hs
  unfold starV
  split at hs <;> simp_all
theorem nx_many {l0 : List PTh} {S : Nat → Bool} (h : rd p a = 42) (e : l = l0 ++ [.single S]) : nextV p a l = (a + 1, -1, l0 ++ [.many S]) := by
  rw [nx_star h]
  unfold starV
  subst e
  simp
theorem nx_bare (h : rd p a = 42) (hs : bareB l = true) : nextV p a l = (a + 1, -1, l ++ [.single fun j => j == 42]) := by
  rw [nx_star h]
  unfold bareB at hs
  unfold starV
  split at hs <;> simp_all
theorem nx_back (h : rd p a = 36) (e : a + 1 = p.length) : nextV p a l = (a + 1, -1, l ++ [.back]) := by
  unfold nextV
  rw [if_neg (by omega), if_pos ⟨h, e⟩]
theorem nx_dot (h : rd p a = 46) : nextV p a l = (a + 1, -1, l ++ [.single fun j => decide (j < 256)]) := by
  unfold nextV
  rw [if_neg (by omega), if_neg (by omega), if_pos h]
theorem nx_set (h : rd p a = 91) : nextV p a l = ((brkV p (a + 1) (-1)).2.1, (brkV p (a + 1) (-1)).2.2, l ++ [.single (brkV p (a + 1) (-1)).1]) := by
  unfold nextV
  rw [if_neg (by omega), if_neg (by omega), if_neg (by omega), if_pos h]
theorem nx_mask (h : rd p a = 92) : nextV p a l = (if p.length ≤ a + 1 then (a + 1, (a : Int), l) else if rd p ((a : Int) + 1) = 60 then (a + 2, -1, l ++ [.opens]) else if rd p ((a : Int) + 1) = 62 then (a + 2, -1, l ++ [.closes]) else (a + 2, -1, l ++ [.single fun j => j == (rd p ((a : Int) + 1)).toNat])) := by
  unfold nextV
  rw [if_neg (by omega), if_neg (by omega), if_neg (by omega), if_neg (by omega), if_neg (by omega), if_pos h]
theorem nx_byte (h0 : a = 0 → rd p 0 ≠ 94) (h1 : ¬ (rd p a = 36 ∧ a + 1 = p.length)) (h2 : rd p a ≠ 46) (h3 : rd p a ≠ 91) (h4 : rd p a ≠ 92) (h5 : rd p a ≠ 42) : nextV p a l = (a + 1, -1, l ++ [.single fun j => j == (rd p a).toNat]) := by
  unfold nextV
  rw [if_neg (by rintro ⟨h, rfl⟩; exact h0 rfl h), if_neg h1, if_neg h2, if_neg h3, if_neg h5, if_neg h4]
end
theorem brkL_le {p : List Int} : ∀ (d a : Nat) (tu : Int) (f : Bool) (S : Nat → Bool), a ≤ p.length → (brkL p d a tu f S).2.1 ≤ p.length := by
  intro d
  induction d with
  | zero => intro a tu f S h; exact h
  | succ d ih =>
    intro a tu f S h
    unfold brkL
    split
    · exact h
    · split
      · show a + 1 ≤ p.length
        omega
      · split
        · exact ih (a + 3) _ _ _ (by omega)
        · exact ih (a + 1) _ _ _ (by omega)
theorem brkV_le {p : List Int} {a : Nat} (f : Int) (h : a ≤ p.length) : (brkV p a f).2.1 ≤ p.length := by
  have h2 : (brkR p a).2.1 ≤ p.length := by
    unfold brkR
    refine brkL_le _ _ _ _ _ ?_
    split
    · rename_i h3
      unfold brkN at h3
      rw [Bool.and_eq_true, decide_eq_true_iff] at h3
      omega
    · exact h
  unfold brkV
  split <;> exact h2
theorem starB_snoc (l : List PTh) (y : RT) (h : y.1 = 0 ∨ y.1 = 3 ∨ y.1 = 4 ∨ y.1 = 5) : starB (l ++ [RTd y]) = (y.1 != 0) ∧ bareB (l ++ [RTd y]) = false := by
  obtain ⟨k, S⟩ := y
  simp only at h
  unfold starB bareB RTd
  rcases h with rfl | rfl | rfl | rfl <;> simp
theorem starB_many (l : List PTh) (S : Nat → Bool) : starB (l ++ [.many S]) = true ∧ bareB (l ++ [.many S]) = false := by
  unfold starB bareB
  simp
/-- A * that changes the last thing: it's a single. -/
theorem last_single {l : List PTh} (h1 : starB l = false) (h2 : bareB l = false) : ∃ l0 S, l = l0 ++ [.single S] := by
  rcases List.eq_nil_or_concat l with rfl | ⟨l0, x, rfl⟩
  · cases h2
  · rw [List.concat_eq_append] at h1 h2 ⊢
    unfold starB at h1
    unfold bareB at h2
    cases x with
    | single S => exact ⟨l0, S, rfl⟩
    | _ => simp at h1 h2
theorem RTd_single {x : RT} {S : Nat → Bool} (h : RTd x = .single S) : x.1 = 0 ∧ x.2 = S := by
  obtain ⟨k, S'⟩ := x
  unfold RTd at h
  by_cases e0 : k = 0
  · simp only at h ⊢; rw [if_pos e0] at h; injection h with h; exact ⟨e0, h⟩
  · simp only at h
    rw [if_neg e0] at h
    split at h
    · cases h
    · split at h
      · cases h
      · split at h
        · cases h
        · split at h <;> cases h
end Go.Proofs.YtffpkldphkmjmaaDoor.PT
end
section
namespace Go.Proofs.YtffpkldphkmjmaaDoor.PT
open Go.RowKit Go.Proofs.YtffpkldphkmjmaaDoorW.PrintWords Go.Proofs.YtffpkldphkmjmaaDoorW.PrintMore
set_option linter.unusedVariables false
/-- The things so far. -/
def TH (w : World) (ov : Value) (l : List RT) (wl : World) : Prop := Below w.heap.size w wl ∧ kR.R 103 wl w.heap.size (fun _ => True) ov l ∧ ∀ x ∈ l, 0 ≤ x.1 ∧ x.1 ≤ 5
/-- The things so far, and one at work in block T. -/
def TW (w : World) (ov : Value) (l : List RT) (T : Nat) (y : RT) (wl : World) : Prop := Below w.heap.size w wl ∧ kR.R 103 wl w.heap.size (fun k => k ≠ T) ov l ∧ wl.heap[T]? = some (.cells (tcells y) 103 (0, 0)) ∧ w.heap.size ≤ T ∧ ∀ x ∈ l, 0 ≤ x.1 ∧ x.1 ≤ 5
section
variable {w wl : World} {ov : Value} {l : List RT} {T : Nat} {y : RT}
theorem TH.mv (h : TH w ov l wl) {w' : World} (hb : Below wl.heap.size wl w') : TH w ov l w' := ⟨below_step h.1 hb, Kd.R_below h.2.1 hb, h.2.2⟩
theorem TH.drew (h : TH w ov l wl) (n : Nat) : TH w ov l (wl.drewN n) := ⟨pw_below_drewN h.1 n, Kd.R_drewN h.2.1 n, h.2.2⟩
theorem TW.mv (h : TW w ov l T y wl) {w' : World} (hb : Below wl.heap.size wl w') : TW w ov l T y w' := ⟨below_step h.1 hb, Kd.R_below h.2.1 hb, blk_below h.2.2.1 hb, h.2.2.2⟩
theorem TW.th (h : TW w ov l T y wl) : TH w ov l wl := ⟨h.1, Kd.R_mono h.2.1 (fun _ _ => trivial), h.2.2.2.2⟩
theorem TW.kind (h : TW w ov l T y wl) (k : Int) : TW w ov l T (k, y.2) (wl.setCell ⟨T, 0, none⟩ (.int .i64 k)) :=
  ⟨below_set h.1 h.2.2.2.1, Kd.R_far h.2.1 (fun _ hk => hk) _, blk_kind (k := y.1) (S := y.2) h.2.2.1 k, h.2.2.2⟩
theorem setCells_keep (w : World) (g o : Nat) (vs : List Value) : KeepBut w (w.setCells g o vs) g none := by
  obtain ⟨s1, s2, s3, s4⟩ := setCells_same g vs o w
  exact ⟨by rw [s4]; exact Nat.le_refl _, fun i _ hi _ => setCells_far vs o i hi⟩
theorem below_cells {B : Nat} {w wl : World} (h : Below B w wl) {g : Nat} (hg : B ≤ g) (o : Nat) (vs : List Value) : Below B w (wl.setCells g o vs) := by
  obtain ⟨s1, s2, s3, s4⟩ := setCells_same g vs o wl
  exact ⟨s1.trans h.os, s2.trans h.tape, s3.trans h.output, by rw [s4]; exact h.size, fun i hi => (setCells_far vs o i (by omega)).trans (h.block i hi)⟩
theorem TW.set (h : TW w ov l T y wl) (S : Nat → Bool) : TW w ov l T (y.1, S) (wl.setCells T 1 (bset S).toList) :=
  ⟨below_cells h.1 h.2.2.2.1 _ _, Kd.R_keep h.2.1 (setCells_keep _ _ _ _) (fun _ hk => hk), blk_setS (k := y.1) (S := y.2) h.2.2.1 S, h.2.2.2⟩
theorem TW.byte (h : TW w ov l T y wl) {ad : Addr} {p : List Int} (hr : Kd.C (Kd.int .u8) w (some ad) p.length p) {i : Nat} (h1 : i < p.length) : wl.cell? (ad.add i) = some (.int .u8 (rd p (i : Int))) := by
  obtain ⟨ad', e, hc⟩ := Kd.at_int hr (i : Int) (by omega) (by omega)
  injection e with e
  subst e
  rw [Int.toNat_natCast] at hc
  exact (h.1.cell (World.block_lt_of_cell? w _ hc)).trans hc
theorem TW.byte1 (h : TW w ov l T y wl) {ad : Addr} {p : List Int} (hr : Kd.C (Kd.int .u8) w (some ad) p.length p) {a : Nat} (h1 : a + 1 < p.length) : wl.cell? ⟨ad.block, ad.off + (a + 1), none⟩ = some (.int .u8 (rd p ((a : Int) + 1))) := by
  have h2 := h.byte hr h1
  rwa [add_far, show ((a + 1 : Nat) : Int) = (a : Int) + 1 from by omega] at h2
theorem TW.c0 (h : TW w ov l T y wl) : wl.cell? ⟨T, 0, none⟩ = some (.int .i64 y.1) := (blk_cell h.2.2.1 0).trans rfl
theorem TW.f0 (h : TW w ov l T y wl) : wl.frozen? ⟨T, 0, none⟩ = false := blk_frozen h.2.2.1 0
theorem TW.row (h : TW w ov l T y wl) (o : Obj) (cs : Array Value) : TW w ov l T y ((wl.alloc o).setRow wl.heap.size cs) := h.mv (below_setRow (below_alloc (Below.refl _ _) _) (Nat.le_refl _) _)
/-- A thing is made. -/
theorem TH.tw (h : TH w ov l wl) (y0 y : RT) : TW w ov l wl.heap.size y ((wl.alloc (.cells (tcells y0) 103)).setRow wl.heap.size (tcells y)) := by
  have hb := h.1.size
  have HR : kR.R 103 wl w.heap.size (fun k => k ≠ wl.heap.size) ov l := Kd.R_mono (Kd.R_bound h.2.1) (fun k hk => by have := hk.2.2.1; omega)
  refine ⟨below_setRow (below_alloc h.1 _) hb _, ?_, row_blk (blk_new wl _), hb, h.2.2⟩
  refine Kd.R_step (Kd.R_alloc HR (.cells (tcells y0) 103)) (fun k hk _ => ?_)
  exact setRow_other _ _ _ _ hk
end
set_option maxHeartbeats 16000000 in
set_option maxRecDepth 100000 in
theorem rthings_calls {w : World} {A : Option Addr} {c : Nat} {p : List Int} (hr : Kd.C (Kd.int .u8) w A p.length p) (hu : ∀ i, 0 ≤ rd p i ∧ rd p i ≤ 255) :
    Calls Tryd.prog 39 #[.slice A p.length c] w fun e w' => ∃ v l, e = .returned (.tuple #[v, .int .i64 (compileV p).2.1, .int .i64 (compileV p).2.2]) ∧ TH w v l w' ∧ l.length ≤ 257 ∧ (∀ pl, (compileV p).1 = some pl → l.map RTd = pl) := by
  have hb : p.length ≤ 9223372036854775807 := (Kd.reads_of_C (d := (0 : Int)) hr).2.1
  by_cases hl : p.length > 256
  · have hd : decide ((256 : Int) < (p.length : Int)) = true := decide_eq_true (by omega)
    have HL := Aside0.mk (show compileV p = (none, 0, 1) from if_pos hl)
    clear hl hr hu
    go_enter Tryd.func39, Tryd.ntmps39
    go_wp2
    refine bodyPost_ret (v := .tuple #[.slice none 0 0, .int .i64 0, .int .i64 1]) (by simp [results, Tryd.results39, go_sem]) rfl ?_
    rw [HL.out]
    exact ⟨_, [], rfl, ⟨Below.refl _ _, Kd.R_nil _ _ _ _ _, fun x hx => by cases hx⟩, by simp, fun pl h => by cases h⟩
  · have hd : decide ((256 : Int) < (p.length : Int)) = false := decide_eq_false (by omega)
    have HL := Aside0.mk hl
    have hle : p.length ≤ 256 := by omega
    have HR := Aside0.mk (And.intro hr hu)
    clear hl
    go_enter Tryd.func39, Tryd.ntmps39
    go_upto_region 7 with (fail)
    go_cut [26] (fun v26 wc => v26 = .bool (decide (0 < p.length) && rd p 0 == 94) ∧ w = wc)
    case first => as_aux_lemma =>
      by_cases lt : 0 < p.length
      · obtain ⟨ad, rfl, hc⟩ := Kd.at_int hr (0 : Int) (by omega) (by omega)
        have q0 : decide ((0 : Int) < (p.length : Int)) = true := decide_eq_true (by omega)
        have q2 : ((0 : Int) < (p.length : Int)) = True := eq_true (by omega)
        have HLT := Aside0.mk lt
        have q3 : (0 < p.length) = True := eq_true lt
        generalize hx : rd p 0 = x at hc
        have HX := Aside0.mk hx
        clear hx
        rw [show (0 : Int).toNat = 0 from rfl, show ad.add 0 = ad from by simp [Addr.add]] at hc
        clear lt hr HR hu
        by_cases e94 : x = 94
        · subst e94
          go_wp2
          go_meet
          case rel => exact ⟨by rw [decide_eq_true HLT.out, HX.out]; rfl, rfl⟩
        · have e94b : (x == 94) = false := beq_eq_false_iff_ne.mpr e94
          have E := Aside0.mk e94b
          clear e94
          go_wp2
          go_meet
          case rel => exact ⟨by rw [decide_eq_true HLT.out, HX.out, E.out]; rfl, rfl⟩
      · have q0 : decide ((0 : Int) < (p.length : Int)) = false := decide_eq_false (by omega)
        have HLT := Aside0.mk lt
        go_wp2
        go_meet
        case rel => exact ⟨by rw [decide_eq_false HLT.out]; rfl, rfl⟩
    case rest => as_aux_lemma =>
      obtain ⟨rfl, rfl⟩ := hcut
      generalize hB : (decide (0 < p.length) && rd p 0 == 94) = B
      have HB := Aside0.mk hB
      clear hB
      go_upto_if 26 with (fail)
      clear hr hu
      go_cut [5, 6] (fun v5 v6 wd => ∃ (a d : Nat) (l : List RT), v6 = .int .i64 a ∧ a ≤ p.length ∧ l.length ≤ a ∧ p.length < a + d ∧ Aside0 (TH w v5 l wd ∧ (a = 0 → 0 < p.length → rd p 0 ≠ 94) ∧ starB (l.map RTd) = false ∧ bareB (l.map RTd) = true ∧ compL p (p.length + 1) 0 [] = compL p d a (l.map RTd)))
      case first => as_aux_lemma =>
        cases B with
        | false =>
          go_wp2
          go_meet
          case rel =>
            refine ⟨0, p.length + 1, [], rfl, by omega, by simp, by omega, ⟨⟨Below.refl _ _, Kd.R_nil _ _ _ _ _, fun x hx => by cases hx⟩, fun _ h0 h94 => ?_, rfl, rfl, rfl⟩⟩
            have h := HB.out
            rw [decide_eq_true h0, h94] at h
            cases h
        | true =>
          have h := HB.out
          rw [Bool.and_eq_true, decide_eq_true_iff, beq_iff_eq] at h
          have HS := Aside0.mk h
          have hpl := h.1
          clear h HB
          go_wp2_with (first
            | ((with_reducible refine gate_ (.build 103 #[(0, .const (.int .i64 2))]) rfl ?_); refine wpl_build rfl _ 0 (.const (.int .i64 2)) rfl (tcells (2, fun _ => false)) (bld0 2) ?_)
            | ((with_reducible refine gate_ (.buildSlice 73 1 #[(0, .tmp 28)]) rfl ?_); refine wpl_thing rfl (.tmp 28) rfl (2, fun _ => false) rfl ?_)
            | (at_builtin; refine Kd.R_append kR (w0 := w) w.heap.size rfl (.tmp 27) (.tmp 29) 73 103 (.agg (tcells (0, fun _ => false))) 264 rfl Tryd.underlying73 infoR (by rfl) (by decide) (by omega) (.slice none 0 0) [] (2, fun _ => false) (tcl (2, fun _ => false)) (fun _ => True) (fun _ => False) rfl rfl (kR_M _ _ _ _) (fun _ hk => hk.elim) (fun _ _ => trivial) (Kd.R_nil _ _ _ _ _) (Below.refl _ _) (Nat.le_refl _) (by decide) ?_; intro v1 w1 hR1 hB1 hG1 hat; have HG := Aside0.mk (And.intro hB1 hR1); clear hR1 hB1 hG1 hat))
          go_meet
          case rel =>
            refine ⟨1, p.length, [(2, fun _ => false)], rfl, hpl, by simp, by omega, ⟨⟨HG.out.1, HG.out.2, fun x hx => by rw [List.mem_singleton.1 hx]; decide⟩, fun h => by omega, rfl, rfl, ?_⟩⟩
            exact comp_step HS.out.1 (nx_front HS.out.2)
      case rest => as_aux_lemma =>
        obtain ⟨a, d, l, rfl, hap, hla, had, HA⟩ := hcut
        go_wp2
        go_loopg [5, 6, 7, 8] d (fun g v5 v6 v7 v8 wr => ∃ (a : Nat) (l : List RT), v6 = .int .i64 a ∧ v7 = .bool (starB (l.map RTd)) ∧ v8 = .bool (bareB (l.map RTd)) ∧ a ≤ p.length ∧ l.length ≤ a ∧ p.length < a + g ∧ Aside0 (TH w v5 l wr ∧ (a = 0 → 0 < p.length → rd p 0 ≠ 94) ∧ compL p (p.length + 1) 0 [] = compL p g a (l.map RTd)))
        case atStart => exact ⟨a, l, rfl, by rw [HA.out.2.2.1], by rw [HA.out.2.2.2.1], hap, hla, had, ⟨HA.out.1, HA.out.2.1, HA.out.2.2.2.2⟩⟩
        case round =>
          clear HA had hla hap HB
          obtain ⟨a, l, rfl, rfl, rfl, hap, hla, had, HA⟩ := hrel
          by_cases lt : a < p.length
          · obtain ⟨d, rfl⟩ : ∃ d, gk = d + 1 := ⟨gk - 1, by omega⟩
            have q0 : decide ((a : Int) < (p.length : Int)) = true := decide_eq_true (by omega)
            have q1 : (0 ≤ (a : Int)) = True := eq_true (by omega)
            have q2 : ((a : Int) < (p.length : Int)) = True := eq_true (by omega)
            obtain ⟨ad, rfl, hbyte0⟩ := Kd.at_int HR.out.1 (a : Int) (by omega) (by omega)
            rw [Int.toNat_natCast] at hbyte0
            have hbyte := (HA.out.1.1.cell (World.block_lt_of_cell? w _ hbyte0)).trans hbyte0
            clear hbyte0
            generalize hx : rd p (a : Int) = x at hbyte
            have HX := Aside0.mk hx
            have hxr : 0 ≤ x ∧ x ≤ 255 := by rw [← hx]; exact HR.out.2 _
            clear hx
            have z := zth
            generalize hsb : starB (l.map RTd) = sB
            generalize hbb : bareB (l.map RTd) = bB
            have HSB := Aside0.mk (And.intro hsb hbb)
            clear hsb hbb
            have HA1 := Aside0.mk HA.out.1
            go_upto_block 2 with (first
              | (go_at_call 62; refine (rone_calls _ hxr _).mono ?_; rintro e w1 ⟨rfl, hx⟩; have HT1 := Aside0.mk (HA.out.1.mv hx); clear hx HA1)
              | ((with_reducible refine gate_ (.build 103 #[(1, .tmp 40)]) rfl ?_); refine wpl_build rfl _ 1 (.tmp 40) rfl (tcells (0, _)) (bld1 _) ?_)
              | ((with_reducible refine gate_ (.store 103 (.tmp 10) (.tmp 41)) rfl ?_); refine wpList_store_row rfl 103 (.tmp 10) (.tmp 41) rfl _ (tcells (0, _)) rfl rfl _ _ (blk_new _ _) (szth' _) (by rw [tcells_size, tcells_size]) (tcells_all _) ?_))
            have HT := Aside0.mk (TH.tw HT1.out (0, fun _ => false) (0, fun j => j == x.toNat))
            generalize ((w1.alloc (.cells (tcells (0, fun _ => false)) 103)).setRow w1.heap.size (tcells (0, fun j => j == x.toNat))) = W at HT ⊢
            generalize w1.heap.size = T at HT ⊢
            clear HT1 z
            have HN := Aside0.mk HA.out.2
            clear HA
            go_cut [11] (fun v11 wd => ∃ (y : RT) (a' : Nat), v11 = .int .i64 a' ∧ a' ≤ p.length ∧ a < a' ∧ Aside0 (TW w u5 l T y wd ∧ (y.1 = 0 ∨ y.1 = 3 ∨ y.1 = 4 ∨ y.1 = 5) ∧ nextV p a (l.map RTd) = (a', -1, l.map RTd ++ [RTd y])))
            case first => as_aux_lemma =>
              by_cases hC : x = 42 ∧ bB = false
              · obtain ⟨e42, rfl⟩ := hC
                have e42b : (x == 42) = true := by rw [e42]; rfl
                cases sB with
                | true =>
                  have HF := Aside0.mk (show compileV p = (none, (a : Int), 110) by
                    have h := comp_fault (d := d) lt (nx_starred (HX.out.trans e42) HSB.out.1) (by omega)
                    unfold compileV
                    rw [if_neg HL.out, HN.out.2, h, if_pos (show (a : Int) ≥ 0 by omega)])
                  clear e42
                  go_wp2
                  refine bodyPost_ret (v := .tuple #[.slice none 0 0, .int .i64 a, .int .i64 110]) (by simp [results, Tryd.results39, go_sem]) rfl ?_
                  rw [HF.out]
                  exact ⟨_, [], rfl, ⟨HT.out.1, Kd.R_nil _ _ _ _ _, fun x hx => by cases hx⟩, by simp, fun pl h => by cases h⟩
                | false =>
                  obtain ⟨l0, S, hl0⟩ := last_single HSB.out.1 HSB.out.2
                  obtain ⟨l1, y1, rfl⟩ : ∃ l1 y1, l = l1 ++ [y1] := by
                    rcases List.eq_nil_or_concat l with rfl | ⟨l1, y1, rfl⟩
                    · simp at hl0
                    · exact ⟨l1, y1, List.concat_eq_append⟩
                  rw [List.map_append, List.map_singleton] at hl0
                  obtain ⟨hl1, hy1⟩ := List.append_inj' hl0 rfl
                  obtain ⟨hk1, hS1⟩ := RTd_single (List.singleton_inj.1 hy1)
                  obtain ⟨k1, S1⟩ := y1
                  simp only at hk1 hS1
                  subst hk1 hS1
                  have HNX := Aside0.mk (comp_step (d := d) lt (nx_many (p := p) (l := (l1 ++ [(0, S1)]).map RTd) (l0 := l0) (S := S1) (HX.out.trans e42) (by rw [List.map_append, List.map_singleton]; exact hl0)))
                  have HL1 := Aside0.mk hl1
                  clear hl0 hl1 hy1 e42
                  obtain ⟨g, cap, rfl, hg, hgl, cells, hgc⟩ := Kd.R_form HT.out.2.1 (by simp)
                  have hn1 : (l1.length : Int) ≤ 300 := by
                    rw [List.length_append] at hla
                    simp only [List.length_singleton] at hla
                    omega
                  obtain ⟨c, hc1, hM, hcc, hfz⟩ := Kd.R_elem HT.out.2.1 (0, fun _ => false) (l1.length : Int) (by omega) (by simp; omega)
                  have hct : c = tcl (0, S1) := by
                    have h : c = tcl ((l1 ++ [((0 : Int), S1)]).getD (l1.length : Int).toNat (0, fun _ => false)) := hM
                    rw [h, Int.toNat_natCast]
                    simp
                  have cg : W.cell? ⟨g, l1.length * 257, none⟩ = some (.int .i64 0) := hcc 0 _ (by rw [hct]; rfl)
                  have fg : W.frozen? ⟨g, l1.length * 257, none⟩ = false := hfz 0
                  have HR2 := Aside0.mk (show kR.R 103 (W.setCell ⟨g, l1.length * 257, none⟩ (.int .i64 1)) w.heap.size (fun k => k ≠ T) (.slice (some ⟨g, 0, none⟩) (l1.length + 1) cap) (l1 ++ [(1, S1)]) by
                    have h := (Kd.R_seg (seg := [.int .i64 1]) (j := 0) (x' := (1, S1)) (okp := fun _ => False) HT.out.2.1 (l1.length : Int) (by omega) (by simp; omega) hc1 hcc (by decide) (by rw [hct]; rfl) (fun _ hk => hk.elim)).1
                    rw [Int.toNat_natCast, show (l1 ++ [((0 : Int), S1)]).set l1.length (1, S1) = l1 ++ [(1, S1)] from by simp, show (l1 ++ [((0 : Int), S1)]).length = l1.length + 1 from by simp] at h
                    exact h)
                  have HB2 := Aside0.mk (below_set (j := l1.length * 257) (v := .int .i64 1) HT.out.1 hg)
                  clear hM hcc hfz hct hc1
                  go_wp2_with fail
                  go_roundg d
                  case measure => omega
                  case rel =>
                    refine ⟨a + 1, l1 ++ [(1, S1)], by congr 1, ?_, ?_, by omega, by simp at hla ⊢; omega, by omega, ⟨⟨HB2.out, by rw [show (l1 ++ [((0 : Int), S1)]).length = l1.length + 1 from by simp]; exact Kd.R_mono HR2.out (fun _ _ => trivial), fun x hx => ?_⟩, fun h => by omega, ?_⟩⟩
                    · rw [List.map_append, List.map_singleton]; exact congrArg Value.bool (starB_many (l1.map RTd) S1).1.symm
                    · rw [List.map_append, List.map_singleton]; exact congrArg Value.bool (starB_many (l1.map RTd) S1).2.symm
                    · rcases List.mem_append.1 hx with hx | hx
                      · exact HT.out.2.2.2.2 x (List.mem_append_left _ hx)
                      · rw [List.mem_singleton.1 hx]; exact (show (0 : Int) ≤ 1 ∧ (1 : Int) ≤ 5 by decide)
                    · rw [HN.out.2, HNX.out, List.map_append, List.map_singleton, ← HL1.out]; rfl
              · skip
                by_cases e42 : x = 42
                · have hbt : bB = true := by
                    cases bB with
                    | true => rfl
                    | false => exact absurd ⟨e42, rfl⟩ hC
                  subst hbt
                  have HNX := Aside0.mk (nx_bare (p := p) (a := a) (HX.out.trans e42) HSB.out.2)
                  clear hC
                  subst e42
                  go_wp2
                  go_meet
                  case rel => exact ⟨(0, fun j => j == (42 : Int).toNat), a + 1, by congr 1, by omega, by omega, ⟨HT.out, .inl rfl, by rw [HNX.out]; rfl⟩⟩
                by_cases e36 : x = 36 ∧ a + 1 = p.length
                · obtain ⟨e36, en⟩ := e36
                  have HNX := Aside0.mk (nx_back (l := l.map RTd) (HX.out.trans e36) en)
                  have en2 : ((a : Int) == (p.length : Int) - 1) = true := by rw [beq_iff_eq]; omega
                  have f0 : W.frozen? ⟨T, 0, none⟩ = false := blk_frozen HT.out.2.2.1 0
                  have c0 : W.cell? ⟨T, 0, none⟩ = some (.int .i64 0) := (blk_cell HT.out.2.2.1 0).trans rfl
                  clear hC e42 en
                  subst e36
                  go_wp2
                  go_meet
                  case rel => exact ⟨(3, fun j => j == (36 : Int).toNat), a + 1, by congr 1, by omega, by omega, ⟨HT.out.kind 3, .inr (.inl rfl), by rw [HNX.out]; rfl⟩⟩
                have e42b : (x == 42) = false := beq_eq_false_iff_ne.mpr e42
                by_cases e46 : x = 46
                · have HNX := Aside0.mk (nx_dot (l := l.map RTd) (HX.out.trans e46))
                  clear hC e42 e36 e42b
                  subst e46
                  go_wp2_with (first
                    | (go_at_call 63; refine (rall_calls _).mono ?_; rintro e w2 ⟨rfl, hx⟩; have HT2 := Aside0.mk (HT.out.mv hx); clear hx)
                    | ((with_reducible refine gate_ (.store 101 (.tmp 76) (.tmp 75)) rfl ?_); refine wpList_store_mid rfl 101 (.tmp 76) (.tmp 75) rfl T 1 (bset fun j => decide (j < 256)) rfl rfl (th_there (k := 0) HT2.out.2.2.1 _) (szset' _) (bset_all _) ?_))
                  go_meet
                  case rel => exact ⟨(0, fun j => decide (j < 256)), a + 1, by congr 1, by omega, by omega, ⟨HT2.out.set _, .inl rfl, by rw [HNX.out]; rfl⟩⟩
                by_cases e91 : x = 91
                · have HNX := Aside0.mk (nx_set (l := l.map RTd) (HX.out.trans e91))
                  have hge := brkV_ge p (a + 1) (-1)
                  have hbl := brkV_le (p := p) (a := a + 1) (-1) (by omega)
                  have hfa := nextV_fault p a (l.map RTd)
                  rw [HNX.out] at hfa
                  clear hC e42 e36 e42b e46
                  subst e91
                  have hsc := fun W' (h : Below w.heap.size w W') => rset_calls (c := c) (a := a + 1) (Kd.C_below HR.out.1 h) ⟨by omega, by omega⟩ hle HR.out.2
                  generalize brkV p (a + 1) (-1) = r at HNX hsc hge hbl hfa
                  obtain ⟨S, b, f⟩ := r
                  simp only at HNX hsc hge hbl hfa
                  have HSC := Aside0.mk hsc
                  clear hsc
                  rw [show ((a + 1 : Nat) : Int) = (a : Int) + 1 from by omega] at HSC
                  have z := zset'
                  by_cases hf : 0 ≤ f
                  · have hfd : decide (0 ≤ f) = true := decide_eq_true hf
                    have HF := Aside0.mk (show compileV p = (none, f, 110) by
                      have h := comp_fault (d := d) lt (by rw [HNX.out]) hf
                      unfold compileV
                      rw [if_neg HL.out, HN.out.2, h, if_pos (show f ≥ 0 by omega)])
                    clear hf
                    go_wp2_with (first
                      | (go_at_call 64; refine (HSC.out _ HT.out.1).mono ?_; rintro e w2 ⟨rfl, hx⟩; have HT2 := Aside0.mk (HT.out.mv hx); clear hx)
                      | ((with_reducible refine gate_ (.store 101 (.tmp 12) (.tmp 85)) rfl ?_); refine wpList_store_row rfl 101 (.tmp 12) (.tmp 85) rfl _ (bset S) rfl rfl _ _ (blk_new _ _) (szset' _) (by rw [bset_size, bset_size]) (bset_all _) ?_))
                    refine bodyPost_ret (v := .tuple #[.slice none 0 0, .int .i64 f, .int .i64 110]) (by simp [results, Tryd.results39, go_sem]) rfl ?_
                    rw [HF.out]
                    exact ⟨_, [], rfl, ⟨below_setRow (below_alloc HT2.out.1 _) HT2.out.1.size _, Kd.R_nil _ _ _ _ _, fun x hx => by cases hx⟩, by simp, fun pl h => by cases h⟩
                  · have hfd : decide (0 ≤ f) = false := decide_eq_false hf
                    obtain rfl : f = -1 := by omega
                    clear hf hfa
                    go_wp2_with (first
                      | (go_at_call 64; refine (HSC.out _ HT.out.1).mono ?_; rintro e w2 ⟨rfl, hx⟩; have HT2 := Aside0.mk (HT.out.mv hx); clear hx)
                      | ((with_reducible refine gate_ (.store 101 (.tmp 12) (.tmp 85)) rfl ?_); refine wpList_store_row rfl 101 (.tmp 12) (.tmp 85) rfl _ (bset S) rfl rfl _ _ (blk_new _ _) (szset' _) (by rw [bset_size, bset_size]) (bset_all _) ?_; have HT3 := Aside0.mk (HT2.out.row (.cells (bset fun _ => false) 101) (bset S)))
                      | ((with_reducible refine gate_ (.load 101 (.tmp 12)) rfl ?_); refine wpList_load_row rfl 101 (.tmp 12) rfl _ rfl _ _ _ _ (row_blk (cs' := bset S) (blk_new _ _)) Tryd.underlying101 rfl (szset' _) ?_)
                      | ((with_reducible refine gate_ (.store 101 (.tmp 93) (.tmp 91)) rfl ?_); refine wpList_store_mid rfl 101 (.tmp 93) (.tmp 91) rfl T 1 (bset S) rfl rfl (th_there (k := 0) HT3.out.2.2.1 _) (szset' _) (bset_all _) ?_))
                    go_meet
                    case rel => exact ⟨(0, S), b, rfl, hbl, by omega, ⟨HT3.out.set _, .inl rfl, HNX.out⟩⟩
                by_cases e92 : x = 92
                · have HNX := Aside0.mk (nx_mask (l := l.map RTd) (HX.out.trans e92))
                  clear hC e42 e36 e42b e46 e91
                  subst e92
                  by_cases hend : p.length ≤ a + 1
                  · have en : ((a : Int) + 1 == (p.length : Int)) = true := by rw [beq_iff_eq]; omega
                    have HF := Aside0.mk (show compileV p = (none, (a : Int), 110) by
                      have h := comp_fault (d := d) (f := (a : Int)) lt (by rw [HNX.out, if_pos hend]) (by omega)
                      unfold compileV
                      rw [if_neg HL.out, HN.out.2, h, if_pos (show (a : Int) ≥ 0 by omega)])
                    clear hend
                    go_wp2
                    refine bodyPost_ret (v := .tuple #[.slice none 0 0, .int .i64 a, .int .i64 110]) (by simp [results, Tryd.results39, go_sem]) rfl ?_
                    rw [HF.out]
                    exact ⟨_, [], rfl, ⟨HT.out.1, Kd.R_nil _ _ _ _ _, fun x hx => by cases hx⟩, by simp, fun pl h => by cases h⟩
                  · have en : ((a : Int) + 1 == (p.length : Int)) = false := beq_eq_false_iff_ne.mpr (by omega)
                    have l1 : a + 1 < p.length := by omega
                    have HB1 := fun {ov : Value} {l : List RT} {T : Nat} {y : RT} {wl : World} (h : TW w ov l T y wl) => h.byte1 HR.out.1 l1
                    have hu1 := HR.out.2 ((a : Int) + 1)
                    have HNX := Aside0.mk (HNX.out.trans (if_neg hend))
                    generalize rd p ((a : Int) + 1) = x1 at HB1 hu1 HNX
                    have HB2 := Aside0.mk (@HB1)
                    clear HB1
                    have hb0 := HB2.out HT.out
                    have q3 : (0 ≤ (a : Int) + 1) = True := eq_true (by omega)
                    have q4 : ((a : Int) + 1 < (p.length : Int)) = True := eq_true (by omega)
                    have t1 : ((a : Int) + 1).toNat = a + 1 := by omega
                    clear hend
                    by_cases e60 : x1 = 60
                    · have HNX := Aside0.mk (HNX.out.trans (if_pos e60))
                      subst e60
                      go_wp2_with (first
                        | (go_at_call 62; refine (rone_calls _ hu1 _).mono ?_; rintro e w2 ⟨rfl, hx⟩; have HT2 := Aside0.mk (HT.out.mv hx); clear hx)
                        | ((with_reducible refine gate_ (.store 101 (.tmp 109) (.tmp 108)) rfl ?_); refine wpList_store_mid rfl 101 (.tmp 109) (.tmp 108) rfl T 1 (bset fun j => j == (60 : Int).toNat) rfl rfl (th_there (k := 0) HT2.out.2.2.1 _) (szset' _) (bset_all _) ?_; have HT3 := Aside0.mk (HT2.out.set (fun j => j == (60 : Int).toNat)); generalize (w2.setCells T 1 (bset (fun j => j == (60 : Int).toNat)).toList) = W3 at HT3 ⊢; have hb1 := HB2.out HT3.out; have c0 : W3.cell? ⟨T, 0, none⟩ = some (.int .i64 0) := HT3.out.c0; have f0 := HT3.out.f0; have hb2 := HB2.out (HT3.out.kind 4))
                          | ((with_reducible refine gate_ (.store 3 (.tmp 118) (.const (.int .i64 4))) rfl ?_); refine wpl_st rfl 3 (.tmp 118) (.const (.int .i64 4)) rfl ⟨T, 0, none⟩ (.int .i64 4) rfl rfl (st_int c0 f0) ?_)
                          | ((with_reducible refine gate_ (.load 5 (.tmp 115)) rfl ?_); refine wpl_ld rfl 5 (.tmp 115) rfl ⟨ad.block, ad.off + (a + 1), none⟩ (.int .u8 60) rfl (ld_u8 hb1) ?_)
                          | ((with_reducible refine gate_ (.load 5 (.tmp 122)) rfl ?_); refine wpl_ld rfl 5 (.tmp 122) rfl ⟨ad.block, ad.off + (a + 1), none⟩ (.int .u8 60) rfl (ld_u8 hb2) ?_))
                      go_meet
                      case rel => exact ⟨(4, fun j => j == (60 : Int).toNat), a + 2, by congr 1, by omega, by omega, ⟨HT3.out.kind 4, by simp, HNX.out⟩⟩
                    · have e60b : (x1 == 60) = false := beq_eq_false_iff_ne.mpr e60
                      by_cases e62 : x1 = 62
                      · have HNX := Aside0.mk ((HNX.out.trans (if_neg e60)).trans (if_pos e62))
                        clear e60
                        subst e62
                        go_wp2_with (first
                          | (go_at_call 62; refine (rone_calls _ hu1 _).mono ?_; rintro e w2 ⟨rfl, hx⟩; have HT2 := Aside0.mk (HT.out.mv hx); clear hx)
                          | ((with_reducible refine gate_ (.store 101 (.tmp 109) (.tmp 108)) rfl ?_); refine wpList_store_mid rfl 101 (.tmp 109) (.tmp 108) rfl T 1 (bset fun j => j == (62 : Int).toNat) rfl rfl (th_there (k := 0) HT2.out.2.2.1 _) (szset' _) (bset_all _) ?_; have HT3 := Aside0.mk (HT2.out.set (fun j => j == (62 : Int).toNat)); generalize (w2.setCells T 1 (bset (fun j => j == (62 : Int).toNat)).toList) = W3 at HT3 ⊢; have hb1 := HB2.out HT3.out; have c0 : W3.cell? ⟨T, 0, none⟩ = some (.int .i64 0) := HT3.out.c0; have f0 := HT3.out.f0)
                          | ((with_reducible refine gate_ (.store 3 (.tmp 125) (.const (.int .i64 5))) rfl ?_); refine wpl_st rfl 3 (.tmp 125) (.const (.int .i64 5)) rfl ⟨T, 0, none⟩ (.int .i64 5) rfl rfl (st_int c0 f0) ?_)
                          | ((with_reducible refine gate_ (.load 5 (.tmp 115)) rfl ?_); refine wpl_ld rfl 5 (.tmp 115) rfl ⟨ad.block, ad.off + (a + 1), none⟩ (.int .u8 62) rfl (ld_u8 hb1) ?_)
                          | ((with_reducible refine gate_ (.load 5 (.tmp 122)) rfl ?_); refine wpl_ld rfl 5 (.tmp 122) rfl ⟨ad.block, ad.off + (a + 1), none⟩ (.int .u8 62) rfl (ld_u8 hb1) ?_))
                        go_meet
                        case rel => exact ⟨(5, fun j => j == (62 : Int).toNat), a + 2, by congr 1, by omega, by omega, ⟨HT3.out.kind 5, by simp, HNX.out⟩⟩
                      · have e62b : (x1 == 62) = false := beq_eq_false_iff_ne.mpr e62
                        have HNX := Aside0.mk ((HNX.out.trans (if_neg e60)).trans (if_neg e62))
                        clear e60 e62
                        go_wp2_with (first
                          | (go_at_call 62; refine (rone_calls _ hu1 _).mono ?_; rintro e w2 ⟨rfl, hx⟩; have HT2 := Aside0.mk (HT.out.mv hx); clear hx)
                          | ((with_reducible refine gate_ (.store 101 (.tmp 109) (.tmp 108)) rfl ?_); refine wpList_store_mid rfl 101 (.tmp 109) (.tmp 108) rfl T 1 (bset fun j => j == x1.toNat) rfl rfl (th_there (k := 0) HT2.out.2.2.1 _) (szset' _) (bset_all _) ?_; have HT3 := Aside0.mk (HT2.out.set (fun j => j == x1.toNat)); generalize (w2.setCells T 1 (bset (fun j => j == x1.toNat)).toList) = W3 at HT3 ⊢; have hb1 := HB2.out HT3.out)
                          | ((with_reducible refine gate_ (.load 5 (.tmp 115)) rfl ?_); refine wpl_ld rfl 5 (.tmp 115) rfl ⟨ad.block, ad.off + (a + 1), none⟩ (.int .u8 x1) rfl (ld_u8 hb1) ?_)
                          | ((with_reducible refine gate_ (.load 5 (.tmp 122)) rfl ?_); refine wpl_ld rfl 5 (.tmp 122) rfl ⟨ad.block, ad.off + (a + 1), none⟩ (.int .u8 x1) rfl (ld_u8 hb1) ?_))
                        go_meet
                        case rel => exact ⟨(0, fun j => j == x1.toNat), a + 2, by congr 1, by omega, by omega, ⟨HT3.out, .inl rfl, HNX.out⟩⟩
                have HNX := Aside0.mk (nx_byte (p := p) (a := a) (l := l.map RTd) (fun h => HN.out.1 h (by omega)) (by rw [HX.out]; exact e36) (by rw [HX.out]; exact e46) (by rw [HX.out]; exact e91) (by rw [HX.out]; exact e92) (by rw [HX.out]; exact e42))
                have e46b : (x == 46) = false := beq_eq_false_iff_ne.mpr e46
                have e91b : (x == 91) = false := beq_eq_false_iff_ne.mpr e91
                have e92b : (x == 92) = false := beq_eq_false_iff_ne.mpr e92
                by_cases e6 : x = 36
                · have en2 : ((a : Int) == (p.length : Int) - 1) = false := beq_eq_false_iff_ne.mpr (by have : ¬ a + 1 = p.length := fun h => e36 ⟨e6, h⟩; omega)
                  clear hC e42 e36 e46 e91 e92
                  subst e6
                  go_wp2
                  go_meet
                  case rel => exact ⟨(0, fun j => j == (36 : Int).toNat), a + 1, by congr 1, by omega, by omega, ⟨HT.out, .inl rfl, by rw [HNX.out, HX.out]; rfl⟩⟩
                · have e36b : (x == 36) = false := beq_eq_false_iff_ne.mpr e6
                  clear hC e42 e36 e46 e91 e92 e6
                  go_wp2
                  go_meet
                  case rel => exact ⟨(0, fun j => j == x.toNat), a + 1, by congr 1, by omega, by omega, ⟨HT.out, .inl rfl, by rw [HNX.out, HX.out]; rfl⟩⟩
            case rest => as_aux_lemma =>
              obtain ⟨y, a', rfl, ha'1, ha'2, HY⟩ := hcut
              clear HT HX hbyte hxr HSB
              have hTl := blk_lt HY.out.1.2.2.1
              have hbs := HY.out.1.1.size
              have HC := Aside0.mk (comp_step (d := d) lt HY.out.2.2)
              go_wp2_with (first
                | ((with_reducible refine gate_ (.load 103 (.tmp 10)) rfl ?_); refine wpList_load_row rfl 103 (.tmp 10) rfl T rfl _ (tcells y) _ _ HY.out.1.2.2.1 Tryd.underlying103 rfl (szth' _) ?_)
                | ((with_reducible refine gate_ (.buildSlice 73 1 #[(0, .tmp 127)]) rfl ?_); refine wpl_thing rfl (.tmp 127) rfl y rfl ?_)
                | (at_builtin; refine Kd.R_append kR (w0 := w) w.heap.size rfl (.tmp 126) (.tmp 128) 73 103 (.agg (tcells (0, fun _ => false))) 264 rfl Tryd.underlying73 infoR (by rfl) (by decide) (by omega) u5 l y (tcl y) (fun k => k ≠ T) (fun _ => False) rfl rfl (kR_M _ _ _ _) (fun _ hk => hk.elim) (fun k hk => by omega) HY.out.1.2.1 HY.out.1.1 hbs (by omega) ?_; intro v1 w3 hR1 hB1 hG1 hat; have BT := blk_grown HY.out.1.2.2.1 hG1 (fun e => HY.out.1.2.1.1 T e.symm rfl); have c0 : w3.cell? ⟨T, 0, none⟩ = some (.int .i64 y.1) := (blk_cell BT 0).trans rfl; have HG := Aside0.mk (And.intro hB1 hR1); clear hR1 hB1 hG1 hat BT)
                | ((with_reducible refine gate_ (.load 3 (.tmp 130)) rfl ?_); refine wpl_ld rfl 3 (.tmp 130) rfl ⟨T, 0, none⟩ (.int .i64 y.1) rfl (ld_int c0) ?_))
              go_roundg d
              case measure => omega
              case rel =>
                have hs := starB_snoc (l.map RTd) y HY.out.2.1
                refine ⟨a', l ++ [y], rfl, ?_, ?_, ha'1, by simp; omega, by omega, ⟨⟨HG.out.1, Kd.R_mono HG.out.2 (fun _ _ => trivial), fun x hx => ?_⟩, fun h => by omega, ?_⟩⟩
                · rw [List.map_append, List.map_singleton, hs.1]
                · rw [List.map_append, List.map_singleton, hs.2]
                · rcases List.mem_append.1 hx with hx | hx
                  · exact HY.out.1.2.2.2.2 x hx
                  · rw [List.mem_singleton.1 hx]
                    have := HY.out.2.1
                    omega
                · rw [HN.out.2, HC.out, List.map_append, List.map_singleton]
          · have q0 : decide ((a : Int) < (p.length : Int)) = false := decide_eq_false (by omega)
            have HE := Aside0.mk (show compileV p = (some (l.map RTd), 0, 0) by unfold compileV; rw [if_neg HL.out, HA.out.2.2, compL_end lt]; exact if_neg (show ¬ ((-1 : Int) ≥ 0) by decide))
            go_wp2
            refine bodyPost_ret (v := .tuple #[u5, .int .i64 0, .int .i64 0]) (by simp [results, Tryd.results39, go_sem]) rfl ?_
            rw [HE.out]
            exact ⟨_, l, rfl, HA.out.1, by omega, fun pl h => by injection h⟩
end Go.Proofs.YtffpkldphkmjmaaDoor.PT
end
section
namespace Go.Proofs.YtffpkldphkmjmaaDoor.PT
open Go.RowKit Go.Proofs.YtffpkldphkmjmaaDoorW.PrintWords Go.Proofs.YtffpkldphkmjmaaDoorW.PrintMore Go.Proofs.YtffpkldphkmjmaaDoor.XO
set_option linter.unusedVariables false
theorem compileV_or (p : List Int) : (∃ pl, compileV p = (some pl, 0, 0)) ∨ ∃ a e, compileV p = (none, a, e) ∧ (e = 1 ∨ e = 110) := by
  unfold compileV
  split
  · exact .inr ⟨_, _, rfl, .inl rfl⟩
  · split
    · exact .inr ⟨_, _, rfl, .inr rfl⟩
    · exact .inl ⟨_, rfl⟩
set_option maxHeartbeats 2000000 in
set_option maxRecDepth 100000 in
theorem rcompile_calls {w : World} {A : Option Addr} {c : Nat} {p : List Int} (hr : Kd.C (Kd.int .u8) w A p.length p) (hu : ∀ i, 0 ≤ rd p i ∧ rd p i ≤ 255) :
    Calls Tryd.prog 25 #[.slice A p.length c] w fun e w' => e = .returned (.tuple #[.int .i64 (compileV p).2.1, .int .i64 (compileV p).2.2]) ∧ Below w.heap.size w w' := by
  have HT := Aside0.mk (rthings_calls (c := c) hr hu)
  clear hr hu
  generalize compileV p = r at HT ⊢
  obtain ⟨r1, r2, r3⟩ := r
  simp only at HT ⊢
  go_enter Tryd.func25, Tryd.ntmps25
  go_wp2_with (go_at_call 39; refine HT.out.mono ?_; rintro e w' ⟨v, l, rfl, hx, _, _⟩; have H1 := Aside0.mk hx.1; clear hx)
  exact bodyPost_ret (v := .tuple #[.int .i64 r2, .int .i64 r3]) (by simp [results, Tryd.results25, go_sem]) rfl ⟨rfl, H1.out⟩
theorem ok_u8 {B : Nat} {l : List Int} (h : okSl B okU8 l) (i : Int) : 0 ≤ rd l i ∧ rd l i ≤ 255 := by
  unfold rd
  rw [List.getD_eq_getElem?_getD]
  cases e : l[i.toNat]? with
  | none => simp
  | some x =>
    have h1 := h.2 x (List.mem_of_getElem? e)
    unfold okU8 at h1
    simp only [Option.getD_some]
    omega
theorem sum_len (l : List Int) : l.length ≤ (l.map szOne).sum := by
  induction l with
  | nil => simp
  | cons x l ih => simp [szOne] at ih ⊢; omega
theorem str_app (xs ys : List Int) : strOfNums (xs ++ ys) = strOfNums xs ++ strOfNums ys := by
  unfold strOfNums
  apply ByteArray.ext
  simp
end Go.Proofs.YtffpkldphkmjmaaDoor.PT
end
section
namespace Go.Proofs.YtffpkldphkmjmaaDoor.PT
open Go.RowKit Go.Proofs.YtffpkldphkmjmaaDoorW.PrintWords Go.Proofs.YtffpkldphkmjmaaDoorW.PrintMore
set_option linter.unusedVariables false
theorem rcompiles_calls {w : World} {A : Option Addr} {c : Nat} {p : List Int} (hr : Kd.C (Kd.int .u8) w A p.length p) (hu : ∀ i, 0 ≤ rd p i ∧ rd p i ≤ 255) :
    Calls Tryd.prog 12 #[.slice A p.length c] w fun e w' => e = .returned (.int .i64 (compileV p).2.2) ∧ Below w.heap.size w w' := by
  have HC := Aside0.mk (rcompile_calls (c := c) hr hu)
  go_enter Tryd.func12, Tryd.ntmps12
  go_wp2_with (go_at_call 25; (with_reducible refine HC.out.mono ?_); rintro e w1 ⟨rfl, hx⟩; have H1 := Aside0.mk hx; clear hx)
  exact bodyPost_ret (v := .int .i64 (compileV p).2.2) (by simp [results, Tryd.results12, go_sem]) rfl ⟨rfl, H1.out⟩
set_option maxHeartbeats 1000000 in
set_option maxRecDepth 100000 in
theorem compiled_calls {w : World} {A0 A1 : Option Addr} {n0 c0 c1 : Nat} {p : List Int} {a2 a3 : Int} {b4 : Bool} (hr : Kd.C (Kd.int .u8) w A1 p.length p) (hu : ∀ i, 0 ≤ rd p i ∧ rd p i ≤ 255) :
    Calls Tryd.prog 11 #[.agg #[.slice A0 n0 c0, .slice A1 p.length c1, .int .i64 a2, .int .i64 a3, .bool b4]] w fun e w' => ∃ v, e = .returned (.tuple #[v, .bool (compileV p).1.isSome]) ∧ Below w.heap.size w w' ∧ PatO w' w.heap.size v (compileV p).1 := by
  have HB := Aside0.mk (below_alloc (Below.refl w.heap.size w) (.cells #[.slice A0 n0 c0, .slice A1 p.length c1, .int .i64 a2, .int .i64 a3, .bool b4] 24))
  have BX := Aside0.mk (blk_new w (.cells #[.slice A0 n0 c0, .slice A1 p.length c1, .int .i64 a2, .int .i64 a3, .bool b4] 24))
  have HC := Aside0.mk (compile_calls (c := c1) (Kd.C_below hr HB.out) hu)
  have HR : Aside0 (∀ W, Below w.heap.size w W → Calls Tryd.prog 12 #[.slice A1 p.length c1] W fun e w' => e = .returned (.int .i64 (compileV p).2.2) ∧ Below W.heap.size W w') := ⟨fun W h => rcompiles_calls (Kd.C_below hr h) hu⟩
  clear hr hu
  have hor := compileV_or p
  have PO : ∀ {w' : World} {v : Value} {o : Option (List PTh)}, PatO w' (w.alloc (.cells #[.slice A0 n0 c0, .slice A1 p.length c1, .int .i64 a2, .int .i64 a3, .bool b4] 24)).heap.size v o → PatO w' w.heap.size v o := fun {w' v o} h => by
    cases o with
    | none => exact h
    | some pl =>
      obtain ⟨b, A1, c1, l, e1, e2, e3, e4, e5, e6, e7⟩ := h
      exact ⟨b, A1, c1, l, e1, Nat.le_trans HB.out.size e2, e3, Kd.R_lower e4 HB.out.size, e5, e6, e7⟩
  have HPO := Aside0.mk @PO
  clear PO
  generalize compileV p = r at HC HR hor
  rcases hor with ⟨pl, rfl⟩ | ⟨a, e, rfl, he⟩
  · simp only at HC HR
    go_enter Tryd.func11, Tryd.ntmps11
    go_wp2_with (first
      | (go_at_call 16; (with_reducible refine HC.out.mono ?_); rintro e w1 ⟨v1, rfl, hx, hp⟩; have c1 := (blk_cell (blk_below BX.out hx) 1).trans rfl; have H1 := Aside0.mk (And.intro (below_step HB.out hx) hp); clear hx hp)
      | (go_at_call 12; (with_reducible refine (HR.out _ H1.out.1).mono ?_); rintro e w2 ⟨rfl, hx⟩; have H2 := Aside0.mk hx; clear hx))
    exact bodyPost_ret (v := .tuple #[v1, .bool true]) (by simp [results, Tryd.results11, go_sem]) rfl ⟨_, rfl, below_step H1.out.1 H2.out, PatO_below (HPO.out H1.out.2) H2.out⟩
  · simp only at HC HR
    have n1 : (e = 0) = False := eq_false (by omega)
    have n2 : (e == 0) = false := beq_eq_false_iff_ne.2 (by omega)
    go_enter Tryd.func11, Tryd.ntmps11
    go_wp2_with (go_at_call 16; (with_reducible refine HC.out.mono ?_); rintro e w1 ⟨v1, rfl, hx, hp⟩; have H1 := Aside0.mk (And.intro (below_step HB.out hx) hp); clear hx hp)
    exact bodyPost_ret (v := .tuple #[v1, .bool false]) (by simp [results, Tryd.results11, go_sem]) rfl ⟨_, rfl, H1.out.1, HPO.out H1.out.2⟩
end Go.Proofs.YtffpkldphkmjmaaDoor.PT
end
