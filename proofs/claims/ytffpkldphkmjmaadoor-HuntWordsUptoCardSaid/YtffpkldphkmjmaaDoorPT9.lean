/-
  Patterns, by hand: Find and All.
-/
import Derived.Test.YtffpkldphkmjmaaDoorPT8
import Derived.Test.YtffpkldphkmjmaaDoorX6
namespace Go.Proofs.YtffpkldphkmjmaaDoor.PT
open Go.RowKit Go.Proofs.YtffpkldphkmjmaaDoorW.PrintWords Go.Proofs.YtffpkldphkmjmaaDoorW.PrintMore
set_option linter.unusedVariables false
/-- The least place from a on with a match. -/
def firstV (E : List Int) : Nat → Int → Int × Bool
  | 0, _ => (0, false)
  | d + 1, a => if a < (E.length : Int) then (if rd E a ≥ 0 then (a, true) else firstV E d (a + 1)) else (0, false)
theorem iv_C {w : World} {br : Nat} {E : List Int} (h : w.heap[br]? = some (.cells (iv E) 3 (0, 0))) (hl : E.length ≤ 281474976710656) : Kd.C (Kd.int .i64) w (some ⟨br, 0, none⟩) E.length E := by
  refine Kd.C_of_reads (enc := Value.int .i64) (d := (0 : Int)) (h1 := fun _ => rfl) ⟨rfl, by omega, fun _ => ⟨_, rfl, fun j hj => ?_⟩⟩
  have h1 := (blk_cell h j).trans (iv_get hj)
  rw [rd, Int.toNat_natCast] at h1
  cases j with
  | zero => simpa [Addr.add] using h1
  | succ j => simpa [Addr.add] using h1
theorem endsV_len (line : List Int) (l : List PTh) : (endsV line l).length = line.length + 1 := by
  cases l with
  | nil => simp [endsV, endsI]
  | cons x l => cases x <;> simp [endsV, stepV, mask]
theorem first_l0 (E : List Int) (hE : E.length ≤ 281474976710656) : ∀ (d : Nat) (a : Int), 0 ≤ a → 0 < d → (E.length : Int) < a + d → X.pattern_first.l0 d E a = some (firstV E d a) := by
  intro d
  induction d with
  | zero =>
    intro a h0 h1 h2
    exact absurd h1 (by omega)
  | succ d ih =>
    intro a h0 h1 h2
    unfold X.pattern_first.l0 firstV
    by_cases h3 : a < (E.length : Int)
    · rw [if_pos h3, if_pos h0, if_pos h3, show wrap64 (a + 1) = a + 1 from by unfold wrap64; omega, ih (a + 1) (by omega) (by omega) (by omega)]
      split <;> rfl
    · rw [if_neg h3, if_neg h3]
theorem first_plain {w : World} {br : Nat} {E : List Int} (h : w.heap[br]? = some (.cells (iv E) 3 (0, 0))) (hl : E.length ≤ 281474976710656) (a : Int) (h0 : 0 ≤ a) :
    Calls Tryd.prog 34 #[.slice (some ⟨br, 0, none⟩) E.length E.length, .int .i64 a] w fun e w' => e = .returned (.tuple #[.int .i64 (firstV E (E.length + 2) a).1, .bool (firstV E (E.length + 2) a).2]) ∧ Drawn0 w w' :=
  X.pattern_first.calls (E.length + 2) _ _ E a _ _ w (iv_C h hl) (Nat.le_refl _) (first_l0 E hl _ a h0 (by omega) (by omega))
theorem firstV_rd (E : List Int) : ∀ (d : Nat) (a : Int), (firstV E d a).2 = true → a ≤ (firstV E d a).1 ∧ (firstV E d a).1 < E.length ∧ 0 ≤ rd E (firstV E d a).1 := by
  intro d
  induction d with
  | zero => intro a h; cases h
  | succ d ih =>
    intro a
    unfold firstV
    by_cases h3 : a < (E.length : Int)
    · rw [if_pos h3]
      by_cases h4 : rd E a ≥ 0
      · rw [if_pos h4]; exact fun _ => ⟨Int.le_refl _, h3, h4⟩
      · rw [if_neg h4]
        intro h
        have h5 := ih (a + 1) h
        exact ⟨by omega, h5.2⟩
    · rw [if_neg h3]; intro h; cases h
/-- What Find comes to. -/
def findV (line : List Int) (l : List PTh) (from_ : Int) : Int × Int × Bool :=
  if from_ < 0 ∨ from_ > line.length then (0, 0, false)
  else if (firstV (endsV line l) (line.length + 1 + 2) from_).2 = true then ((firstV (endsV line l) (line.length + 1 + 2) from_).1, rd (endsV line l) (firstV (endsV line l) (line.length + 1 + 2) from_).1, true)
  else (0, 0, false)
set_option maxHeartbeats 4000000 in
set_option maxRecDepth 100000 in
theorem find_none {w : World} {A : Option Addr} {c n : Nat} {from_ : Int} :
    Calls Tryd.prog 23 #[.pointer none, .slice A n c, .int .i64 from_] w fun e w' => e = .returned (.tuple #[.int .i64 0, .int .i64 0, .bool false]) ∧ Below w.heap.size w w' := by
  go_enter Tryd.func23, Tryd.ntmps23
  go_wp2
  exact bodyPost_ret (v := .tuple #[.int .i64 0, .int .i64 0, .bool false]) (by simp [results, Tryd.results23, go_sem]) rfl ⟨rfl, Below.refl _ _⟩
set_option maxHeartbeats 4000000 in
set_option maxRecDepth 100000 in
theorem find_calls {w : World} {A : Option Addr} {c : Nat} {line : List Int} {v : Value} {base : Nat} {pl : List PTh} {from_ : Int} (hr : Kd.C (Kd.int .u8) w A line.length line) (hu : ∀ i, 0 ≤ rd line i ∧ rd line i ≤ 255)
    (hn : (line.length + 1) * 8 ≤ 281474976710656) (hc : line.length ≤ c) (hp : PatO w base v (some pl)) :
    Calls Tryd.prog 23 #[v, .slice A line.length c, .int .i64 from_] w fun e w' => e = .returned (.tuple #[.int .i64 (findV line pl from_).1, .int .i64 (findV line pl from_).2.1, .bool (findV line pl from_).2.2]) ∧ Below w.heap.size w w' := by
  obtain ⟨b, A1, c1, l, rfl, hb, BK, HO, HS, hl, rfl⟩ := hp
  have HK : kTh.C w A1 l.length l := (Kd.R_reads' HO).2.2
  have HE := Aside0.mk (ends_calls hr hu hn BK HK HS hl hc)
  clear HO HS HK BK hb hr hu
  by_cases h0 : from_ < 0
  · have hd : decide (from_ < 0) = true := decide_eq_true h0
    have HV := Aside0.mk (show findV line (l.map den) from_ = (0, 0, false) from if_pos (.inl h0))
    clear h0
    go_enter Tryd.func23, Tryd.ntmps23
    go_wp2
    refine bodyPost_ret (v := .tuple #[.int .i64 0, .int .i64 0, .bool false]) (by simp [results, Tryd.results23, go_sem]) rfl ?_
    rw [HV.out]
    exact ⟨rfl, Below.refl _ _⟩
  by_cases h1 : from_ > (line.length : Int)
  · have hd : decide (from_ < 0) = false := decide_eq_false h0
    have hd2 : decide ((line.length : Int) < from_) = true := decide_eq_true h1
    have HV := Aside0.mk (show findV line (l.map den) from_ = (0, 0, false) from if_pos (.inr h1))
    clear h0 h1
    go_enter Tryd.func23, Tryd.ntmps23
    go_wp2
    refine bodyPost_ret (v := .tuple #[.int .i64 0, .int .i64 0, .bool false]) (by simp [results, Tryd.results23, go_sem]) rfl ?_
    rw [HV.out]
    exact ⟨rfl, Below.refl _ _⟩
  have hd : decide (from_ < 0) = false := decide_eq_false h0
  have hd2 : decide ((line.length : Int) < from_) = false := decide_eq_false h1
  go_enter Tryd.func23, Tryd.ntmps23
  have hl2 := endsV_len line (l.map den)
  have HF : Aside0 (∀ w' : World, w'.heap[w.heap.size + 1]? = some (.cells (iv (endsV line (l.map den))) 3 (0, 0)) → Calls Tryd.prog 34 #[.slice (some ⟨w.heap.size + 1, 0, none⟩) (line.length + 1) (line.length + 1), .int .i64 from_] w' fun e w'' => e = .returned (.tuple #[.int .i64 (firstV (endsV line (l.map den)) (line.length + 1 + 2) from_).1, .bool (firstV (endsV line (l.map den)) (line.length + 1 + 2) from_).2]) ∧ Drawn0 w' w'') := ⟨fun w' h => by
    have h2 := first_plain h (by omega) from_ (by omega)
    rw [hl2] at h2
    exact h2⟩
  have HV := Aside0.mk (show findV line (l.map den) from_ = if (firstV (endsV line (l.map den)) (line.length + 1 + 2) from_).2 = true then ((firstV (endsV line (l.map den)) (line.length + 1 + 2) from_).1, rd (endsV line (l.map den)) (firstV (endsV line (l.map den)) (line.length + 1 + 2) from_).1, true) else (0, 0, false) from if_neg (by omega))
  have hrd := firstV_rd (endsV line (l.map den)) (line.length + 1 + 2) from_
  generalize endsV line (l.map den) = E at HE HF HV hl2 hrd
  generalize firstV E (line.length + 1 + 2) from_ = r at HF HV hrd
  obtain ⟨r1, r2⟩ := r
  cases r2
  · go_wp2_with (first
      | (go_at_call 33; refine HE.out.mono ?_; rintro e w' ⟨rfl, hx⟩; have HX := Aside0.mk hx; clear hx)
      | (go_at_call 34; refine (HF.out _ HX.out.2).mono ?_; rintro e w'' ⟨rfl, ⟨nd, rfl⟩⟩))
    refine bodyPost_ret (v := .tuple #[.int .i64 0, .int .i64 0, .bool false]) (by simp [results, Tryd.results23, go_sem]) rfl ?_
    rw [HV.out]
    exact ⟨rfl, pw_below_drewN HX.out.1 nd⟩
  · have hrd := hrd rfl
    obtain ⟨k, rfl⟩ : ∃ k : Nat, r1 = (k : Int) := ⟨r1.toNat, by simp only at hrd; omega⟩
    simp only at hrd HF HV
    have q1 : (0 ≤ (k : Int)) = True := eq_true (by omega)
    have q2 : ((k : Int) < (line.length : Int) + 1) = True := eq_true (by omega)
    go_wp2_with (first
      | (go_at_call 33; refine HE.out.mono ?_; rintro e w' ⟨rfl, hx⟩; have ce : w'.cell? ⟨w.heap.size + 1, k, none⟩ = some (.int .i64 (rd E (k : Int))) := (blk_cell hx.2 k).trans (iv_get (by omega)); have HX := Aside0.mk hx; clear hx)
      | (go_at_call 34; refine (HF.out _ HX.out.2).mono ?_; rintro e w'' ⟨rfl, ⟨nd, rfl⟩⟩))
    go_quiet (fail)
    go_wp2
    refine bodyPost_ret (v := .tuple #[.int .i64 (k : Int), .int .i64 (rd E (k : Int)), .bool true]) (by simp [results, Tryd.results23, go_sem]) rfl ?_
    rw [HV.out]
    exact ⟨rfl, pw_below_drewN (pw_below_drewN HX.out.1 _) _⟩
end Go.Proofs.YtffpkldphkmjmaaDoor.PT
