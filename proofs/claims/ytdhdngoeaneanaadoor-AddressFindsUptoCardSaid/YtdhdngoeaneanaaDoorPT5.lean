/-
  Patterns, by hand: what Compile comes to.
-/
import Derived.Test.YtdhdngoeaneanaaDoorPT4
namespace Go.Proofs.YtdhdngoeaneanaaDoor.PT
open Go.RowKit Go.Proofs.YtdhdngoeaneanaaDoorW.PrintWords Go.Proofs.YtdhdngoeaneanaaDoorW.PrintMore
set_option linter.unusedVariables false
/-- A thing of a pattern, plainly. -/
inductive PTh where
  | single (S : Nat → Bool)
  | many (S : Nat → Bool)
  | front
  | back
  | opens
  | closes
def den : Th → PTh
  | .single _ S => .single S
  | .many _ S => .many S
  | .front => .front
  | .back => .back
  | .opens => .opens
  | .closes => .closes
/-- What a * makes: the fault (-1: none), the things. -/
def starV (a : Nat) (l : List PTh) : Int × List PTh :=
  match l.getLast? with
  | none => (-1, l ++ [.single fun j => j == 42])
  | some (.single S) => (-1, l.dropLast ++ [.many S])
  | some .front => (-1, l ++ [.single fun j => j == 42])
  | some _ => ((a : Int), l)
/-- One thing more: the place, the fault, the things. -/
def nextV (p : List Int) (a : Nat) (l : List PTh) : Nat × Int × List PTh :=
  if rd p a = 94 ∧ a = 0 then (a + 1, -1, l ++ [.front])
  else if rd p a = 36 ∧ a + 1 = p.length then (a + 1, -1, l ++ [.back])
  else if rd p a = 46 then (a + 1, -1, l ++ [.single fun j => decide (j < 256)])
  else if rd p a = 91 then ((brkV p (a + 1) (-1)).2.1, (brkV p (a + 1) (-1)).2.2, l ++ [.single (brkV p (a + 1) (-1)).1])
  else if rd p a = 42 then (a + 1, (starV a l).1, (starV a l).2)
  else if rd p a = 92 then
    (if p.length ≤ a + 1 then (a + 1, (a : Int), l)
     else if rd p ((a : Int) + 1) = 60 then (a + 2, -1, l ++ [.opens])
     else if rd p ((a : Int) + 1) = 62 then (a + 2, -1, l ++ [.closes])
     else (a + 2, -1, l ++ [.single fun j => j == (rd p ((a : Int) + 1)).toNat]))
  else (a + 1, -1, l ++ [.single fun j => j == (rd p a).toNat])
theorem brkL_ge {p : List Int} : ∀ (d a : Nat) (tu : Int) (f : Bool) (S : Nat → Bool), a ≤ (brkL p d a tu f S).2.1 := by
  intro d
  induction d with
  | zero => intro a tu f S; exact Nat.le_refl _
  | succ d ih =>
    intro a tu f S
    unfold brkL
    split
    · exact Nat.le_refl _
    · split
      · exact Nat.le_succ _
      · split
        · exact Nat.le_trans (by omega) (ih (a + 3) _ _ _)
        · exact Nat.le_trans (by omega) (ih (a + 1) _ _ _)
theorem brkV_ge (p : List Int) (a : Nat) (f : Int) : a ≤ (brkV p a f).2.1 := by
  have h : a ≤ (brkR p a).2.1 := by
    unfold brkR
    refine Nat.le_trans ?_ (brkL_ge _ _ _ _ _)
    split <;> omega
  unfold brkV
  split <;> exact h
theorem nextV_ge (p : List Int) (a : Nat) (l : List PTh) : a + 1 ≤ (nextV p a l).1 := by
  unfold nextV
  split
  · exact Nat.le_refl _
  split
  · exact Nat.le_refl _
  split
  · exact Nat.le_refl _
  split
  · exact brkV_ge _ _ _
  split
  · exact Nat.le_refl _
  split
  · split
    · exact Nat.le_refl _
    split
    · exact Nat.le_succ _
    split
    · exact Nat.le_succ _
    · exact Nat.le_succ _
  · exact Nat.le_refl _
theorem star_len (a : Nat) (l : List PTh) : (starV a l).2.length ≤ l.length + 1 := by
  unfold starV
  split
  all_goals first | (simp; done) | (simp; omega)
theorem nextV_len (p : List Int) (a : Nat) (l : List PTh) : (nextV p a l).2.2.length ≤ l.length + 1 := by
  have h := star_len a l
  unfold nextV
  repeat' split
  all_goals first | exact h | simp
/-- What next comes to. -/
theorem next_calls {w0 w : World} {r : Nat} {A : Option Addr} {c : Nat} {p : List Int} {a : Nat} {l : List Th} (h : RI w0 r A c p (a : Int) (-1) l w) (hr : Kd.C (Kd.int .u8) w0 A p.length p) (ha : a < p.length) (hp : p.length ≤ 256) (hl : l.length ≤ 300) (hu : ∀ i, 0 ≤ rd p i ∧ rd p i ≤ 255) :
    Calls Tryd.prog 41 #[.pointer (some ⟨r, 0, none⟩)] w fun e w' => e = .returned (.tuple #[]) ∧ ∃ l', RI w0 r A c p ((nextV p a (l.map den)).1 : Int) (nextV p a (l.map den)).2.1 l' w' ∧ l'.map den = (nextV p a (l.map den)).2.2 := by
  by_cases h94 : rd p a = 94
  · by_cases ha0 : a = 0
    · rw [show nextV p a (l.map den) = (a + 1, -1, l.map den ++ [.front]) from if_pos ⟨h94, ha0⟩]
      exact (next_front h hr ha hp (by omega) h94 ha0).mono fun e w' ⟨h1, h2⟩ => ⟨h1, _, h2, by simp [den]⟩
    · rw [show nextV p a (l.map den) = (a + 1, -1, l.map den ++ [.single fun j => j == (rd p a).toNat]) from by
        unfold nextV; rw [if_neg (fun h => ha0 h.2), if_neg (by omega), if_neg (by omega), if_neg (by omega), if_neg (by omega), if_neg (by omega)]]
      exact (next_caret h hr ha hp (by omega) h94 ha0).mono fun e w' ⟨h1, k, h2⟩ => ⟨h1, _, h2, by simp [den, h94]⟩
  by_cases h36 : rd p a = 36
  · by_cases ha1 : a + 1 = p.length
    · rw [show nextV p a (l.map den) = (a + 1, -1, l.map den ++ [.back]) from by unfold nextV; rw [if_neg (fun h => h94 h.1), if_pos ⟨h36, ha1⟩]]
      exact (next_back h hr ha hp (by omega) h36 ha1).mono fun e w' ⟨h1, h2⟩ => ⟨h1, _, h2, by simp [den]⟩
    · rw [show nextV p a (l.map den) = (a + 1, -1, l.map den ++ [.single fun j => j == (rd p a).toNat]) from by
        unfold nextV; rw [if_neg (by omega), if_neg (fun h => ha1 h.2), if_neg (by omega), if_neg (by omega), if_neg (by omega), if_neg (by omega)]]
      exact (next_dollar h hr ha hp (by omega) h36 ha1).mono fun e w' ⟨h1, k, h2⟩ => ⟨h1, _, h2, by simp [den, h36]⟩
  by_cases h46 : rd p a = 46
  · rw [show nextV p a (l.map den) = (a + 1, -1, l.map den ++ [.single fun j => decide (j < 256)]) from by unfold nextV; rw [if_neg (by omega), if_neg (by omega), if_pos h46]]
    exact (next_dot h hr ha hp (by omega) h46).mono fun e w' ⟨h1, k, h2⟩ => ⟨h1, _, h2, by simp [den]⟩
  by_cases h91 : rd p a = 91
  · rw [show nextV p a (l.map den) = ((brkV p (a + 1) (-1)).2.1, (brkV p (a + 1) (-1)).2.2, l.map den ++ [.single (brkV p (a + 1) (-1)).1]) from by unfold nextV; rw [if_neg (by omega), if_neg (by omega), if_neg h46, if_pos h91]]
    exact (next_set h hr ha hp (by omega) h91 hu).mono fun e w' ⟨h1, k, h2⟩ => ⟨h1, _, h2, by simp [den]⟩
  by_cases h42 : rd p a = 42
  · rw [show nextV p a (l.map den) = (a + 1, (starV a (l.map den)).1, (starV a (l.map den)).2) from by unfold nextV; rw [if_neg (by omega), if_neg (by omega), if_neg h46, if_neg h91, if_pos h42]]
    refine (next_star h hr ha hp (by omega) h42 (Post := fun w' => ∃ l', RI w0 r A c p ((a + 1 : Nat) : Int) (starV a (l.map den)).1 l' w' ∧ l'.map den = (starV a (l.map den)).2) (fun W hW => ?_))
    rcases List.eq_nil_or_concat l with rfl | ⟨l0, x, rfl⟩
    · exact (star_empty hW rfl).mono fun e w' ⟨h1, k, h2⟩ => ⟨h1, _, h2, rfl⟩
    · rw [List.concat_eq_append] at hW hl ⊢
      have hlen : l0.length ≤ 1000 := by simp at hl; omega
      have hg : ((l0 ++ [x]).map den).getLast? = some (den x) := by simp
      have hd : ((l0 ++ [x]).map den).dropLast = l0.map den := by simp
      have oth : isOther x → starV a ((l0 ++ [x]).map den) = ((a : Int), (l0 ++ [x]).map den) := fun ho => by
        unfold starV
        rw [hg]
        cases x with
        | single k S => exact ho.elim
        | front => exact ho.elim
        | many k S => rfl
        | back => rfl
        | opens => rfl
        | closes => rfl
      have other : isOther x → Calls Tryd.prog 64 #[.pointer (some ⟨r, 0, none⟩)] W fun e w' => e = .returned (.tuple #[]) ∧ ∃ l', RI w0 r A c p ((a + 1 : Nat) : Int) (starV a ((l0 ++ [x]).map den)).1 l' w' ∧ l'.map den = (starV a ((l0 ++ [x]).map den)).2 := fun ho => by
        rw [oth ho]
        refine (star_other hW hlen ho (by omega)).mono fun e w' ⟨h1, h2⟩ => ⟨h1, _, ?_, rfl⟩
        rw [show (a : Int) = ((a + 1 : Nat) : Int) - 1 from by omega]
        exact h2
      cases x with
      | single k S =>
        rw [show starV a ((l0 ++ [Th.single k S]).map den) = (-1, l0.map den ++ [.many S]) from by unfold starV; rw [hg, hd]; rfl]
        exact (star_single hW hlen).mono fun e w' ⟨h1, h2⟩ => ⟨h1, _, h2, by simp [den]⟩
      | front =>
        rw [show starV a ((l0 ++ [Th.front]).map den) = (-1, (l0 ++ [Th.front]).map den ++ [.single fun j => j == 42]) from by unfold starV; rw [hg]; rfl]
        exact (star_front hW rfl (by simp at hl ⊢; omega)).mono fun e w' ⟨h1, k, h2⟩ => ⟨h1, _, h2, by simp [den]⟩
      | many k S => exact other trivial
      | back => exact other trivial
      | opens => exact other trivial
      | closes => exact other trivial
  by_cases h92 : rd p a = 92
  · have e0 : nextV p a (l.map den) = (if p.length ≤ a + 1 then (a + 1, (a : Int), l.map den) else if rd p ((a : Int) + 1) = 60 then (a + 2, -1, l.map den ++ [.opens]) else if rd p ((a : Int) + 1) = 62 then (a + 2, -1, l.map den ++ [.closes]) else (a + 2, -1, l.map den ++ [.single fun j => j == (rd p ((a : Int) + 1)).toNat])) := by
      unfold nextV
      rw [if_neg (by omega), if_neg (by omega), if_neg h46, if_neg h91, if_neg h42, if_pos h92]
    have e1 : ((a + 1 : Nat) : Int) = (a : Int) + 1 := by omega
    have e2 : ((a + 2 : Nat) : Int) = ((a + 1 : Nat) : Int) + 1 := by omega
    refine (next_mask h hr ha hp (by omega) h92 (Post := fun w' => ∃ l', RI w0 r A c p ((nextV p a (l.map den)).1 : Int) (nextV p a (l.map den)).2.1 l' w' ∧ l'.map den = (nextV p a (l.map den)).2.2) (fun W hW => ?_))
    by_cases hend : p.length ≤ a + 1
    · rw [e0, if_pos hend]
      refine (masked_end hW (by omega) (by omega)).mono fun e w' ⟨h1, h2⟩ => ⟨h1, _, ?_, rfl⟩
      show RI w0 r A c p ((a + 1 : Nat) : Int) (a : Int) l w'
      rw [show (a : Int) = ((a + 1 : Nat) : Int) - 1 from by omega]
      exact h2
    · rw [e0, if_neg hend, ← e1]
      by_cases h60 : rd p ((a + 1 : Nat) : Int) = 60
      · rw [if_pos h60]
        refine (masked_opens hW hr (by omega) (by omega) (by omega) h60 (by omega)).mono fun e w' ⟨h1, h2⟩ => ⟨h1, l ++ [.opens], ?_, by simp [den]⟩
        show RI w0 r A c p ((a + 2 : Nat) : Int) _ _ _
        rw [e2]
        exact h2
      · rw [if_neg h60]
        by_cases h62 : rd p ((a + 1 : Nat) : Int) = 62
        · rw [if_pos h62]
          refine (masked_closes hW hr (by omega) (by omega) (by omega) h62 (by omega)).mono fun e w' ⟨h1, h2⟩ => ⟨h1, l ++ [.closes], ?_, by simp [den]⟩
          show RI w0 r A c p ((a + 2 : Nat) : Int) _ _ _
          rw [e2]
          exact h2
        · rw [if_neg h62]
          refine (masked_byte hW hr (by omega) (by omega) (by omega) h60 h62 (by omega) (hu _)).mono fun e w' ⟨h1, k, h2⟩ => ⟨h1, l ++ [.single k fun j => j == (rd p ((a + 1 : Nat) : Int)).toNat], ?_, by simp [den]⟩
          show RI w0 r A c p ((a + 2 : Nat) : Int) _ _ _
          rw [e2]
          exact h2
  · rw [show nextV p a (l.map den) = (a + 1, -1, l.map den ++ [.single fun j => j == (rd p a).toNat]) from by
      unfold nextV; rw [if_neg (by omega), if_neg (by omega), if_neg h46, if_neg h91, if_neg h42, if_neg h92]]
    exact (next_byte h hr ha hp (by omega) (hu _) h94 h36 h46 h91 h42 h92).mono fun e w' ⟨h1, k, h2⟩ => ⟨h1, _, h2, by simp [den]⟩
/-- Compile's loop: the fault (-1: none), the things. -/
def compL (p : List Int) : Nat → Nat → List PTh → Int × List PTh
  | 0, _, l => (-1, l)
  | d + 1, a, l => if a < p.length then (if (nextV p a l).2.1 ≥ 0 then ((nextV p a l).2.1, l) else compL p d (nextV p a l).1 (nextV p a l).2.2) else (-1, l)
/-- What Compile comes to: the things (or none), the fault's place, the error. -/
def compileV (p : List Int) : Option (List PTh) × Int × Int :=
  if p.length > 256 then (none, 0, 1)
  else if (compL p (p.length + 1) 0 []).1 ≥ 0 then (none, (compL p (p.length + 1) 0 []).1, 110)
  else (some (compL p (p.length + 1) 0 []).2, 0, 0)
theorem nextV_fault (p : List Int) (a : Nat) (l : List PTh) : (nextV p a l).2.1 = -1 ∨ 0 ≤ (nextV p a l).2.1 := by
  have hs : (starV a l).1 = -1 ∨ 0 ≤ (starV a l).1 := by
    unfold starV
    split
    · exact .inl rfl
    · exact .inl rfl
    · exact .inl rfl
    · exact .inr (Int.natCast_nonneg a)
  have hb : (brkV p (a + 1) (-1)).2.2 = -1 ∨ 0 ≤ (brkV p (a + 1) (-1)).2.2 := by
    unfold brkV
    split
    · show (if (brkR p (a + 1)).2.2.1 ≥ 0 then (brkR p (a + 1)).2.2.1 else -1) = -1 ∨ 0 ≤ (if (brkR p (a + 1)).2.2.1 ≥ 0 then (brkR p (a + 1)).2.2.1 else -1)
      split
      · exact .inr ‹_›
      · exact .inl rfl
    · exact .inr (show 0 ≤ ((a + 1 : Nat) : Int) - 1 by omega)
  unfold nextV
  repeat' split
  all_goals first | exact .inl rfl | exact hs | exact hb | exact .inr (Int.natCast_nonneg a)
theorem compL_end {p : List Int} {g a : Nat} {l : List PTh} (h : ¬ a < p.length) : compL p g a l = (-1, l) := by
  cases g with
  | zero => rfl
  | succ d => unfold compL; rw [if_neg h]
/-- A pattern in memory, made from base on. -/
def PatO (w : World) (base : Nat) (v : Value) : Option (List PTh) → Prop
  | none => v = .pointer none
  | some pl => ∃ (b : Nat) (A1 : Option Addr) (c1 : Nat) (l : List Th), v = .pointer (some ⟨b, 0, none⟩) ∧ base ≤ b ∧ w.heap[b]? = some (.cells #[.slice A1 l.length c1] 77 (0, 0)) ∧ kTh.R 121 w base (fun _ => True) (.slice A1 l.length c1) l ∧ Sets w l ∧ l.length ≤ 300 ∧ l.map den = pl
set_option maxHeartbeats 4000000 in
set_option maxRecDepth 100000 in
theorem compile_calls {w : World} {A : Option Addr} {c : Nat} {p : List Int} (hr : Kd.C (Kd.int .u8) w A p.length p) (hu : ∀ i, 0 ≤ rd p i ∧ rd p i ≤ 255) :
    Calls Tryd.prog 19 #[.slice A p.length c] w fun e w' => ∃ v, e = .returned (.tuple #[v, .int .i64 (compileV p).2.1, .int .i64 (compileV p).2.2]) ∧ Below w.heap.size w w' ∧ PatO w' w.heap.size v (compileV p).1 := by
  have HR := Aside0.mk (And.intro hr hu)
  have hb : p.length ≤ 9223372036854775807 := (Kd.reads_of_C (d := (0 : Int)) hr).2.1
  clear hr hu
  by_cases hl : p.length > 256
  · have hd : decide ((256 : Int) < (p.length : Int)) = true := decide_eq_true (by omega)
    have HL := Aside0.mk (show compileV p = (none, 0, 1) from if_pos hl)
    clear hl
    go_enter Tryd.func19, Tryd.ntmps19
    go_wp2
    refine bodyPost_ret (v := .tuple #[.pointer none, .int .i64 0, .int .i64 1]) (by simp [results, Tryd.results19, go_sem]) rfl ?_
    rw [HL.out]
    exact ⟨_, rfl, Below.refl _ _, rfl⟩
  · have hd : decide ((256 : Int) < (p.length : Int)) = false := decide_eq_false (by omega)
    have HL := Aside0.mk hl
    have hle : p.length ≤ 256 := by omega
    clear hl
    go_enter Tryd.func19, Tryd.ntmps19
    go_wp2
    have HW : RI w w.heap.size A c p ((0 : Nat) : Int) (-1) [] (w.alloc (.cells #[.slice A p.length c, .int .i64 0, .slice none 0 0, .int .i64 (-1)] 75)) :=
      ⟨below_alloc (Below.refl _ _) _, Nat.le_refl _, ⟨_, blk_new _ _, Kd.R_nil _ _ _ _ _⟩, fun x hx => by cases hx⟩
    have HW := Aside0.mk HW
    generalize (w.alloc (.cells #[.slice A p.length c, .int .i64 0, .slice none 0 0, .int .i64 (-1)] 75)) = W at HW ⊢
    go_loopg [12] (p.length + 1) (fun g v12 wr => ∃ (a : Nat) (l : List Th), p.length < a + g ∧ l.length ≤ a ∧ l.length ≤ 257 ∧ Aside0 (RI w w.heap.size A c p (a : Int) (-1) l wr ∧ compL p (p.length + 1) 0 [] = compL p g a (l.map den)))
    case atStart => exact ⟨0, [], by omega, Nat.le_refl _, by simp, ⟨HW.out, rfl⟩⟩
    case round =>
      obtain ⟨a, l, hg, hla, hl7, HA⟩ := hrel
      clear HW
      obtain ⟨A1, c1, BK, HK, _, _⟩ := HA.out.1.own
      have k1 : wr.cell? ⟨w.heap.size, 1, none⟩ = some (.int .i64 (a : Int)) := (blk_cell BK 1).trans rfl
      by_cases lt : a < p.length
      · clear BK HK
        obtain ⟨d, rfl⟩ : ∃ d, gk = d + 1 := ⟨gk - 1, by omega⟩
        have hfa := nextV_fault p a (l.map den)
        have hge := nextV_ge p a (l.map den)
        have hln := nextV_len p a (l.map den)
        have HC := Aside0.mk (show compL p (p.length + 1) 0 [] = if (nextV p a (l.map den)).2.1 ≥ 0 then ((nextV p a (l.map den)).2.1, l.map den) else compL p d (nextV p a (l.map den)).1 (nextV p a (l.map den)).2.2 by rw [HA.out.2]; conv => lhs; unfold compL; rw [if_pos lt])
        have HN := Aside0.mk (next_calls HA.out.1 HR.out.1 lt hle (by omega) HR.out.2)
        rw [List.length_map] at hln
        generalize nextV p a (l.map den) = n at HC HN hfa hge hln
        obtain ⟨a2, f2, l2⟩ := n
        simp only at HC hfa hge hln
        by_cases hf : 0 ≤ f2
        · have hfd : decide (0 ≤ f2) = true := decide_eq_true hf
          have HF := Aside0.mk (show compileV p = (none, f2, 110) by unfold compileV; rw [if_neg HL.out, HC.out, if_pos (show f2 ≥ 0 from hf)]; exact if_pos hf)
          clear hfa hf
          go_wp2_with (go_at_call 41; refine HN.out.mono ?_; rintro e w' ⟨rfl, l', hRI, hden⟩; have HX := Aside0.mk hRI; have k3 : w'.cell? ⟨w.heap.size, 3, none⟩ = some (.int .i64 f2) := (by obtain ⟨_, _, BK3, _, _, _⟩ := hRI.own; exact (blk_cell BK3 3).trans rfl); clear hRI hden)
          go_quiet (fail)
          go_wp2
          refine bodyPost_ret (v := .tuple #[.pointer none, .int .i64 f2, .int .i64 110]) (by simp [results, Tryd.results19, go_sem]) rfl ?_
          rw [HF.out]
          exact ⟨_, rfl, pw_below_drewN HX.out.below _, rfl⟩
        · obtain rfl : f2 = -1 := by omega
          have HF := Aside0.mk (show compL p (p.length + 1) 0 [] = compL p d a2 l2 by rw [HC.out]; exact if_neg (by decide))
          clear hfa hf
          go_wp2_with (go_at_call 41; refine HN.out.mono ?_; rintro e w' ⟨rfl, l', hRI, hden⟩; have HX := Aside0.mk (And.intro hRI hden); have k3 : w'.cell? ⟨w.heap.size, 3, none⟩ = some (.int .i64 (-1)) := (by obtain ⟨_, _, BK3, _, _, _⟩ := hRI.own; exact (blk_cell BK3 3).trans rfl); clear hRI hden)
          go_roundg d
          case measure => omega
          case rel =>
            have h_ := congrArg List.length HX.out.2
            rw [List.length_map] at h_
            have h2_ : l'.length = l2.length := h_
            refine ⟨a2, l', by omega, by omega, by omega, ⟨HX.out.1, ?_⟩⟩
            · rw [HX.out.2]; exact HF.out
      · have k2 : wr.cell? ⟨w.heap.size, 2, none⟩ = some (.slice A1 l.length c1) := (blk_cell BK 2).trans rfl
        have HE := Aside0.mk (show compileV p = (some (l.map den), 0, 0) by unfold compileV; rw [if_neg HL.out, HA.out.2, compL_end lt]; exact if_neg (show ¬ ((-1 : Int) ≥ 0) by decide))
        have HX := Aside0.mk (And.intro BK HK)
        clear BK HK
        go_wp2
        refine bodyPost_ret (v := .tuple #[.pointer (some ⟨wr.heap.size, 0, none⟩), .int .i64 0, .int .i64 0]) (by simp [results, Tryd.results19, go_sem]) rfl ?_
        rw [HE.out]
        refine ⟨_, rfl, below_alloc HA.out.1.below _, wr.heap.size, A1, c1, l, rfl, HA.out.1.below.size, blk_new _ _, Kd.R_below HX.out.2 (below_alloc (Below.refl _ _) _), fun x hx => SetAt_below (HA.out.1.sets x hx) (below_alloc (Below.refl _ _) _), by omega, rfl⟩
end Go.Proofs.YtdhdngoeaneanaaDoor.PT
