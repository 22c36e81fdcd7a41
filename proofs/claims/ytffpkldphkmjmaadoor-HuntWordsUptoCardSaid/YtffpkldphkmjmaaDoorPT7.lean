/-
  Patterns, by hand: what a thing does to the ends; the functions in ends.
-/
import Derived.Test.YtffpkldphkmjmaaDoorPT6
namespace Go.Proofs.YtffpkldphkmjmaaDoor.PT
open Go.RowKit Go.Proofs.YtffpkldphkmjmaaDoorW.PrintWords Go.Proofs.YtffpkldphkmjmaaDoorW.PrintMore
set_option linter.unusedVariables false
/-- A byte of a word? -/
def isW (line : List Int) (i : Int) : Bool := decide (0 ≤ i) && decide (i < line.length) && (X.class_Of.f 1 (rd line i) false == some 2)
def mx (line : List Int) (S : Nat → Bool) (E : List Int) : Nat → Nat → Int
  | 0, i => rd E (i : Int)
  | d + 1, i => if S (rd line (i : Int)).toNat = true then max (rd E (i : Int)) (mx line S E d (i + 1)) else rd E (i : Int)
def mask (E : List Int) (f : Int → Bool) (n : Nat) : List Int := (List.range (n + 1)).map fun i : Nat => if f (i : Int) = true then rd E (i : Int) else -1
def fW (line : List Int) : PTh → Int → Bool
  | .front, i => i == 0
  | .back, i => i == (line.length : Int)
  | .opens, i => isW line i && !isW line (i - 1)
  | .closes, i => isW line (i - 1) && !isW line i
  | _, _ => false
def stepV (line : List Int) : PTh → List Int → List Int
  | .single S, E => (List.range (line.length + 1)).map fun i : Nat => if i < line.length ∧ S (rd line (i : Int)).toNat = true then rd E ((i : Int) + 1) else -1
  | .many S, E => (List.range (line.length + 1)).map fun i : Nat => mx line S E (line.length - i) i
  | x, E => mask E (fW line x) line.length
def endsI (line : List Int) : List Int := (List.range (line.length + 1)).map fun i : Nat => (i : Int)
def endsV (line : List Int) (l : List PTh) : List Int := l.foldr (stepV line) (endsI line)
theorem mask_rd {E : List Int} {f : Int → Bool} {n j : Nat} (h : j < n + 1) : rd (mask E f n) (j : Int) = if f (j : Int) = true then rd E (j : Int) else -1 := rd_gen _ _ h
theorem mask_len {E : List Int} {f : Int → Bool} {n : Nat} : (mask E f n).length = n + 1 := by simp [mask]
theorem class_all (a : Int) (b : Bool) (h : 0 ≤ a ∧ a ≤ 255) : ∃ r, X.class_Of.f 1 a b = some r := by
  obtain ⟨k, rfl⟩ := Int.eq_ofNat_of_zero_le h.1
  have hk : k < 256 := by omega
  have h2 : ∀ k : Nat, k < 256 → ∀ b : Bool, (X.class_Of.f 1 (k : Int) b).isSome = true := by
    intro k hk
    have h3 : ∀ k : Fin 256, ∀ b : Bool, (X.class_Of.f 1 (k.val : Int) b).isSome = true := by decide +kernel
    exact h3 ⟨k, hk⟩
  exact Option.isSome_iff_exists.1 (h2 k hk b)
/-- isWord, plainly. -/
theorem isWord_plain {w : World} {A : Option Addr} {c : Nat} {line : List Int} (hr : Kd.C (Kd.int .u8) w A line.length line) (hc : line.length ≤ c) (hu : ∀ i, 0 ≤ rd line i ∧ rd line i ≤ 255) (i : Int) :
    Calls Tryd.prog 58 #[.slice A line.length c, .int .i64 i] w fun e w' => e = .returned (.bool (isW line i)) ∧ Drawn0 w w' := by
  refine X.pattern_isWord.calls 1 A c line i _ w hr hc ?_
  unfold X.pattern_isWord.f isW
  obtain ⟨r, hr⟩ := class_all (rd line i) false (hu i)
  by_cases h0 : i ≥ 0
  · rw [if_pos h0, decide_eq_true (show 0 ≤ i from h0)]
    by_cases h1 : i < (line.length : Int)
    · rw [if_pos h1, if_pos (show 0 ≤ i from h0), decide_eq_true h1, hr]
      simp
    · rw [if_neg h1, decide_eq_false h1]; rfl
  · rw [if_neg h0, decide_eq_false (show ¬ 0 ≤ i from h0)]; rfl

set_option maxHeartbeats 2000000 in
set_option maxRecDepth 100000 in
theorem here_front {w : World} (i : Int) : Calls Tryd.prog 55 #[.int .i64 i] w fun e w' => e = .returned (.bool (i == 0)) ∧ w' = w := by
  go_enter Tryd.func55, Tryd.ntmps55
  go_wp2
  exact bodyPost_ret (v := .bool (i == 0)) (by simp [results, Tryd.results55, go_sem]) rfl ⟨rfl, rfl⟩
set_option maxHeartbeats 2000000 in
set_option maxRecDepth 100000 in
theorem here_back {w : World} {bl : Nat} {A : Option Addr} {c n : Nat} (h : w.cell? ⟨bl, 0, none⟩ = some (.slice A n c)) (i : Int) : Calls Tryd.prog 56 #[.int .i64 i, .pointer (some ⟨bl, 0, none⟩)] w fun e w' => e = .returned (.bool (i == (n : Int))) ∧ w' = w := by
  go_enter Tryd.func56, Tryd.ntmps56
  go_wp2
  exact bodyPost_ret (v := .bool (i == (n : Int))) (by simp [results, Tryd.results56, go_sem]) rfl ⟨rfl, rfl⟩


set_option maxHeartbeats 2000000 in
set_option maxRecDepth 100000 in
theorem here_opens {w : World} {bl : Nat} {A : Option Addr} {c : Nat} {line : List Int} (h : w.cell? ⟨bl, 0, none⟩ = some (.slice A line.length c)) (hr : Kd.C (Kd.int .u8) w A line.length line) (hc : line.length ≤ c) (hu : ∀ i, 0 ≤ rd line i ∧ rd line i ≤ 255) (i : Int) (hi0 : 0 ≤ i) (hi : i ≤ 1000000000000000) :
    Calls Tryd.prog 57 #[.int .i64 i, .pointer (some ⟨bl, 0, none⟩)] w fun e w' => e = .returned (.bool (isW line i && !isW line (i - 1))) ∧ Drawn0 w w' := by
  have H := Aside0.mk (And.intro hr (And.intro hc hu))
  have HC1 := Aside0.mk (isWord_plain hr hc hu (i))
  have HC2 : ∀ n, Aside0 (Calls Tryd.prog 58 #[.slice A line.length c, .int .i64 (i - 1)] (w.drewN n) fun e w' => e = .returned (.bool (isW line (i - 1))) ∧ Drawn0 (w.drewN n) w') := fun n => ⟨isWord_plain (Kd.C_drewN hr n) hc hu (i - 1)⟩
  clear hr hc hu
  cases e1 : isW line (i)
  · rw [e1] at HC1
    go_enter Tryd.func57, Tryd.ntmps57
    go_wp2_with (go_at_call 58; with_reducible refine HC1.out.mono ?_; rintro e w' ⟨rfl, ⟨nd, rfl⟩⟩)
    exact bodyPost_ret (v := .bool (false && !isW line (i - 1))) (by simp [results, Tryd.results57, go_sem]) rfl ⟨rfl, ⟨_, rfl⟩⟩
  · rw [e1] at HC1
    cases e2 : isW line (i - 1)
    all_goals
      rw [e2] at HC2
      go_enter Tryd.func57, Tryd.ntmps57
      go_wp2_with (go_at_call 58; first | (with_reducible refine HC1.out.mono ?_; rintro e w' ⟨rfl, ⟨nd, rfl⟩⟩) | (with_reducible refine (HC2 _).out.mono ?_; rintro e w' ⟨rfl, ⟨nd2, rfl⟩⟩))
      first
        | exact bodyPost_ret (v := .bool true) (by simp [results, Tryd.results57, go_sem]) rfl ⟨rfl, ⟨_, rfl⟩⟩
        | exact bodyPost_ret (v := .bool false) (by simp [results, Tryd.results57, go_sem]) rfl ⟨rfl, ⟨_, rfl⟩⟩


set_option maxHeartbeats 2000000 in
set_option maxRecDepth 100000 in
theorem here_closes {w : World} {bl : Nat} {A : Option Addr} {c : Nat} {line : List Int} (h : w.cell? ⟨bl, 0, none⟩ = some (.slice A line.length c)) (hr : Kd.C (Kd.int .u8) w A line.length line) (hc : line.length ≤ c) (hu : ∀ i, 0 ≤ rd line i ∧ rd line i ≤ 255) (i : Int) (hi0 : 0 ≤ i) (hi : i ≤ 1000000000000000) :
    Calls Tryd.prog 59 #[.int .i64 i, .pointer (some ⟨bl, 0, none⟩)] w fun e w' => e = .returned (.bool (isW line (i - 1) && !isW line i)) ∧ Drawn0 w w' := by
  have H := Aside0.mk (And.intro hr (And.intro hc hu))
  have HC1 := Aside0.mk (isWord_plain hr hc hu (i - 1))
  have HC2 : ∀ n, Aside0 (Calls Tryd.prog 58 #[.slice A line.length c, .int .i64 (i)] (w.drewN n) fun e w' => e = .returned (.bool (isW line (i))) ∧ Drawn0 (w.drewN n) w') := fun n => ⟨isWord_plain (Kd.C_drewN hr n) hc hu (i)⟩
  clear hr hc hu
  cases e1 : isW line (i - 1)
  · rw [e1] at HC1
    go_enter Tryd.func59, Tryd.ntmps59
    go_wp2_with (go_at_call 58; with_reducible refine HC1.out.mono ?_; rintro e w' ⟨rfl, ⟨nd, rfl⟩⟩)
    exact bodyPost_ret (v := .bool (false && !isW line i)) (by simp [results, Tryd.results59, go_sem]) rfl ⟨rfl, ⟨_, rfl⟩⟩
  · rw [e1] at HC1
    cases e2 : isW line (i)
    all_goals
      rw [e2] at HC2
      go_enter Tryd.func59, Tryd.ntmps59
      go_wp2_with (go_at_call 58; first | (with_reducible refine HC1.out.mono ?_; rintro e w' ⟨rfl, ⟨nd, rfl⟩⟩) | (with_reducible refine (HC2 _).out.mono ?_; rintro e w' ⟨rfl, ⟨nd2, rfl⟩⟩))
      first
        | exact bodyPost_ret (v := .bool true) (by simp [results, Tryd.results59, go_sem]) rfl ⟨rfl, ⟨_, rfl⟩⟩
        | exact bodyPost_ret (v := .bool false) (by simp [results, Tryd.results59, go_sem]) rfl ⟨rfl, ⟨_, rfl⟩⟩



set_option maxHeartbeats 4000000 in
set_option maxRecDepth 100000 in
theorem only_front {w0 w : World} {bl bb br : Nat} {A : Option Addr} {c : Nat} {line E : List Int} (hE : EX w0 bl bb br A c line.length E w) (hr : Kd.C (Kd.int .u8) w0 A line.length line) (hc : line.length ≤ c) (hu : ∀ i, 0 ≤ rd line i ∧ rd line i ≤ 255) (hn : line.length ≤ 281474976710656) :
    Calls Tryd.prog 54 #[.func (.func 55) #[] #[], .pointer (some ⟨bb, 0, none⟩)] w fun e w' => e = .returned (.tuple #[]) ∧ EX w0 bl bb br A c line.length (mask E (fW line .front) line.length) w' := by
  have H := Aside0.mk (And.intro hr (And.intro hc hu))
  have HE := Aside0.mk hE
  have cb := hE.cb
  clear hr hc hu hE
  have HC : Aside0 (∀ (E' : List Int) (wr : World) (k : Nat), k ≤ line.length → EX w0 bl bb br A c line.length E' wr → Calls Tryd.prog 55 #[.int .i64 (k : Int)] wr fun e w' => e = .returned (.bool (fW line .front (k : Int))) ∧ Drawn0 wr w') := ⟨fun E' wr k hk h => (here_front _).mono fun e w' h => ⟨h.1, by rw [h.2]; exact Drawn0.refl _⟩⟩
  go_enter Tryd.func54, Tryd.ntmps54
  go_wp2
  go_loopw [6] (fun v wl => ∃ (k : Nat) (E' : List Int), k ≤ line.length + 1 ∧ v = .int .i64 k ∧ Aside0 (EX w0 bl bb br A c line.length E' wl ∧ (∀ j : Nat, j < k → rd E' (j : Int) = if fW line .front (j : Int) = true then rd E (j : Int) else -1) ∧ (∀ j : Nat, k ≤ j → rd E' (j : Int) = rd E (j : Int)))) (fun v _ => line.length + 1 - (intOf v).toNat)
  case atStart => exact ⟨0, E, by omega, rfl, ⟨HE.out, fun j hj => by omega, fun j _ => rfl⟩⟩
  case round =>
    obtain ⟨k, E', hk, rfl, HL⟩ := hrel
    clear HE cb
    by_cases hlt : k < line.length + 1
    · have hd : decide ((k : Int) < (line.length : Int) + 1) = true := decide_eq_true (by omega)
      have HN := Aside0.mk (HC.out E' wr k (by omega) HL.out.1)
      cases ef : fW line .front (k : Int)
      · rw [ef] at HN
        have q1 : (0 ≤ (k : Int)) = True := eq_true (by omega)
        have q2 : ((k : Int) < (line.length : Int) + 1) = True := eq_true (by omega)
        go_wp2_with (go_at_call 55; with_reducible refine HN.out.mono ?_; rintro e w' ⟨rfl, ⟨nd, rfl⟩⟩; have HL2 := Aside0.mk (And.intro (HL.out.1.drew nd) HL.out.2); have cb := HL2.out.1.cb; have fk := blk_frozen HL2.out.1.row k; have ck := HL2.out.1.cr (show k ≤ line.length by omega); clear HL)
        go_roundw
        case rel =>
          refine ⟨k + 1, E'.set k (-1), by omega, by go_num, ⟨HL2.out.1.put k (-1), fun j hj => ?_, fun j hj => ?_⟩⟩
          · rw [rd_set E' _ _ (by omega) (by rw [HL2.out.1.len]; omega)]
            by_cases e : (j : Int) = k
            · rw [if_pos e, e, ef]; rfl
            · rw [if_neg e]; exact HL2.out.2.1 j (by omega)
          · rw [rd_set E' _ _ (by omega) (by rw [HL2.out.1.len]; omega), if_neg (by omega)]
            exact HL2.out.2.2 j (by omega)
        case measure => simp [intOf]; omega
      · rw [ef] at HN
        go_wp2_with (go_at_call 55; with_reducible refine HN.out.mono ?_; rintro e w' ⟨rfl, ⟨nd, rfl⟩⟩; have HL2 := Aside0.mk (And.intro (HL.out.1.drew nd) HL.out.2); clear HL)
        go_roundw
        case rel =>
          refine ⟨k + 1, E', by omega, by go_num, ⟨HL2.out.1, fun j hj => ?_, fun j hj => HL2.out.2.2 j (by omega)⟩⟩
          by_cases e : j = k
          · subst e; rw [ef, HL2.out.2.2 j (Nat.le_refl _)]; rfl
          · exact HL2.out.2.1 j (by omega)
        case measure => simp [intOf]; omega
    · have hd : decide ((k : Int) < (line.length : Int) + 1) = false := decide_eq_false (by omega)
      have HF := Aside0.mk (show EX w0 bl bb br A c line.length (mask E (fW line .front) line.length) wr by
        have h := HL.out.1
        rwa [show E' = mask E (fW line .front) line.length from rd_ext (by rw [h.len, mask_len]) (fun j hj => by
          rw [h.len] at hj
          rw [HL.out.2.1 j (by omega), mask_rd (by omega)])] at h)
      clear HL
      go_wp2
      exact bodyPost_end (v := .tuple #[]) (by simp [results, Tryd.results54, go_sem]) rfl ⟨rfl, HF.out⟩


set_option maxHeartbeats 4000000 in
set_option maxRecDepth 100000 in
theorem only_back {w0 w : World} {bl bb br : Nat} {A : Option Addr} {c : Nat} {line E : List Int} (hE : EX w0 bl bb br A c line.length E w) (hr : Kd.C (Kd.int .u8) w0 A line.length line) (hc : line.length ≤ c) (hu : ∀ i, 0 ≤ rd line i ∧ rd line i ≤ 255) (hn : line.length ≤ 281474976710656) :
    Calls Tryd.prog 54 #[.func (.func 56) #[] #[.pointer (some ⟨bl, 0, none⟩)], .pointer (some ⟨bb, 0, none⟩)] w fun e w' => e = .returned (.tuple #[]) ∧ EX w0 bl bb br A c line.length (mask E (fW line .back) line.length) w' := by
  have H := Aside0.mk (And.intro hr (And.intro hc hu))
  have HE := Aside0.mk hE
  have cb := hE.cb
  clear hr hc hu hE
  have HC : Aside0 (∀ (E' : List Int) (wr : World) (k : Nat), k ≤ line.length → EX w0 bl bb br A c line.length E' wr → Calls Tryd.prog 56 #[.int .i64 (k : Int), .pointer (some ⟨bl, 0, none⟩)] wr fun e w' => e = .returned (.bool (fW line .back (k : Int))) ∧ Drawn0 wr w') := ⟨fun E' wr k hk h => (here_back h.cl _).mono fun e w' h => ⟨h.1, by rw [h.2]; exact Drawn0.refl _⟩⟩
  go_enter Tryd.func54, Tryd.ntmps54
  go_wp2
  go_loopw [6] (fun v wl => ∃ (k : Nat) (E' : List Int), k ≤ line.length + 1 ∧ v = .int .i64 k ∧ Aside0 (EX w0 bl bb br A c line.length E' wl ∧ (∀ j : Nat, j < k → rd E' (j : Int) = if fW line .back (j : Int) = true then rd E (j : Int) else -1) ∧ (∀ j : Nat, k ≤ j → rd E' (j : Int) = rd E (j : Int)))) (fun v _ => line.length + 1 - (intOf v).toNat)
  case atStart => exact ⟨0, E, by omega, rfl, ⟨HE.out, fun j hj => by omega, fun j _ => rfl⟩⟩
  case round =>
    obtain ⟨k, E', hk, rfl, HL⟩ := hrel
    clear HE cb
    by_cases hlt : k < line.length + 1
    · have hd : decide ((k : Int) < (line.length : Int) + 1) = true := decide_eq_true (by omega)
      have HN := Aside0.mk (HC.out E' wr k (by omega) HL.out.1)
      cases ef : fW line .back (k : Int)
      · rw [ef] at HN
        have q1 : (0 ≤ (k : Int)) = True := eq_true (by omega)
        have q2 : ((k : Int) < (line.length : Int) + 1) = True := eq_true (by omega)
        go_wp2_with (go_at_call 56; with_reducible refine HN.out.mono ?_; rintro e w' ⟨rfl, ⟨nd, rfl⟩⟩; have HL2 := Aside0.mk (And.intro (HL.out.1.drew nd) HL.out.2); have cb := HL2.out.1.cb; have fk := blk_frozen HL2.out.1.row k; have ck := HL2.out.1.cr (show k ≤ line.length by omega); clear HL)
        go_roundw
        case rel =>
          refine ⟨k + 1, E'.set k (-1), by omega, by go_num, ⟨HL2.out.1.put k (-1), fun j hj => ?_, fun j hj => ?_⟩⟩
          · rw [rd_set E' _ _ (by omega) (by rw [HL2.out.1.len]; omega)]
            by_cases e : (j : Int) = k
            · rw [if_pos e, e, ef]; rfl
            · rw [if_neg e]; exact HL2.out.2.1 j (by omega)
          · rw [rd_set E' _ _ (by omega) (by rw [HL2.out.1.len]; omega), if_neg (by omega)]
            exact HL2.out.2.2 j (by omega)
        case measure => simp [intOf]; omega
      · rw [ef] at HN
        go_wp2_with (go_at_call 56; with_reducible refine HN.out.mono ?_; rintro e w' ⟨rfl, ⟨nd, rfl⟩⟩; have HL2 := Aside0.mk (And.intro (HL.out.1.drew nd) HL.out.2); clear HL)
        go_roundw
        case rel =>
          refine ⟨k + 1, E', by omega, by go_num, ⟨HL2.out.1, fun j hj => ?_, fun j hj => HL2.out.2.2 j (by omega)⟩⟩
          by_cases e : j = k
          · subst e; rw [ef, HL2.out.2.2 j (Nat.le_refl _)]; rfl
          · exact HL2.out.2.1 j (by omega)
        case measure => simp [intOf]; omega
    · have hd : decide ((k : Int) < (line.length : Int) + 1) = false := decide_eq_false (by omega)
      have HF := Aside0.mk (show EX w0 bl bb br A c line.length (mask E (fW line .back) line.length) wr by
        have h := HL.out.1
        rwa [show E' = mask E (fW line .back) line.length from rd_ext (by rw [h.len, mask_len]) (fun j hj => by
          rw [h.len] at hj
          rw [HL.out.2.1 j (by omega), mask_rd (by omega)])] at h)
      clear HL
      go_wp2
      exact bodyPost_end (v := .tuple #[]) (by simp [results, Tryd.results54, go_sem]) rfl ⟨rfl, HF.out⟩


set_option maxHeartbeats 4000000 in
set_option maxRecDepth 100000 in
theorem only_opens {w0 w : World} {bl bb br : Nat} {A : Option Addr} {c : Nat} {line E : List Int} (hE : EX w0 bl bb br A c line.length E w) (hr : Kd.C (Kd.int .u8) w0 A line.length line) (hc : line.length ≤ c) (hu : ∀ i, 0 ≤ rd line i ∧ rd line i ≤ 255) (hn : line.length ≤ 281474976710656) :
    Calls Tryd.prog 54 #[.func (.func 57) #[] #[.pointer (some ⟨bl, 0, none⟩)], .pointer (some ⟨bb, 0, none⟩)] w fun e w' => e = .returned (.tuple #[]) ∧ EX w0 bl bb br A c line.length (mask E (fW line .opens) line.length) w' := by
  have H := Aside0.mk (And.intro hr (And.intro hc hu))
  have HE := Aside0.mk hE
  have cb := hE.cb
  clear hr hc hu hE
  have HC : Aside0 (∀ (E' : List Int) (wr : World) (k : Nat), k ≤ line.length → EX w0 bl bb br A c line.length E' wr → Calls Tryd.prog 57 #[.int .i64 (k : Int), .pointer (some ⟨bl, 0, none⟩)] wr fun e w' => e = .returned (.bool (fW line .opens (k : Int))) ∧ Drawn0 wr w') := ⟨fun E' wr k hk h => here_opens h.cl (Kd.C_below H.out.1 h.below) H.out.2.1 H.out.2.2 _ (by omega) (by omega)⟩
  go_enter Tryd.func54, Tryd.ntmps54
  go_wp2
  go_loopw [6] (fun v wl => ∃ (k : Nat) (E' : List Int), k ≤ line.length + 1 ∧ v = .int .i64 k ∧ Aside0 (EX w0 bl bb br A c line.length E' wl ∧ (∀ j : Nat, j < k → rd E' (j : Int) = if fW line .opens (j : Int) = true then rd E (j : Int) else -1) ∧ (∀ j : Nat, k ≤ j → rd E' (j : Int) = rd E (j : Int)))) (fun v _ => line.length + 1 - (intOf v).toNat)
  case atStart => exact ⟨0, E, by omega, rfl, ⟨HE.out, fun j hj => by omega, fun j _ => rfl⟩⟩
  case round =>
    obtain ⟨k, E', hk, rfl, HL⟩ := hrel
    clear HE cb
    by_cases hlt : k < line.length + 1
    · have hd : decide ((k : Int) < (line.length : Int) + 1) = true := decide_eq_true (by omega)
      have HN := Aside0.mk (HC.out E' wr k (by omega) HL.out.1)
      cases ef : fW line .opens (k : Int)
      · rw [ef] at HN
        have q1 : (0 ≤ (k : Int)) = True := eq_true (by omega)
        have q2 : ((k : Int) < (line.length : Int) + 1) = True := eq_true (by omega)
        go_wp2_with (go_at_call 57; with_reducible refine HN.out.mono ?_; rintro e w' ⟨rfl, ⟨nd, rfl⟩⟩; have HL2 := Aside0.mk (And.intro (HL.out.1.drew nd) HL.out.2); have cb := HL2.out.1.cb; have fk := blk_frozen HL2.out.1.row k; have ck := HL2.out.1.cr (show k ≤ line.length by omega); clear HL)
        go_roundw
        case rel =>
          refine ⟨k + 1, E'.set k (-1), by omega, by go_num, ⟨HL2.out.1.put k (-1), fun j hj => ?_, fun j hj => ?_⟩⟩
          · rw [rd_set E' _ _ (by omega) (by rw [HL2.out.1.len]; omega)]
            by_cases e : (j : Int) = k
            · rw [if_pos e, e, ef]; rfl
            · rw [if_neg e]; exact HL2.out.2.1 j (by omega)
          · rw [rd_set E' _ _ (by omega) (by rw [HL2.out.1.len]; omega), if_neg (by omega)]
            exact HL2.out.2.2 j (by omega)
        case measure => simp [intOf]; omega
      · rw [ef] at HN
        go_wp2_with (go_at_call 57; with_reducible refine HN.out.mono ?_; rintro e w' ⟨rfl, ⟨nd, rfl⟩⟩; have HL2 := Aside0.mk (And.intro (HL.out.1.drew nd) HL.out.2); clear HL)
        go_roundw
        case rel =>
          refine ⟨k + 1, E', by omega, by go_num, ⟨HL2.out.1, fun j hj => ?_, fun j hj => HL2.out.2.2 j (by omega)⟩⟩
          by_cases e : j = k
          · subst e; rw [ef, HL2.out.2.2 j (Nat.le_refl _)]; rfl
          · exact HL2.out.2.1 j (by omega)
        case measure => simp [intOf]; omega
    · have hd : decide ((k : Int) < (line.length : Int) + 1) = false := decide_eq_false (by omega)
      have HF := Aside0.mk (show EX w0 bl bb br A c line.length (mask E (fW line .opens) line.length) wr by
        have h := HL.out.1
        rwa [show E' = mask E (fW line .opens) line.length from rd_ext (by rw [h.len, mask_len]) (fun j hj => by
          rw [h.len] at hj
          rw [HL.out.2.1 j (by omega), mask_rd (by omega)])] at h)
      clear HL
      go_wp2
      exact bodyPost_end (v := .tuple #[]) (by simp [results, Tryd.results54, go_sem]) rfl ⟨rfl, HF.out⟩


set_option maxHeartbeats 4000000 in
set_option maxRecDepth 100000 in
theorem only_closes {w0 w : World} {bl bb br : Nat} {A : Option Addr} {c : Nat} {line E : List Int} (hE : EX w0 bl bb br A c line.length E w) (hr : Kd.C (Kd.int .u8) w0 A line.length line) (hc : line.length ≤ c) (hu : ∀ i, 0 ≤ rd line i ∧ rd line i ≤ 255) (hn : line.length ≤ 281474976710656) :
    Calls Tryd.prog 54 #[.func (.func 59) #[] #[.pointer (some ⟨bl, 0, none⟩)], .pointer (some ⟨bb, 0, none⟩)] w fun e w' => e = .returned (.tuple #[]) ∧ EX w0 bl bb br A c line.length (mask E (fW line .closes) line.length) w' := by
  have H := Aside0.mk (And.intro hr (And.intro hc hu))
  have HE := Aside0.mk hE
  have cb := hE.cb
  clear hr hc hu hE
  have HC : Aside0 (∀ (E' : List Int) (wr : World) (k : Nat), k ≤ line.length → EX w0 bl bb br A c line.length E' wr → Calls Tryd.prog 59 #[.int .i64 (k : Int), .pointer (some ⟨bl, 0, none⟩)] wr fun e w' => e = .returned (.bool (fW line .closes (k : Int))) ∧ Drawn0 wr w') := ⟨fun E' wr k hk h => here_closes h.cl (Kd.C_below H.out.1 h.below) H.out.2.1 H.out.2.2 _ (by omega) (by omega)⟩
  go_enter Tryd.func54, Tryd.ntmps54
  go_wp2
  go_loopw [6] (fun v wl => ∃ (k : Nat) (E' : List Int), k ≤ line.length + 1 ∧ v = .int .i64 k ∧ Aside0 (EX w0 bl bb br A c line.length E' wl ∧ (∀ j : Nat, j < k → rd E' (j : Int) = if fW line .closes (j : Int) = true then rd E (j : Int) else -1) ∧ (∀ j : Nat, k ≤ j → rd E' (j : Int) = rd E (j : Int)))) (fun v _ => line.length + 1 - (intOf v).toNat)
  case atStart => exact ⟨0, E, by omega, rfl, ⟨HE.out, fun j hj => by omega, fun j _ => rfl⟩⟩
  case round =>
    obtain ⟨k, E', hk, rfl, HL⟩ := hrel
    clear HE cb
    by_cases hlt : k < line.length + 1
    · have hd : decide ((k : Int) < (line.length : Int) + 1) = true := decide_eq_true (by omega)
      have HN := Aside0.mk (HC.out E' wr k (by omega) HL.out.1)
      cases ef : fW line .closes (k : Int)
      · rw [ef] at HN
        have q1 : (0 ≤ (k : Int)) = True := eq_true (by omega)
        have q2 : ((k : Int) < (line.length : Int) + 1) = True := eq_true (by omega)
        go_wp2_with (go_at_call 59; with_reducible refine HN.out.mono ?_; rintro e w' ⟨rfl, ⟨nd, rfl⟩⟩; have HL2 := Aside0.mk (And.intro (HL.out.1.drew nd) HL.out.2); have cb := HL2.out.1.cb; have fk := blk_frozen HL2.out.1.row k; have ck := HL2.out.1.cr (show k ≤ line.length by omega); clear HL)
        go_roundw
        case rel =>
          refine ⟨k + 1, E'.set k (-1), by omega, by go_num, ⟨HL2.out.1.put k (-1), fun j hj => ?_, fun j hj => ?_⟩⟩
          · rw [rd_set E' _ _ (by omega) (by rw [HL2.out.1.len]; omega)]
            by_cases e : (j : Int) = k
            · rw [if_pos e, e, ef]; rfl
            · rw [if_neg e]; exact HL2.out.2.1 j (by omega)
          · rw [rd_set E' _ _ (by omega) (by rw [HL2.out.1.len]; omega), if_neg (by omega)]
            exact HL2.out.2.2 j (by omega)
        case measure => simp [intOf]; omega
      · rw [ef] at HN
        go_wp2_with (go_at_call 59; with_reducible refine HN.out.mono ?_; rintro e w' ⟨rfl, ⟨nd, rfl⟩⟩; have HL2 := Aside0.mk (And.intro (HL.out.1.drew nd) HL.out.2); clear HL)
        go_roundw
        case rel =>
          refine ⟨k + 1, E', by omega, by go_num, ⟨HL2.out.1, fun j hj => ?_, fun j hj => HL2.out.2.2 j (by omega)⟩⟩
          by_cases e : j = k
          · subst e; rw [ef, HL2.out.2.2 j (Nat.le_refl _)]; rfl
          · exact HL2.out.2.1 j (by omega)
        case measure => simp [intOf]; omega
    · have hd : decide ((k : Int) < (line.length : Int) + 1) = false := decide_eq_false (by omega)
      have HF := Aside0.mk (show EX w0 bl bb br A c line.length (mask E (fW line .closes) line.length) wr by
        have h := HL.out.1
        rwa [show E' = mask E (fW line .closes) line.length from rd_ext (by rw [h.len, mask_len]) (fun j hj => by
          rw [h.len] at hj
          rw [HL.out.2.1 j (by omega), mask_rd (by omega)])] at h)
      clear HL
      go_wp2
      exact bodyPost_end (v := .tuple #[]) (by simp [results, Tryd.results54, go_sem]) rfl ⟨rfl, HF.out⟩

end Go.Proofs.YtffpkldphkmjmaaDoor.PT
