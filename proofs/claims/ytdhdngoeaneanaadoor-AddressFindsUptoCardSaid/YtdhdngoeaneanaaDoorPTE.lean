/-
  Texts of one proof in one file (wip/some.py): PT6, PT7, PT8, PT9, PT10.
  Conditions: none.
-/
import Derived.Test.YtdhdngoeaneanaaDoorPT5
import Derived.Test.YtdhdngoeaneanaaDoorX88
import Derived.Test.YtdhdngoeaneanaaDoorX87
import Derived.Test.YtdhdngoeaneanaaDoorX40
section
namespace Go.Proofs.YtdhdngoeaneanaaDoor.PT
open Go.RowKit Go.Proofs.YtdhdngoeaneanaaDoorW.PrintWords Go.Proofs.YtdhdngoeaneanaaDoorW.PrintMore
set_option linter.unusedVariables false
def iv (E : List Int) : Array Value := (E.map (Value.int .i64)).toArray
theorem iv_get {E : List Int} {i : Nat} (h : i < E.length) : (iv E)[i]? = some (.int .i64 (rd E (i : Int))) := by
  unfold iv rd
  rw [Int.toNat_natCast, List.getD_eq_getElem?_getD]
  simp [h]
theorem iv_set (E : List Int) (i : Nat) (b : Int) : (iv E).setIfInBounds i (.int .i64 b) = iv (E.set i b) := by
  unfold iv
  rw [List.setIfInBounds_toArray, List.map_set]
theorem iv_made (m : Nat) : madeCells #[.int .i64 0] m = iv (List.replicate m 0) := by
  apply Array.toList_inj.1
  apply List.ext_getElem
  · simp [madeCells, iv]
  · intro i h1 h2
    simp [madeCells, iv, Nat.mod_one]
theorem rd_set (E : List Int) {i : Nat} (j : Int) (b : Int) (h0 : 0 ≤ j) (h : i < E.length) : rd (E.set i b) j = if j = (i : Int) then b else rd E j := by
  obtain ⟨k, rfl⟩ := Int.eq_ofNat_of_zero_le h0
  unfold rd
  rw [Int.toNat_natCast, List.getD_eq_getElem?_getD, List.getD_eq_getElem?_getD, List.getElem?_set]
  by_cases e : i = k
  · subst e; simp [h]
  · rw [if_neg e, if_neg (by omega)]
theorem rd_ext {E F : List Int} (hl : E.length = F.length) (h : ∀ j : Nat, j < E.length → rd E (j : Int) = rd F (j : Int)) : E = F := by
  apply List.ext_getElem hl
  intro i h1 h2
  have h3 := h i h1
  unfold rd at h3
  rw [Int.toNat_natCast, List.getD_eq_getElem?_getD, List.getD_eq_getElem?_getD] at h3
  simpa [h1, h2] using h3
theorem rd_gen (m : Nat) (f : Nat → Int) {j : Nat} (h : j < m) : rd ((List.range m).map f) (j : Int) = f j := by
  unfold rd
  rw [Int.toNat_natCast, List.getD_eq_getElem?_getD]
  simp [h]
/-- What ends works on: the boxes of line and best, the row. -/
structure EX (w0 : World) (bl bb br : Nat) (A : Option Addr) (c n : Nat) (E : List Int) (w : World) : Prop where
  below : Below w0.heap.size w0 w
  gl : w0.heap.size ≤ bl
  gb : w0.heap.size ≤ bb
  gr : w0.heap.size ≤ br
  ln : w.heap[bl]? = some (.cells #[.slice A n c] 22 (0, 0))
  bs : w.heap[bb]? = some (.cells #[.slice (some ⟨br, 0, none⟩) (n + 1) (n + 1)] 104 (0, 0))
  row : w.heap[br]? = some (.cells (iv E) 3 (0, 0))
  len : E.length = n + 1
section
variable {w0 w : World} {bl bb br : Nat} {A : Option Addr} {c n : Nat} {E : List Int}
theorem EX.drew (h : EX w0 bl bb br A c n E w) (k : Nat) : EX w0 bl bb br A c n E (w.drewN k) := ⟨pw_below_drewN h.below k, h.gl, h.gb, h.gr, blk_drewN h.ln k, blk_drewN h.bs k, blk_drewN h.row k, h.len⟩
theorem EX.put (h : EX w0 bl bb br A c n E w) (j : Nat) (b : Int) : EX w0 bl bb br A c n (E.set j b) (w.setCell ⟨br, j, none⟩ (.int .i64 b)) :=
  ⟨below_set h.below h.gr, h.gl, h.gb, h.gr, blk_far h.ln (blk_ne h.ln h.row (by decide)) _, blk_far h.bs (blk_ne h.bs h.row (by decide)) _, blk_put h.row j _ (iv_set E j b), by rw [List.length_set]; exact h.len⟩
theorem EX.cl (h : EX w0 bl bb br A c n E w) : w.cell? ⟨bl, 0, none⟩ = some (.slice A n c) := (blk_cell h.ln 0).trans rfl
theorem EX.cb (h : EX w0 bl bb br A c n E w) : w.cell? ⟨bb, 0, none⟩ = some (.slice (some ⟨br, 0, none⟩) (n + 1) (n + 1)) := (blk_cell h.bs 0).trans rfl
theorem EX.cr (h : EX w0 bl bb br A c n E w) {j : Nat} (hj : j ≤ n) : w.cell? ⟨br, j, none⟩ = some (.int .i64 (rd E (j : Int))) := (blk_cell h.row j).trans (iv_get (by rw [h.len]; omega))
end
end Go.Proofs.YtdhdngoeaneanaaDoor.PT
end
section
namespace Go.Proofs.YtdhdngoeaneanaaDoor.PT
open Go.RowKit Go.Proofs.YtdhdngoeaneanaaDoorW.PrintWords Go.Proofs.YtdhdngoeaneanaaDoorW.PrintMore
set_option linter.unusedVariables false
/-- A byte of a word? -/
def isW (line : List Int) (i : Int) : Bool := decide (0 ≤ i) && decide (i < line.length) && (X.class_Of.f 1 (rd line i) false == some 2)
def mx (line : List Int) (S : Nat → Bool) (E : List Int) : Nat → Nat → Int
  | 0, i => rd E (i : Int)
  | d + 1, i => if S (rd line (i : Int)).toNat = true then max (rd E (i : Int)) (mx line S E d (i + 1)) else rd E (i : Int)
def mask (E : List Int) (f : Int → Bool) (n : Nat) : List Int := (List.range (n + 1)).map fun i : Nat => if f (i : Int) = true then rd E (i : Int) else -1
def fW (line : List Int) : PTh → Int → Bool
  | .front, i => i == 0
  | .back, i => i == (line.length : Int)
  | .opens, i => isW line i && !isW line (i - 1)
  | .closes, i => isW line (i - 1) && !isW line i
  | _, _ => false
def stepV (line : List Int) : PTh → List Int → List Int
  | .single S, E => (List.range (line.length + 1)).map fun i : Nat => if i < line.length ∧ S (rd line (i : Int)).toNat = true then rd E ((i : Int) + 1) else -1
  | .many S, E => (List.range (line.length + 1)).map fun i : Nat => mx line S E (line.length - i) i
  | x, E => mask E (fW line x) line.length
def endsI (line : List Int) : List Int := (List.range (line.length + 1)).map fun i : Nat => (i : Int)
def endsV (line : List Int) (l : List PTh) : List Int := l.foldr (stepV line) (endsI line)
theorem mask_rd {E : List Int} {f : Int → Bool} {n j : Nat} (h : j < n + 1) : rd (mask E f n) (j : Int) = if f (j : Int) = true then rd E (j : Int) else -1 := rd_gen _ _ h
theorem mask_len {E : List Int} {f : Int → Bool} {n : Nat} : (mask E f n).length = n + 1 := by simp [mask]
theorem class_all (a : Int) (b : Bool) (h : 0 ≤ a ∧ a ≤ 255) : ∃ r, X.class_Of.f 1 a b = some r := by
  obtain ⟨k, rfl⟩ := Int.eq_ofNat_of_zero_le h.1
  have hk : k < 256 := by omega
  have h2 : ∀ k : Nat, k < 256 → ∀ b : Bool, (X.class_Of.f 1 (k : Int) b).isSome = true := by
    intro k hk
    have h3 : ∀ k : Fin 256, ∀ b : Bool, (X.class_Of.f 1 (k.val : Int) b).isSome = true := by decide +kernel
    exact h3 ⟨k, hk⟩
  exact Option.isSome_iff_exists.1 (h2 k hk b)
/-- isWord, plainly. -/
theorem isWord_plain {w : World} {A : Option Addr} {c : Nat} {line : List Int} (hr : Kd.C (Kd.int .u8) w A line.length line) (hc : line.length ≤ c) (hu : ∀ i, 0 ≤ rd line i ∧ rd line i ≤ 255) (i : Int) :
    Calls Tryd.prog 85 #[.slice A line.length c, .int .i64 i] w fun e w' => e = .returned (.bool (isW line i)) ∧ Drawn0 w w' := by
  refine X.pattern_isWord.calls 1 A c line i _ w hr hc ?_
  unfold X.pattern_isWord.f isW
  obtain ⟨r, hr⟩ := class_all (rd line i) false (hu i)
  by_cases h0 : i ≥ 0
  · rw [if_pos h0, decide_eq_true (show 0 ≤ i from h0)]
    by_cases h1 : i < (line.length : Int)
    · rw [if_pos h1, if_pos (show 0 ≤ i from h0), decide_eq_true h1, hr]
      simp
    · rw [if_neg h1, decide_eq_false h1]; rfl
  · rw [if_neg h0, decide_eq_false (show ¬ 0 ≤ i from h0)]; rfl

set_option maxHeartbeats 2000000 in
set_option maxRecDepth 100000 in
theorem here_front {w : World} (i : Int) : Calls Tryd.prog 82 #[.int .i64 i] w fun e w' => e = .returned (.bool (i == 0)) ∧ w' = w := by
  go_enter Tryd.func82, Tryd.ntmps82
  go_wp2
  exact bodyPost_ret (v := .bool (i == 0)) (by simp [results, Tryd.results82, go_sem]) rfl ⟨rfl, rfl⟩
set_option maxHeartbeats 2000000 in
set_option maxRecDepth 100000 in
theorem here_back {w : World} {bl : Nat} {A : Option Addr} {c n : Nat} (h : w.cell? ⟨bl, 0, none⟩ = some (.slice A n c)) (i : Int) : Calls Tryd.prog 83 #[.int .i64 i, .pointer (some ⟨bl, 0, none⟩)] w fun e w' => e = .returned (.bool (i == (n : Int))) ∧ w' = w := by
  go_enter Tryd.func83, Tryd.ntmps83
  go_wp2
  exact bodyPost_ret (v := .bool (i == (n : Int))) (by simp [results, Tryd.results83, go_sem]) rfl ⟨rfl, rfl⟩


set_option maxHeartbeats 2000000 in
set_option maxRecDepth 100000 in
theorem here_opens {w : World} {bl : Nat} {A : Option Addr} {c : Nat} {line : List Int} (h : w.cell? ⟨bl, 0, none⟩ = some (.slice A line.length c)) (hr : Kd.C (Kd.int .u8) w A line.length line) (hc : line.length ≤ c) (hu : ∀ i, 0 ≤ rd line i ∧ rd line i ≤ 255) (i : Int) (hi0 : 0 ≤ i) (hi : i ≤ 1000000000000000) :
    Calls Tryd.prog 84 #[.int .i64 i, .pointer (some ⟨bl, 0, none⟩)] w fun e w' => e = .returned (.bool (isW line i && !isW line (i - 1))) ∧ Drawn0 w w' := by
  have H := Aside0.mk (And.intro hr (And.intro hc hu))
  have HC1 := Aside0.mk (isWord_plain hr hc hu (i))
  have HC2 : ∀ n, Aside0 (Calls Tryd.prog 85 #[.slice A line.length c, .int .i64 (i - 1)] (w.drewN n) fun e w' => e = .returned (.bool (isW line (i - 1))) ∧ Drawn0 (w.drewN n) w') := fun n => ⟨isWord_plain (Kd.C_drewN hr n) hc hu (i - 1)⟩
  clear hr hc hu
  cases e1 : isW line (i)
  · rw [e1] at HC1
    go_enter Tryd.func84, Tryd.ntmps84
    go_wp2_with (go_at_call 85; with_reducible refine HC1.out.mono ?_; rintro e w' ⟨rfl, ⟨nd, rfl⟩⟩)
    exact bodyPost_ret (v := .bool (false && !isW line (i - 1))) (by simp [results, Tryd.results84, go_sem]) rfl ⟨rfl, ⟨_, rfl⟩⟩
  · rw [e1] at HC1
    cases e2 : isW line (i - 1)
    all_goals
      rw [e2] at HC2
      go_enter Tryd.func84, Tryd.ntmps84
      go_wp2_with (go_at_call 85; first | (with_reducible refine HC1.out.mono ?_; rintro e w' ⟨rfl, ⟨nd, rfl⟩⟩) | (with_reducible refine (HC2 _).out.mono ?_; rintro e w' ⟨rfl, ⟨nd2, rfl⟩⟩))
      first
        | exact bodyPost_ret (v := .bool true) (by simp [results, Tryd.results84, go_sem]) rfl ⟨rfl, ⟨_, rfl⟩⟩
        | exact bodyPost_ret (v := .bool false) (by simp [results, Tryd.results84, go_sem]) rfl ⟨rfl, ⟨_, rfl⟩⟩


set_option maxHeartbeats 2000000 in
set_option maxRecDepth 100000 in
theorem here_closes {w : World} {bl : Nat} {A : Option Addr} {c : Nat} {line : List Int} (h : w.cell? ⟨bl, 0, none⟩ = some (.slice A line.length c)) (hr : Kd.C (Kd.int .u8) w A line.length line) (hc : line.length ≤ c) (hu : ∀ i, 0 ≤ rd line i ∧ rd line i ≤ 255) (i : Int) (hi0 : 0 ≤ i) (hi : i ≤ 1000000000000000) :
    Calls Tryd.prog 86 #[.int .i64 i, .pointer (some ⟨bl, 0, none⟩)] w fun e w' => e = .returned (.bool (isW line (i - 1) && !isW line i)) ∧ Drawn0 w w' := by
  have H := Aside0.mk (And.intro hr (And.intro hc hu))
  have HC1 := Aside0.mk (isWord_plain hr hc hu (i - 1))
  have HC2 : ∀ n, Aside0 (Calls Tryd.prog 85 #[.slice A line.length c, .int .i64 (i)] (w.drewN n) fun e w' => e = .returned (.bool (isW line (i))) ∧ Drawn0 (w.drewN n) w') := fun n => ⟨isWord_plain (Kd.C_drewN hr n) hc hu (i)⟩
  clear hr hc hu
  cases e1 : isW line (i - 1)
  · rw [e1] at HC1
    go_enter Tryd.func86, Tryd.ntmps86
    go_wp2_with (go_at_call 85; with_reducible refine HC1.out.mono ?_; rintro e w' ⟨rfl, ⟨nd, rfl⟩⟩)
    exact bodyPost_ret (v := .bool (false && !isW line i)) (by simp [results, Tryd.results86, go_sem]) rfl ⟨rfl, ⟨_, rfl⟩⟩
  · rw [e1] at HC1
    cases e2 : isW line (i)
    all_goals
      rw [e2] at HC2
      go_enter Tryd.func86, Tryd.ntmps86
      go_wp2_with (go_at_call 85; first | (with_reducible refine HC1.out.mono ?_; rintro e w' ⟨rfl, ⟨nd, rfl⟩⟩) | (with_reducible refine (HC2 _).out.mono ?_; rintro e w' ⟨rfl, ⟨nd2, rfl⟩⟩))
      first
        | exact bodyPost_ret (v := .bool true) (by simp [results, Tryd.results86, go_sem]) rfl ⟨rfl, ⟨_, rfl⟩⟩
        | exact bodyPost_ret (v := .bool false) (by simp [results, Tryd.results86, go_sem]) rfl ⟨rfl, ⟨_, rfl⟩⟩



set_option maxHeartbeats 4000000 in
set_option maxRecDepth 100000 in
theorem only_front {w0 w : World} {bl bb br : Nat} {A : Option Addr} {c : Nat} {line E : List Int} (hE : EX w0 bl bb br A c line.length E w) (hr : Kd.C (Kd.int .u8) w0 A line.length line) (hc : line.length ≤ c) (hu : ∀ i, 0 ≤ rd line i ∧ rd line i ≤ 255) (hn : line.length ≤ 281474976710656) :
    Calls Tryd.prog 81 #[.func (.func 82) #[] #[], .pointer (some ⟨bb, 0, none⟩)] w fun e w' => e = .returned (.tuple #[]) ∧ EX w0 bl bb br A c line.length (mask E (fW line .front) line.length) w' := by
  have H := Aside0.mk (And.intro hr (And.intro hc hu))
  have HE := Aside0.mk hE
  have cb := hE.cb
  clear hr hc hu hE
  have HC : Aside0 (∀ (E' : List Int) (wr : World) (k : Nat), k ≤ line.length → EX w0 bl bb br A c line.length E' wr → Calls Tryd.prog 82 #[.int .i64 (k : Int)] wr fun e w' => e = .returned (.bool (fW line .front (k : Int))) ∧ Drawn0 wr w') := ⟨fun E' wr k hk h => (here_front _).mono fun e w' h => ⟨h.1, by rw [h.2]; exact Drawn0.refl _⟩⟩
  go_enter Tryd.func81, Tryd.ntmps81
  go_wp2
  go_loopw [6] (fun v wl => ∃ (k : Nat) (E' : List Int), k ≤ line.length + 1 ∧ v = .int .i64 k ∧ Aside0 (EX w0 bl bb br A c line.length E' wl ∧ (∀ j : Nat, j < k → rd E' (j : Int) = if fW line .front (j : Int) = true then rd E (j : Int) else -1) ∧ (∀ j : Nat, k ≤ j → rd E' (j : Int) = rd E (j : Int)))) (fun v _ => line.length + 1 - (intOf v).toNat)
  case atStart => exact ⟨0, E, by omega, rfl, ⟨HE.out, fun j hj => by omega, fun j _ => rfl⟩⟩
  case round =>
    obtain ⟨k, E', hk, rfl, HL⟩ := hrel
    clear HE cb
    by_cases hlt : k < line.length + 1
    · have hd : decide ((k : Int) < (line.length : Int) + 1) = true := decide_eq_true (by omega)
      have HN := Aside0.mk (HC.out E' wr k (by omega) HL.out.1)
      cases ef : fW line .front (k : Int)
      · rw [ef] at HN
        have q1 : (0 ≤ (k : Int)) = True := eq_true (by omega)
        have q2 : ((k : Int) < (line.length : Int) + 1) = True := eq_true (by omega)
        go_wp2_with (go_at_call 82; with_reducible refine HN.out.mono ?_; rintro e w' ⟨rfl, ⟨nd, rfl⟩⟩; have HL2 := Aside0.mk (And.intro (HL.out.1.drew nd) HL.out.2); have cb := HL2.out.1.cb; have fk := blk_frozen HL2.out.1.row k; have ck := HL2.out.1.cr (show k ≤ line.length by omega); clear HL)
        go_roundw
        case rel =>
          refine ⟨k + 1, E'.set k (-1), by omega, by go_num, ⟨HL2.out.1.put k (-1), fun j hj => ?_, fun j hj => ?_⟩⟩
          · rw [rd_set E' _ _ (by omega) (by rw [HL2.out.1.len]; omega)]
            by_cases e : (j : Int) = k
            · rw [if_pos e, e, ef]; rfl
            · rw [if_neg e]; exact HL2.out.2.1 j (by omega)
          · rw [rd_set E' _ _ (by omega) (by rw [HL2.out.1.len]; omega), if_neg (by omega)]
            exact HL2.out.2.2 j (by omega)
        case measure => simp [intOf]; omega
      · rw [ef] at HN
        go_wp2_with (go_at_call 82; with_reducible refine HN.out.mono ?_; rintro e w' ⟨rfl, ⟨nd, rfl⟩⟩; have HL2 := Aside0.mk (And.intro (HL.out.1.drew nd) HL.out.2); clear HL)
        go_roundw
        case rel =>
          refine ⟨k + 1, E', by omega, by go_num, ⟨HL2.out.1, fun j hj => ?_, fun j hj => HL2.out.2.2 j (by omega)⟩⟩
          by_cases e : j = k
          · subst e; rw [ef, HL2.out.2.2 j (Nat.le_refl _)]; rfl
          · exact HL2.out.2.1 j (by omega)
        case measure => simp [intOf]; omega
    · have hd : decide ((k : Int) < (line.length : Int) + 1) = false := decide_eq_false (by omega)
      have HF := Aside0.mk (show EX w0 bl bb br A c line.length (mask E (fW line .front) line.length) wr by
        have h := HL.out.1
        rwa [show E' = mask E (fW line .front) line.length from rd_ext (by rw [h.len, mask_len]) (fun j hj => by
          rw [h.len] at hj
          rw [HL.out.2.1 j (by omega), mask_rd (by omega)])] at h)
      clear HL
      go_wp2
      exact bodyPost_end (v := .tuple #[]) (by simp [results, Tryd.results81, go_sem]) rfl ⟨rfl, HF.out⟩


set_option maxHeartbeats 4000000 in
set_option maxRecDepth 100000 in
theorem only_back {w0 w : World} {bl bb br : Nat} {A : Option Addr} {c : Nat} {line E : List Int} (hE : EX w0 bl bb br A c line.length E w) (hr : Kd.C (Kd.int .u8) w0 A line.length line) (hc : line.length ≤ c) (hu : ∀ i, 0 ≤ rd line i ∧ rd line i ≤ 255) (hn : line.length ≤ 281474976710656) :
    Calls Tryd.prog 81 #[.func (.func 83) #[] #[.pointer (some ⟨bl, 0, none⟩)], .pointer (some ⟨bb, 0, none⟩)] w fun e w' => e = .returned (.tuple #[]) ∧ EX w0 bl bb br A c line.length (mask E (fW line .back) line.length) w' := by
  have H := Aside0.mk (And.intro hr (And.intro hc hu))
  have HE := Aside0.mk hE
  have cb := hE.cb
  clear hr hc hu hE
  have HC : Aside0 (∀ (E' : List Int) (wr : World) (k : Nat), k ≤ line.length → EX w0 bl bb br A c line.length E' wr → Calls Tryd.prog 83 #[.int .i64 (k : Int), .pointer (some ⟨bl, 0, none⟩)] wr fun e w' => e = .returned (.bool (fW line .back (k : Int))) ∧ Drawn0 wr w') := ⟨fun E' wr k hk h => (here_back h.cl _).mono fun e w' h => ⟨h.1, by rw [h.2]; exact Drawn0.refl _⟩⟩
  go_enter Tryd.func81, Tryd.ntmps81
  go_wp2
  go_loopw [6] (fun v wl => ∃ (k : Nat) (E' : List Int), k ≤ line.length + 1 ∧ v = .int .i64 k ∧ Aside0 (EX w0 bl bb br A c line.length E' wl ∧ (∀ j : Nat, j < k → rd E' (j : Int) = if fW line .back (j : Int) = true then rd E (j : Int) else -1) ∧ (∀ j : Nat, k ≤ j → rd E' (j : Int) = rd E (j : Int)))) (fun v _ => line.length + 1 - (intOf v).toNat)
  case atStart => exact ⟨0, E, by omega, rfl, ⟨HE.out, fun j hj => by omega, fun j _ => rfl⟩⟩
  case round =>
    obtain ⟨k, E', hk, rfl, HL⟩ := hrel
    clear HE cb
    by_cases hlt : k < line.length + 1
    · have hd : decide ((k : Int) < (line.length : Int) + 1) = true := decide_eq_true (by omega)
      have HN := Aside0.mk (HC.out E' wr k (by omega) HL.out.1)
      cases ef : fW line .back (k : Int)
      · rw [ef] at HN
        have q1 : (0 ≤ (k : Int)) = True := eq_true (by omega)
        have q2 : ((k : Int) < (line.length : Int) + 1) = True := eq_true (by omega)
        go_wp2_with (go_at_call 83; with_reducible refine HN.out.mono ?_; rintro e w' ⟨rfl, ⟨nd, rfl⟩⟩; have HL2 := Aside0.mk (And.intro (HL.out.1.drew nd) HL.out.2); have cb := HL2.out.1.cb; have fk := blk_frozen HL2.out.1.row k; have ck := HL2.out.1.cr (show k ≤ line.length by omega); clear HL)
        go_roundw
        case rel =>
          refine ⟨k + 1, E'.set k (-1), by omega, by go_num, ⟨HL2.out.1.put k (-1), fun j hj => ?_, fun j hj => ?_⟩⟩
          · rw [rd_set E' _ _ (by omega) (by rw [HL2.out.1.len]; omega)]
            by_cases e : (j : Int) = k
            · rw [if_pos e, e, ef]; rfl
            · rw [if_neg e]; exact HL2.out.2.1 j (by omega)
          · rw [rd_set E' _ _ (by omega) (by rw [HL2.out.1.len]; omega), if_neg (by omega)]
            exact HL2.out.2.2 j (by omega)
        case measure => simp [intOf]; omega
      · rw [ef] at HN
        go_wp2_with (go_at_call 83; with_reducible refine HN.out.mono ?_; rintro e w' ⟨rfl, ⟨nd, rfl⟩⟩; have HL2 := Aside0.mk (And.intro (HL.out.1.drew nd) HL.out.2); clear HL)
        go_roundw
        case rel =>
          refine ⟨k + 1, E', by omega, by go_num, ⟨HL2.out.1, fun j hj => ?_, fun j hj => HL2.out.2.2 j (by omega)⟩⟩
          by_cases e : j = k
          · subst e; rw [ef, HL2.out.2.2 j (Nat.le_refl _)]; rfl
          · exact HL2.out.2.1 j (by omega)
        case measure => simp [intOf]; omega
    · have hd : decide ((k : Int) < (line.length : Int) + 1) = false := decide_eq_false (by omega)
      have HF := Aside0.mk (show EX w0 bl bb br A c line.length (mask E (fW line .back) line.length) wr by
        have h := HL.out.1
        rwa [show E' = mask E (fW line .back) line.length from rd_ext (by rw [h.len, mask_len]) (fun j hj => by
          rw [h.len] at hj
          rw [HL.out.2.1 j (by omega), mask_rd (by omega)])] at h)
      clear HL
      go_wp2
      exact bodyPost_end (v := .tuple #[]) (by simp [results, Tryd.results81, go_sem]) rfl ⟨rfl, HF.out⟩


set_option maxHeartbeats 4000000 in
set_option maxRecDepth 100000 in
theorem only_opens {w0 w : World} {bl bb br : Nat} {A : Option Addr} {c : Nat} {line E : List Int} (hE : EX w0 bl bb br A c line.length E w) (hr : Kd.C (Kd.int .u8) w0 A line.length line) (hc : line.length ≤ c) (hu : ∀ i, 0 ≤ rd line i ∧ rd line i ≤ 255) (hn : line.length ≤ 281474976710656) :
    Calls Tryd.prog 81 #[.func (.func 84) #[] #[.pointer (some ⟨bl, 0, none⟩)], .pointer (some ⟨bb, 0, none⟩)] w fun e w' => e = .returned (.tuple #[]) ∧ EX w0 bl bb br A c line.length (mask E (fW line .opens) line.length) w' := by
  have H := Aside0.mk (And.intro hr (And.intro hc hu))
  have HE := Aside0.mk hE
  have cb := hE.cb
  clear hr hc hu hE
  have HC : Aside0 (∀ (E' : List Int) (wr : World) (k : Nat), k ≤ line.length → EX w0 bl bb br A c line.length E' wr → Calls Tryd.prog 84 #[.int .i64 (k : Int), .pointer (some ⟨bl, 0, none⟩)] wr fun e w' => e = .returned (.bool (fW line .opens (k : Int))) ∧ Drawn0 wr w') := ⟨fun E' wr k hk h => here_opens h.cl (Kd.C_below H.out.1 h.below) H.out.2.1 H.out.2.2 _ (by omega) (by omega)⟩
  go_enter Tryd.func81, Tryd.ntmps81
  go_wp2
  go_loopw [6] (fun v wl => ∃ (k : Nat) (E' : List Int), k ≤ line.length + 1 ∧ v = .int .i64 k ∧ Aside0 (EX w0 bl bb br A c line.length E' wl ∧ (∀ j : Nat, j < k → rd E' (j : Int) = if fW line .opens (j : Int) = true then rd E (j : Int) else -1) ∧ (∀ j : Nat, k ≤ j → rd E' (j : Int) = rd E (j : Int)))) (fun v _ => line.length + 1 - (intOf v).toNat)
  case atStart => exact ⟨0, E, by omega, rfl, ⟨HE.out, fun j hj => by omega, fun j _ => rfl⟩⟩
  case round =>
    obtain ⟨k, E', hk, rfl, HL⟩ := hrel
    clear HE cb
    by_cases hlt : k < line.length + 1
    · have hd : decide ((k : Int) < (line.length : Int) + 1) = true := decide_eq_true (by omega)
      have HN := Aside0.mk (HC.out E' wr k (by omega) HL.out.1)
      cases ef : fW line .opens (k : Int)
      · rw [ef] at HN
        have q1 : (0 ≤ (k : Int)) = True := eq_true (by omega)
        have q2 : ((k : Int) < (line.length : Int) + 1) = True := eq_true (by omega)
        go_wp2_with (go_at_call 84; with_reducible refine HN.out.mono ?_; rintro e w' ⟨rfl, ⟨nd, rfl⟩⟩; have HL2 := Aside0.mk (And.intro (HL.out.1.drew nd) HL.out.2); have cb := HL2.out.1.cb; have fk := blk_frozen HL2.out.1.row k; have ck := HL2.out.1.cr (show k ≤ line.length by omega); clear HL)
        go_roundw
        case rel =>
          refine ⟨k + 1, E'.set k (-1), by omega, by go_num, ⟨HL2.out.1.put k (-1), fun j hj => ?_, fun j hj => ?_⟩⟩
          · rw [rd_set E' _ _ (by omega) (by rw [HL2.out.1.len]; omega)]
            by_cases e : (j : Int) = k
            · rw [if_pos e, e, ef]; rfl
            · rw [if_neg e]; exact HL2.out.2.1 j (by omega)
          · rw [rd_set E' _ _ (by omega) (by rw [HL2.out.1.len]; omega), if_neg (by omega)]
            exact HL2.out.2.2 j (by omega)
        case measure => simp [intOf]; omega
      · rw [ef] at HN
        go_wp2_with (go_at_call 84; with_reducible refine HN.out.mono ?_; rintro e w' ⟨rfl, ⟨nd, rfl⟩⟩; have HL2 := Aside0.mk (And.intro (HL.out.1.drew nd) HL.out.2); clear HL)
        go_roundw
        case rel =>
          refine ⟨k + 1, E', by omega, by go_num, ⟨HL2.out.1, fun j hj => ?_, fun j hj => HL2.out.2.2 j (by omega)⟩⟩
          by_cases e : j = k
          · subst e; rw [ef, HL2.out.2.2 j (Nat.le_refl _)]; rfl
          · exact HL2.out.2.1 j (by omega)
        case measure => simp [intOf]; omega
    · have hd : decide ((k : Int) < (line.length : Int) + 1) = false := decide_eq_false (by omega)
      have HF := Aside0.mk (show EX w0 bl bb br A c line.length (mask E (fW line .opens) line.length) wr by
        have h := HL.out.1
        rwa [show E' = mask E (fW line .opens) line.length from rd_ext (by rw [h.len, mask_len]) (fun j hj => by
          rw [h.len] at hj
          rw [HL.out.2.1 j (by omega), mask_rd (by omega)])] at h)
      clear HL
      go_wp2
      exact bodyPost_end (v := .tuple #[]) (by simp [results, Tryd.results81, go_sem]) rfl ⟨rfl, HF.out⟩


set_option maxHeartbeats 4000000 in
set_option maxRecDepth 100000 in
theorem only_closes {w0 w : World} {bl bb br : Nat} {A : Option Addr} {c : Nat} {line E : List Int} (hE : EX w0 bl bb br A c line.length E w) (hr : Kd.C (Kd.int .u8) w0 A line.length line) (hc : line.length ≤ c) (hu : ∀ i, 0 ≤ rd line i ∧ rd line i ≤ 255) (hn : line.length ≤ 281474976710656) :
    Calls Tryd.prog 81 #[.func (.func 86) #[] #[.pointer (some ⟨bl, 0, none⟩)], .pointer (some ⟨bb, 0, none⟩)] w fun e w' => e = .returned (.tuple #[]) ∧ EX w0 bl bb br A c line.length (mask E (fW line .closes) line.length) w' := by
  have H := Aside0.mk (And.intro hr (And.intro hc hu))
  have HE := Aside0.mk hE
  have cb := hE.cb
  clear hr hc hu hE
  have HC : Aside0 (∀ (E' : List Int) (wr : World) (k : Nat), k ≤ line.length → EX w0 bl bb br A c line.length E' wr → Calls Tryd.prog 86 #[.int .i64 (k : Int), .pointer (some ⟨bl, 0, none⟩)] wr fun e w' => e = .returned (.bool (fW line .closes (k : Int))) ∧ Drawn0 wr w') := ⟨fun E' wr k hk h => here_closes h.cl (Kd.C_below H.out.1 h.below) H.out.2.1 H.out.2.2 _ (by omega) (by omega)⟩
  go_enter Tryd.func81, Tryd.ntmps81
  go_wp2
  go_loopw [6] (fun v wl => ∃ (k : Nat) (E' : List Int), k ≤ line.length + 1 ∧ v = .int .i64 k ∧ Aside0 (EX w0 bl bb br A c line.length E' wl ∧ (∀ j : Nat, j < k → rd E' (j : Int) = if fW line .closes (j : Int) = true then rd E (j : Int) else -1) ∧ (∀ j : Nat, k ≤ j → rd E' (j : Int) = rd E (j : Int)))) (fun v _ => line.length + 1 - (intOf v).toNat)
  case atStart => exact ⟨0, E, by omega, rfl, ⟨HE.out, fun j hj => by omega, fun j _ => rfl⟩⟩
  case round =>
    obtain ⟨k, E', hk, rfl, HL⟩ := hrel
    clear HE cb
    by_cases hlt : k < line.length + 1
    · have hd : decide ((k : Int) < (line.length : Int) + 1) = true := decide_eq_true (by omega)
      have HN := Aside0.mk (HC.out E' wr k (by omega) HL.out.1)
      cases ef : fW line .closes (k : Int)
      · rw [ef] at HN
        have q1 : (0 ≤ (k : Int)) = True := eq_true (by omega)
        have q2 : ((k : Int) < (line.length : Int) + 1) = True := eq_true (by omega)
        go_wp2_with (go_at_call 86; with_reducible refine HN.out.mono ?_; rintro e w' ⟨rfl, ⟨nd, rfl⟩⟩; have HL2 := Aside0.mk (And.intro (HL.out.1.drew nd) HL.out.2); have cb := HL2.out.1.cb; have fk := blk_frozen HL2.out.1.row k; have ck := HL2.out.1.cr (show k ≤ line.length by omega); clear HL)
        go_roundw
        case rel =>
          refine ⟨k + 1, E'.set k (-1), by omega, by go_num, ⟨HL2.out.1.put k (-1), fun j hj => ?_, fun j hj => ?_⟩⟩
          · rw [rd_set E' _ _ (by omega) (by rw [HL2.out.1.len]; omega)]
            by_cases e : (j : Int) = k
            · rw [if_pos e, e, ef]; rfl
            · rw [if_neg e]; exact HL2.out.2.1 j (by omega)
          · rw [rd_set E' _ _ (by omega) (by rw [HL2.out.1.len]; omega), if_neg (by omega)]
            exact HL2.out.2.2 j (by omega)
        case measure => simp [intOf]; omega
      · rw [ef] at HN
        go_wp2_with (go_at_call 86; with_reducible refine HN.out.mono ?_; rintro e w' ⟨rfl, ⟨nd, rfl⟩⟩; have HL2 := Aside0.mk (And.intro (HL.out.1.drew nd) HL.out.2); clear HL)
        go_roundw
        case rel =>
          refine ⟨k + 1, E', by omega, by go_num, ⟨HL2.out.1, fun j hj => ?_, fun j hj => HL2.out.2.2 j (by omega)⟩⟩
          by_cases e : j = k
          · subst e; rw [ef, HL2.out.2.2 j (Nat.le_refl _)]; rfl
          · exact HL2.out.2.1 j (by omega)
        case measure => simp [intOf]; omega
    · have hd : decide ((k : Int) < (line.length : Int) + 1) = false := decide_eq_false (by omega)
      have HF := Aside0.mk (show EX w0 bl bb br A c line.length (mask E (fW line .closes) line.length) wr by
        have h := HL.out.1
        rwa [show E' = mask E (fW line .closes) line.length from rd_ext (by rw [h.len, mask_len]) (fun j hj => by
          rw [h.len] at hj
          rw [HL.out.2.1 j (by omega), mask_rd (by omega)])] at h)
      clear HL
      go_wp2
      exact bodyPost_end (v := .tuple #[]) (by simp [results, Tryd.results81, go_sem]) rfl ⟨rfl, HF.out⟩

end Go.Proofs.YtdhdngoeaneanaaDoor.PT
end
section
namespace Go.Proofs.YtdhdngoeaneanaaDoor.PT
open Go.RowKit Go.Proofs.YtdhdngoeaneanaaDoorW.PrintWords Go.Proofs.YtdhdngoeaneanaaDoorW.PrintMore
set_option linter.unusedVariables false
theorem te_single_single (v : Value) (w : World) : (Instr.typeAssert (.iface 101 v) 121 101 true).run Tryd.prog w = .ok (.tuple #[v, .bool true]) w := by kernel_rfl
theorem te_many_single (v : Value) (w : World) : (Instr.typeAssert (.iface 122 v) 121 101 true).run Tryd.prog w = .ok (.tuple #[.agg #[.pointer none], .bool false]) w := by kernel_rfl
theorem te_many_many (v : Value) (w : World) : (Instr.typeAssert (.iface 122 v) 121 122 true).run Tryd.prog w = .ok (.tuple #[v, .bool true]) w := by kernel_rfl
theorem te_front_single (v : Value) (w : World) : (Instr.typeAssert (.iface 96 v) 121 101 true).run Tryd.prog w = .ok (.tuple #[.agg #[.pointer none], .bool false]) w := by kernel_rfl
theorem te_front_many (v : Value) (w : World) : (Instr.typeAssert (.iface 96 v) 121 122 true).run Tryd.prog w = .ok (.tuple #[.agg #[.pointer none], .bool false]) w := by kernel_rfl
theorem te_front_front (v : Value) (w : World) : (Instr.typeAssert (.iface 96 v) 121 96 true).run Tryd.prog w = .ok (.tuple #[v, .bool true]) w := by kernel_rfl
theorem te_back_single (v : Value) (w : World) : (Instr.typeAssert (.iface 97 v) 121 101 true).run Tryd.prog w = .ok (.tuple #[.agg #[.pointer none], .bool false]) w := by kernel_rfl
theorem te_back_many (v : Value) (w : World) : (Instr.typeAssert (.iface 97 v) 121 122 true).run Tryd.prog w = .ok (.tuple #[.agg #[.pointer none], .bool false]) w := by kernel_rfl
theorem te_back_front (v : Value) (w : World) : (Instr.typeAssert (.iface 97 v) 121 96 true).run Tryd.prog w = .ok (.tuple #[.agg #[], .bool false]) w := by kernel_rfl
theorem te_back_back (v : Value) (w : World) : (Instr.typeAssert (.iface 97 v) 121 97 true).run Tryd.prog w = .ok (.tuple #[v, .bool true]) w := by kernel_rfl
theorem te_opens_single (v : Value) (w : World) : (Instr.typeAssert (.iface 123 v) 121 101 true).run Tryd.prog w = .ok (.tuple #[.agg #[.pointer none], .bool false]) w := by kernel_rfl
theorem te_opens_many (v : Value) (w : World) : (Instr.typeAssert (.iface 123 v) 121 122 true).run Tryd.prog w = .ok (.tuple #[.agg #[.pointer none], .bool false]) w := by kernel_rfl
theorem te_opens_front (v : Value) (w : World) : (Instr.typeAssert (.iface 123 v) 121 96 true).run Tryd.prog w = .ok (.tuple #[.agg #[], .bool false]) w := by kernel_rfl
theorem te_opens_back (v : Value) (w : World) : (Instr.typeAssert (.iface 123 v) 121 97 true).run Tryd.prog w = .ok (.tuple #[.agg #[], .bool false]) w := by kernel_rfl
theorem te_opens_opens (v : Value) (w : World) : (Instr.typeAssert (.iface 123 v) 121 123 true).run Tryd.prog w = .ok (.tuple #[v, .bool true]) w := by kernel_rfl
theorem te_closes_single (v : Value) (w : World) : (Instr.typeAssert (.iface 124 v) 121 101 true).run Tryd.prog w = .ok (.tuple #[.agg #[.pointer none], .bool false]) w := by kernel_rfl
theorem te_closes_many (v : Value) (w : World) : (Instr.typeAssert (.iface 124 v) 121 122 true).run Tryd.prog w = .ok (.tuple #[.agg #[.pointer none], .bool false]) w := by kernel_rfl
theorem te_closes_front (v : Value) (w : World) : (Instr.typeAssert (.iface 124 v) 121 96 true).run Tryd.prog w = .ok (.tuple #[.agg #[], .bool false]) w := by kernel_rfl
theorem te_closes_back (v : Value) (w : World) : (Instr.typeAssert (.iface 124 v) 121 97 true).run Tryd.prog w = .ok (.tuple #[.agg #[], .bool false]) w := by kernel_rfl
theorem te_closes_opens (v : Value) (w : World) : (Instr.typeAssert (.iface 124 v) 121 123 true).run Tryd.prog w = .ok (.tuple #[.agg #[], .bool false]) w := by kernel_rfl
theorem te_closes_closes (v : Value) (w : World) : (Instr.typeAssert (.iface 124 v) 121 124 true).run Tryd.prog w = .ok (.tuple #[v, .bool true]) w := by kernel_rfl

section
variable {w0 w : World} {bl bb br : Nat} {A : Option Addr} {c n : Nat} {E : List Int}
theorem EX.alloc (h : EX w0 bl bb br A c n E w) (o : Obj) : EX w0 bl bb br A c n E (w.alloc o) := ⟨below_alloc h.below o, h.gl, h.gb, h.gr, blk_alloc h.ln o, blk_alloc h.bs o, blk_alloc h.row o, h.len⟩
theorem EX.far (h : EX w0 bl bb br A c n E w) {s t : Nat} {cs : Array Value} (hs : w.heap[s]? = some (.cells cs t (0, 0))) (ht : t ≠ 3) (j : Nat) (u : Value) : (w.setCell ⟨br, j, none⟩ u).heap[s]? = some (.cells cs t (0, 0)) := blk_far hs (blk_ne hs h.row ht) u
end
theorem th_at {w : World} {A : Option Addr} {l : List Th} (h : kTh.C w A l.length l) {k : Nat} (hk : k < l.length) : ∃ ad, A = some ad ∧ w.cell? (ad.add k) = some (enc l[k]) := by
  obtain ⟨ad, h1, h2⟩ := ReadsOf.at_ (Kd.reads_of_C (enc := enc) (d := Th.front) (h1 := enc_one) h) (k : Int) (by omega) (by omega)
  refine ⟨ad, h1, ?_⟩
  rw [Int.toNat_natCast] at h2
  rw [h2]
  simp [rdOf, List.getD_eq_getElem?_getD, hk]
theorem endsV_drop (line : List Int) (l : List PTh) {k : Nat} (hk : k < l.length) : endsV line (l.drop k) = stepV line l[k] (endsV line (l.drop (k + 1))) := by
  rw [List.drop_eq_getElem_cons hk]; rfl
set_option maxHeartbeats 4000000 in
set_option maxRecDepth 100000 in
theorem ends_calls {w : World} {A : Option Addr} {c : Nat} {line : List Int} {pb : Nat} {A1 : Option Addr} {c1 : Nat} {l : List Th} (hr : Kd.C (Kd.int .u8) w A line.length line) (hu : ∀ i, 0 ≤ rd line i ∧ rd line i ≤ 255)
    (hn : (line.length + 1) * 8 ≤ 281474976710656) (hp : w.heap[pb]? = some (.cells #[.slice A1 l.length c1] 77 (0, 0))) (hk : kTh.C w A1 l.length l) (hS : Sets w l) (hl : l.length ≤ 300) (hc : line.length ≤ c) :
    Calls Tryd.prog 68 #[.pointer (some ⟨pb, 0, none⟩), .slice A line.length c] w fun e w' => e = .returned (.slice (some ⟨w.heap.size + 1, 0, none⟩) (line.length + 1) (line.length + 1)) ∧ Below w.heap.size w w' ∧ w'.heap[w.heap.size + 1]? = some (.cells (iv (endsV line (l.map den))) 3 (0, 0)) := by
  have HP := Aside0.mk (And.intro hp (And.intro hS (And.intro hr (And.intro hu (And.intro hk hc)))))
  clear hp hS hr hu hk hc
  have hmk : ∀ W : World, (Instr.makeSlice 104 (.int .i64 ((line.length : Int) + 1)) (.int .i64 ((line.length : Int) + 1))).run Tryd.prog W = .ok (.slice (some ⟨W.heap.size, 0, none⟩) (line.length + 1) (line.length + 1)) (W.alloc (.cells (madeCells #[.int .i64 0] (line.length + 1)) 3)) :=
    print_make 104 3 .i64 8 Tryd.underlying104 (by kernel_rfl) (by decide) (line.length + 1) hn
  go_enter Tryd.func68, Tryd.ntmps68
  go_wp2
  have HE : EX w w.heap.size (w.heap.size + 1 + 1) (w.heap.size + 1) A c line.length (List.replicate (line.length + 1) 0) (((w.alloc (.cells #[.slice A line.length c] 22)).alloc (.cells (madeCells #[.int .i64 0] (line.length + 1)) 3)).alloc (.cells #[.slice (some ⟨w.heap.size + 1, 0, none⟩) (line.length + 1) (line.length + 1)] 104)) := by
    rw [iv_made]
    refine ⟨below_alloc (below_alloc (below_alloc (Below.refl _ _) _) _) _, Nat.le_refl _, by omega, by omega, blk_alloc (blk_alloc (blk_new _ _) _) _, ?_, blk_alloc ?_ _, by simp⟩
    · have h := blk_new ((w.alloc (.cells #[.slice A line.length c] 22)).alloc (.cells (iv (List.replicate (line.length + 1) 0)) 3)) (.cells #[.slice (some ⟨w.heap.size + 1, 0, none⟩) (line.length + 1) (line.length + 1)] 104)
      simpa only [World.size_alloc] using h
    · have h := blk_new (w.alloc (.cells #[.slice A line.length c] 22)) (.cells (iv (List.replicate (line.length + 1) 0)) 3)
      simpa only [World.size_alloc] using h
  have HE := Aside0.mk HE
  generalize (((w.alloc (.cells #[.slice A line.length c] 22)).alloc (.cells (madeCells #[.int .i64 0] (line.length + 1)) 3)).alloc (.cells #[.slice (some ⟨w.heap.size + 1, 0, none⟩) (line.length + 1) (line.length + 1)] 104)) = W at HE ⊢
  clear hmk
  go_loopw [23] (fun v wl => ∃ (k : Nat) (E : List Int), k ≤ line.length + 1 ∧ v = .int .i64 k ∧ Aside0 (EX w w.heap.size (w.heap.size + 1 + 1) (w.heap.size + 1) A c line.length E wl ∧ ∀ j : Nat, j < k → rd E (j : Int) = (j : Int))) (fun v _ => line.length + 1 - (intOf v).toNat)
  case atStart => exact ⟨0, _, by omega, rfl, ⟨HE.out, fun j hj => by omega⟩⟩
  case round =>
    obtain ⟨k, E, hk, rfl, HL⟩ := hrel
    clear HE
    have cb := HL.out.1.cb
    by_cases hlt : k < line.length + 1
    · have hd : decide ((k : Int) < (line.length : Int) + 1) = true := decide_eq_true (by omega)
      have q1 : (0 ≤ (k : Int)) = True := eq_true (by omega)
      have q2 : ((k : Int) < (line.length : Int) + 1) = True := eq_true (by omega)
      have fk := blk_frozen HL.out.1.row k
      have ck := HL.out.1.cr (show k ≤ line.length by omega)
      go_wp2
      go_roundw
      case rel =>
        refine ⟨k + 1, E.set k k, by omega, by go_num, ⟨HL.out.1.put k k, fun j hj => ?_⟩⟩
        rw [rd_set E _ _ (by omega) (by rw [HL.out.1.len]; omega)]
        by_cases e : (j : Int) = k
        · rw [if_pos e]; omega
        · rw [if_neg e]; exact HL.out.2 j (by omega)
      case measure => simp [intOf]; omega
    · have hd : decide ((k : Int) < (line.length : Int) + 1) = false := decide_eq_false (by omega)
      have HI := Aside0.mk (show EX w w.heap.size (w.heap.size + 1 + 1) (w.heap.size + 1) A c line.length (endsI line) wr by
        have h := HL.out.1
        rwa [show E = endsI line from rd_ext (by rw [h.len]; simp [endsI]) (fun j hj => by
          rw [HL.out.2 j (by rw [h.len] at hj; omega)]
          exact (rd_gen _ (fun i : Nat => (i : Int)) (by rw [h.len] at hj; omega)).symm)] at h)
      clear HL cb
      have cp : wr.cell? ⟨pb, 0, none⟩ = some (.slice A1 l.length c1) := (blk_cell (blk_below HP.out.1 HI.out.below) 0).trans rfl
      go_wp2
      go_loopg [8] l.length (fun g v8 wl => v8 = .int .i64 ((g : Int) - 1) ∧ g ≤ l.length ∧ Aside0 (EX w w.heap.size (w.heap.size + 1 + 1) (w.heap.size + 1) A c line.length (endsV line ((l.map den).drop g)) wl))
      case atStart => exact ⟨rfl, Nat.le_refl _, ⟨by rw [List.drop_eq_nil_of_le (by simp)]; exact HI.out⟩⟩
      case round =>
        obtain ⟨rfl, hg, HA⟩ := hrel
        clear HI cp
        have cp : wr.cell? ⟨pb, 0, none⟩ = some (.slice A1 l.length c1) := (blk_cell (blk_below HP.out.1 HA.out.below) 0).trans rfl
        cases gk with
        | zero =>
          have HZ := Aside0.mk (show EX w w.heap.size (w.heap.size + 1 + 1) (w.heap.size + 1) A c line.length (endsV line (l.map den)) wr from HA.out)
          have cb := HA.out.cb
          clear cp HA
          go_wp2
          refine bodyPost_ret (v := .slice (some ⟨w.heap.size + 1, 0, none⟩) (line.length + 1) (line.length + 1)) (by simp [results, Tryd.results68, go_sem]) rfl ?_
          exact ⟨rfl, HZ.out.below, HZ.out.row⟩
        | succ d =>
          obtain ⟨ad, rfl, hth⟩ := th_at (Kd.C_below HP.out.2.2.2.2.1 HA.out.below) (show d < l.length by omega)
          have HS := Aside0.mk (SetAt_below (HP.out.2.1 l[d] (List.getElem_mem _)) HA.out.below)
          have HV := Aside0.mk (show endsV line ((l.map den).drop d) = stepV line (den l[d]) (endsV line ((l.map den).drop (d + 1))) by rw [endsV_drop line (l.map den) (show d < (l.map den).length by rw [List.length_map]; omega), List.getElem_map])
          have hd0 : decide (0 ≤ ((d + 1 : Nat) : Int) - 1) = true := decide_eq_true (by omega)
          have q1 : (0 ≤ ((d + 1 : Nat) : Int) - 1) = True := eq_true (by omega)
          have q2 : (((d + 1 : Nat) : Int) - 1 < (l.length : Int)) = True := eq_true (by omega)
          have cb := HA.out.cb
          generalize l[d] = x at hth HS HV
          generalize endsV line ((l.map den).drop (d + 1)) = E at HA HV
          rw [show ((d + 1 : Nat) : Int) - 1 = (d : Int) from by omega] at hd0 q1 q2 ⊢
          cases x with
          | single sb S =>
            simp only [enc] at hth
            have te0 := te_single_single
            have HB := Aside0.mk (And.intro (HA.out.alloc (.cells #[.pointer (some ⟨sb, 0, none⟩)] 101)) (And.intro (blk_new wr (.cells #[.pointer (some ⟨sb, 0, none⟩)] 101)) (blk_alloc HS.out (.cells #[.pointer (some ⟨sb, 0, none⟩)] 101))))
            have hxb : w.heap.size ≤ wr.heap.size := HA.out.below.size
            have cl := HB.out.1.cl
            go_wp2
            clear HA cb cl cp hth HS te0
            generalize wr.heap.size = xb at HB hxb ⊢
            generalize (wr.alloc (.cells #[.pointer (some ⟨sb, 0, none⟩)] 101)) = W at HB ⊢
            go_loopw [54] (fun v wl => ∃ (k : Nat) (E' : List Int), k ≤ line.length ∧ v = .int .i64 k ∧ Aside0 (EX w w.heap.size (w.heap.size + 1 + 1) (w.heap.size + 1) A c line.length E' wl ∧ wl.heap[xb]? = some (.cells #[.pointer (some ⟨sb, 0, none⟩)] 101 (0, 0)) ∧ wl.heap[sb]? = some (.cells (bset S) 120 (0, 0)) ∧ (∀ j : Nat, j < k → rd E' (j : Int) = if S (rd line (j : Int)).toNat = true then rd E ((j : Int) + 1) else -1) ∧ (∀ j : Nat, k ≤ j → rd E' (j : Int) = rd E (j : Int)))) (fun v _ => line.length - (intOf v).toNat)
            case atStart => exact ⟨0, E, by omega, rfl, ⟨HB.out.1, HB.out.2.1, HB.out.2.2, fun j hj => by omega, fun j _ => rfl⟩⟩
            case round =>
              obtain ⟨k, E', hk, rfl, HL⟩ := hrel
              clear HB
              have cl := HL.out.1.cl
              have cb := HL.out.1.cb
              have cx : wr.cell? ⟨xb, 0, none⟩ = some (.pointer (some ⟨sb, 0, none⟩)) := (blk_cell HL.out.2.1 0).trans rfl
              by_cases hlt : k < line.length
              · have hd1 : decide ((k : Int) < (line.length : Int)) = true := decide_eq_true (by omega)
                have q3 : (0 ≤ (k : Int)) = True := eq_true (by omega)
                have q4 : ((k : Int) < (line.length : Int) + 1) = True := eq_true (by omega)
                have q5 : ((k : Int) < (line.length : Int)) = True := eq_true (by omega)
                have q6 : ((k : Int) + 1 < (line.length : Int) + 1) = True := eq_true (by omega)
                have fk := blk_frozen HL.out.1.row k
                have ck := HL.out.1.cr (show k ≤ line.length by omega)
                have ck1 := HL.out.1.cr (show k + 1 ≤ line.length by omega)
                have hb := HP.out.2.2.2.1 (k : Int)
                obtain ⟨ad2, rfl, cby⟩ := Kd.at_int (Kd.C_below HP.out.2.2.1 HL.out.1.below) (k : Int) (by omega) (by omega)
                rw [Int.toNat_natCast] at cby
                have cs : wr.cell? ⟨sb, (rd line (k : Int)).toNat, none⟩ = some (.bool (S (rd line (k : Int)).toNat)) := (blk_cell HL.out.2.2.1 _).trans (bset_get (by omega))
                go_wp2
                have HL2 := Aside0.mk (And.intro (HL.out.1.put k (-1)) (And.intro (HL.out.1.far HL.out.2.1 (by decide) k (.int .i64 (-1))) (And.intro (HL.out.1.far HL.out.2.2.1 (by decide) k (.int .i64 (-1))) HL.out.2.2.2)))
                clear cl cb cx fk ck ck1 cby cs HL
                generalize (wr.setCell ⟨w.heap.size + 1, k, none⟩ (.int .i64 (-1))) = W2 at HL2 ⊢
                have cl := HL2.out.1.cl
                have cb := HL2.out.1.cb
                have cx : W2.cell? ⟨xb, 0, none⟩ = some (.pointer (some ⟨sb, 0, none⟩)) := (blk_cell HL2.out.2.1 0).trans rfl
                have fk := blk_frozen HL2.out.1.row k
                have ck := HL2.out.1.cr (show k ≤ line.length by omega)
                have ck1 := HL2.out.1.cr (show k + 1 ≤ line.length by omega)
                have cby : W2.cell? (ad2.add k) = some (.int .u8 (rd line (k : Int))) := by
                  obtain ⟨ad3, e3, h3⟩ := Kd.at_int (Kd.C_below HP.out.2.2.1 HL2.out.1.below) (k : Int) (by omega) (by omega)
                  injection e3 with e3
                  subst e3
                  rwa [Int.toNat_natCast] at h3
                have cs : W2.cell? ⟨sb, (rd line (k : Int)).toNat, none⟩ = some (.bool (S (rd line (k : Int)).toNat)) := (blk_cell HL2.out.2.2.1 _).trans (bset_get (by omega))
                cases eS : S (rd line (k : Int)).toNat
                · rw [eS] at cs
                  go_quiet (fail)
                  go_wp2
                  go_roundw
                  case rel =>
                    refine ⟨k + 1, E'.set k (-1), by omega, by go_num, ⟨HL2.out.1.drew _, blk_drewN HL2.out.2.1 _, blk_drewN HL2.out.2.2.1 _, fun j hj => ?_, fun j hj => ?_⟩⟩
                    · rw [rd_set E' _ _ (by omega) (by have h_ := HL2.out.1.len; rw [List.length_set] at h_; omega)]
                      by_cases e : (j : Int) = k
                      · rw [if_pos e, e, eS]; rfl
                      · rw [if_neg e]; exact HL2.out.2.2.2.1 j (by omega)
                    · rw [rd_set E' _ _ (by omega) (by have h_ := HL2.out.1.len; rw [List.length_set] at h_; omega), if_neg (by omega)]
                      exact HL2.out.2.2.2.2 j (by omega)
                  case measure => simp [intOf]; omega
                · rw [eS] at cs
                  have ev : rd (E'.set k (-1)) ((k + 1 : Nat) : Int) = rd E ((k : Int) + 1) := by
                    rw [rd_set E' _ _ (by omega) (by have h_ := HL2.out.1.len; rw [List.length_set] at h_; omega), if_neg (by omega), HL2.out.2.2.2.2 (k + 1) (by omega)]
                    rfl
                  rw [ev] at ck1
                  go_quiet (fail)
                  go_wp2
                  go_region
                  all_goals go_wp2
                  all_goals
                    refine ⟨⟨k + 1, (E'.set k (-1)).set k (rd E ((k : Int) + 1)), by omega, by go_num, ⟨(HL2.out.1.drew _).put k _, (HL2.out.1.drew _).far (blk_drewN HL2.out.2.1 _) (by decide) k _, (HL2.out.1.drew _).far (blk_drewN HL2.out.2.2.1 _) (by decide) k _, fun j hj => ?_, fun j hj => ?_⟩⟩, by simp [intOf]; omega⟩
                    · have hl_ := HL2.out.1.len
                      rw [rd_set _ _ _ (by omega) (by omega)]
                      rw [List.length_set] at hl_
                      rw [rd_set E' _ _ (by omega) (by omega)]
                      by_cases e : (j : Int) = k
                      · rw [if_pos e, e, eS]; rfl
                      · rw [if_neg e, if_neg e]; exact HL2.out.2.2.2.1 j (by omega)
                    · have hl_ := HL2.out.1.len
                      rw [rd_set _ _ _ (by omega) (by omega)]
                      rw [List.length_set] at hl_
                      rw [rd_set E' _ _ (by omega) (by omega), if_neg (by omega), if_neg (by omega)]
                      exact HL2.out.2.2.2.2 j (by omega)
              · have hd1 : decide ((k : Int) < (line.length : Int)) = false := decide_eq_false (by omega)
                obtain rfl : k = line.length := by omega
                have fk := blk_frozen HL.out.1.row line.length
                have ck := HL.out.1.cr (Nat.le_refl line.length)
                have q4 : ((line.length : Int) < (line.length : Int) + 1) = True := eq_true (by omega)
                have q3 : (0 ≤ (line.length : Int)) = True := eq_true (by omega)
                go_wp2
                have HF := Aside0.mk (show EX w w.heap.size (w.heap.size + 1 + 1) (w.heap.size + 1) A c line.length (stepV line (.single S) E) (wr.setCell ⟨w.heap.size + 1, line.length, none⟩ (.int .i64 (-1))) by
                  have h := HL.out.1.put line.length (-1)
                  have hl_ := HL.out.1.len
                  rwa [show E'.set line.length (-1) = stepV line (.single S) E from rd_ext (by rw [h.len]; simp [stepV]) (fun j hj => by
                    rw [h.len] at hj
                    rw [rd_set E' _ _ (by omega) (by omega)]
                    refine Eq.trans ?_ (rd_gen _ (fun i : Nat => if i < line.length ∧ S (rd line (i : Int)).toNat = true then rd E ((i : Int) + 1) else -1) hj).symm
                    by_cases e : (j : Int) = (line.length : Int)
                    · rw [if_pos e, if_neg (fun h => by omega)]
                    · rw [if_neg e, HL.out.2.2.2.1 j (by omega)]
                      by_cases eS : S (rd line (j : Int)).toNat = true
                      · rw [if_pos eS, if_pos ⟨by omega, eS⟩]
                      · rw [if_neg eS, if_neg (fun h => eS h.2)])] at h)
                clear HL
                go_roundg d
                case measure => omega
                case rel =>
                  refine ⟨by go_num, by omega, ⟨?_⟩⟩
                  rw [HV.out]
                  exact HF.out
          | many sb S =>
            simp only [enc] at hth
            have te0 := te_many_single
            have te1 := te_many_many
            have HB := Aside0.mk (And.intro (HA.out.alloc (.cells #[.pointer (some ⟨sb, 0, none⟩)] 122)) (And.intro (blk_new wr (.cells #[.pointer (some ⟨sb, 0, none⟩)] 122)) (blk_alloc HS.out (.cells #[.pointer (some ⟨sb, 0, none⟩)] 122))))
            have hxb : w.heap.size ≤ wr.heap.size := HA.out.below.size
            have cl := HB.out.1.cl
            go_wp2
            clear HA cb cl cp hth HS te0 te1
            generalize wr.heap.size = xb at HB hxb ⊢
            generalize (wr.alloc (.cells #[.pointer (some ⟨sb, 0, none⟩)] 122)) = W at HB ⊢
            go_loopg [12] line.length (fun g v12 wl => ∃ E' : List Int, v12 = .int .i64 ((g : Int) - 1) ∧ g ≤ line.length ∧ Aside0 (EX w w.heap.size (w.heap.size + 1 + 1) (w.heap.size + 1) A c line.length E' wl ∧ wl.heap[xb]? = some (.cells #[.pointer (some ⟨sb, 0, none⟩)] 122 (0, 0)) ∧ wl.heap[sb]? = some (.cells (bset S) 120 (0, 0)) ∧ (∀ j : Nat, j < g → rd E' (j : Int) = rd E (j : Int)) ∧ (∀ j : Nat, g ≤ j → j ≤ line.length → rd E' (j : Int) = mx line S E (line.length - j) j)))
            case atStart =>
              have h0 : ∀ j : Nat, line.length ≤ j → j ≤ line.length → rd E (j : Int) = mx line S E (line.length - j) j := by
                intro j h1 h2
                have e : j = line.length := by omega
                rw [e, Nat.sub_self]
                rfl
              exact ⟨E, rfl, Nat.le_refl _, ⟨HB.out.1, HB.out.2.1, HB.out.2.2, fun j _ => rfl, h0⟩⟩
            case round =>
              obtain ⟨E', rfl, hg2, HL⟩ := hrel
              clear HB
              cases gk with
              | zero =>
                have HF := Aside0.mk (show EX w w.heap.size (w.heap.size + 1 + 1) (w.heap.size + 1) A c line.length (stepV line (.many S) E) wr by
                  have h := HL.out.1
                  rwa [show E' = stepV line (.many S) E from rd_ext (by rw [h.len]; simp [stepV]) (fun j hj => by
                    rw [h.len] at hj
                    rw [HL.out.2.2.2.2 j (by omega) (by omega)]
                    exact (rd_gen _ (fun i : Nat => mx line S E (line.length - i) i) hj).symm)] at h)
                clear HL
                go_wp2
                go_roundg d
                case measure => omega
                case rel =>
                  refine ⟨by go_num, by omega, ⟨?_⟩⟩
                  rw [HV.out]
                  exact HF.out
              | succ k =>
                have hd1 : decide (0 ≤ ((k + 1 : Nat) : Int) - 1) = true := decide_eq_true (by omega)
                rw [show ((k + 1 : Nat) : Int) - 1 = (k : Int) from by omega] at hd1 ⊢
                have cl := HL.out.1.cl
                have cb := HL.out.1.cb
                have cx : wr.cell? ⟨xb, 0, none⟩ = some (.pointer (some ⟨sb, 0, none⟩)) := (blk_cell HL.out.2.1 0).trans rfl
                have q3 : (0 ≤ (k : Int)) = True := eq_true (by omega)
                have q4 : ((k : Int) < (line.length : Int) + 1) = True := eq_true (by omega)
                have q5 : ((k : Int) < (line.length : Int)) = True := eq_true (by omega)
                have q6 : ((k : Int) + 1 < (line.length : Int) + 1) = True := eq_true (by omega)
                have fk := blk_frozen HL.out.1.row k
                have ck := HL.out.1.cr (show k ≤ line.length by omega)
                have ck1 := HL.out.1.cr (show k + 1 ≤ line.length by omega)
                have hb := HP.out.2.2.2.1 (k : Int)
                obtain ⟨ad2, rfl, cby⟩ := Kd.at_int (Kd.C_below HP.out.2.2.1 HL.out.1.below) (k : Int) (by omega) (by omega)
                rw [Int.toNat_natCast] at cby
                have cs : wr.cell? ⟨sb, (rd line (k : Int)).toNat, none⟩ = some (.bool (S (rd line (k : Int)).toNat)) := (blk_cell HL.out.2.2.1 _).trans (bset_get (by omega))
                rw [HL.out.2.2.2.1 k (by omega)] at ck
                rw [HL.out.2.2.2.2 (k + 1) (by omega) (by omega)] at ck1
                have HM := Aside0.mk (show mx line S E (line.length - k) k = if S (rd line (k : Int)).toNat = true then max (rd E (k : Int)) (mx line S E (line.length - (k + 1)) (k + 1)) else rd E (k : Int) by
                  rw [show line.length - k = (line.length - (k + 1)) + 1 from by omega]; rfl)
                generalize mx line S E (line.length - (k + 1)) (k + 1) = M at ck1 HM
                cases eS : S (rd line (k : Int)).toNat
                · rw [eS] at cs HM
                  go_wp2
                  go_quiet (fail)
                  go_wp2
                  go_roundg k
                  case measure => omega
                  case rel =>
                    refine ⟨E', by go_num, by omega, ⟨HL.out.1.drew _, blk_drewN HL.out.2.1 _, blk_drewN HL.out.2.2.1 _, fun j hj => HL.out.2.2.2.1 j (by omega), fun j h1 h2 => ?_⟩⟩
                    by_cases e : j = k
                    · subst e
                      rw [HL.out.2.2.2.1 j (by omega), HM.out]; rfl
                    · exact HL.out.2.2.2.2 j (by omega) h2
                · rw [eS] at cs HM
                  go_wp2
                  go_quiet (fail)
                  go_wp2
                  go_region
                  all_goals go_wp2
                  all_goals go_roundg k
                  case measure => omega
                  case rel =>
                    have hl_ := HL.out.1.len
                    refine ⟨E'.set k (max (rd E (k : Int)) M), by go_num, by omega, ⟨(HL.out.1.drew _).put k _, (HL.out.1.drew _).far (blk_drewN HL.out.2.1 _) (by decide) k _, (HL.out.1.drew _).far (blk_drewN HL.out.2.2.1 _) (by decide) k _, fun j hj => ?_, fun j h1 h2 => ?_⟩⟩
                    · rw [rd_set E' _ _ (by omega) (by omega), if_neg (by omega)]
                      exact HL.out.2.2.2.1 j (by omega)
                    · rw [rd_set E' _ _ (by omega) (by omega)]
                      by_cases e : j = k
                      · subst e
                        rw [if_pos rfl, HM.out]; rfl
                      · rw [if_neg (by omega)]
                        exact HL.out.2.2.2.2 j (by omega) h2
          | front =>
            simp only [enc] at hth
            have te0 := te_front_single
            have te1 := te_front_many
            have te2 := te_front_front
            go_wp2_with (go_at_call 81; refine (only_front (HA.out.alloc _) HP.out.2.2.1 HP.out.2.2.2.2.2 HP.out.2.2.2.1 (by omega)).mono ?_; rintro e w' ⟨rfl, hx⟩; have HX := Aside0.mk hx; clear hx)
            go_roundg d
            case measure => omega
            case rel =>
              refine ⟨by go_num, by omega, ⟨?_⟩⟩
              rw [HV.out]
              exact HX.out
          | back =>
            simp only [enc] at hth
            have te0 := te_back_single
            have te1 := te_back_many
            have te2 := te_back_front
            have te3 := te_back_back
            go_wp2_with (go_at_call 81; refine (only_back (HA.out.alloc _) HP.out.2.2.1 HP.out.2.2.2.2.2 HP.out.2.2.2.1 (by omega)).mono ?_; rintro e w' ⟨rfl, hx⟩; have HX := Aside0.mk hx; clear hx)
            go_roundg d
            case measure => omega
            case rel =>
              refine ⟨by go_num, by omega, ⟨?_⟩⟩
              rw [HV.out]
              exact HX.out
          | opens =>
            simp only [enc] at hth
            have te0 := te_opens_single
            have te1 := te_opens_many
            have te2 := te_opens_front
            have te3 := te_opens_back
            have te4 := te_opens_opens
            go_wp2_with (go_at_call 81; refine (only_opens (HA.out.alloc _) HP.out.2.2.1 HP.out.2.2.2.2.2 HP.out.2.2.2.1 (by omega)).mono ?_; rintro e w' ⟨rfl, hx⟩; have HX := Aside0.mk hx; clear hx)
            go_roundg d
            case measure => omega
            case rel =>
              refine ⟨by go_num, by omega, ⟨?_⟩⟩
              rw [HV.out]
              exact HX.out
          | closes =>
            simp only [enc] at hth
            have te0 := te_closes_single
            have te1 := te_closes_many
            have te2 := te_closes_front
            have te3 := te_closes_back
            have te4 := te_closes_opens
            have te5 := te_closes_closes
            go_wp2_with (go_at_call 81; refine (only_closes (HA.out.alloc _) HP.out.2.2.1 HP.out.2.2.2.2.2 HP.out.2.2.2.1 (by omega)).mono ?_; rintro e w' ⟨rfl, hx⟩; have HX := Aside0.mk hx; clear hx)
            go_roundg d
            case measure => omega
            case rel =>
              refine ⟨by go_num, by omega, ⟨?_⟩⟩
              rw [HV.out]
              exact HX.out
end Go.Proofs.YtdhdngoeaneanaaDoor.PT
end
section
namespace Go.Proofs.YtdhdngoeaneanaaDoor.PT
open Go.RowKit Go.Proofs.YtdhdngoeaneanaaDoorW.PrintWords Go.Proofs.YtdhdngoeaneanaaDoorW.PrintMore
set_option linter.unusedVariables false
/-- The least place from a on with a match. -/
def firstV (E : List Int) : Nat → Int → Int × Bool
  | 0, _ => (0, false)
  | d + 1, a => if a < (E.length : Int) then (if rd E a ≥ 0 then (a, true) else firstV E d (a + 1)) else (0, false)
theorem iv_C {w : World} {br : Nat} {E : List Int} (h : w.heap[br]? = some (.cells (iv E) 3 (0, 0))) (hl : E.length ≤ 281474976710656) : Kd.C (Kd.int .i64) w (some ⟨br, 0, none⟩) E.length E := by
  refine Kd.C_of_reads (enc := Value.int .i64) (d := (0 : Int)) (h1 := fun _ => rfl) ⟨rfl, by omega, fun _ => ⟨_, rfl, fun j hj => ?_⟩⟩
  have h1 := (blk_cell h j).trans (iv_get hj)
  rw [rd, Int.toNat_natCast] at h1
  cases j with
  | zero => simpa [Addr.add] using h1
  | succ j => simpa [Addr.add] using h1
theorem endsV_len (line : List Int) (l : List PTh) : (endsV line l).length = line.length + 1 := by
  cases l with
  | nil => simp [endsV, endsI]
  | cons x l => cases x <;> simp [endsV, stepV, mask]
theorem first_l0 (E : List Int) (hE : E.length ≤ 281474976710656) : ∀ (d : Nat) (a : Int), 0 ≤ a → 0 < d → (E.length : Int) < a + d → X.pattern_first.l0 d E a = some (firstV E d a) := by
  intro d
  induction d with
  | zero =>
    intro a h0 h1 h2
    exact absurd h1 (by omega)
  | succ d ih =>
    intro a h0 h1 h2
    unfold X.pattern_first.l0 firstV
    by_cases h3 : a < (E.length : Int)
    · rw [if_pos h3, if_pos h0, if_pos h3, show wrap64 (a + 1) = a + 1 from by unfold wrap64; omega, ih (a + 1) (by omega) (by omega) (by omega)]
      split <;> rfl
    · rw [if_neg h3, if_neg h3]
theorem first_plain {w : World} {br : Nat} {E : List Int} (h : w.heap[br]? = some (.cells (iv E) 3 (0, 0))) (hl : E.length ≤ 281474976710656) (a : Int) (h0 : 0 ≤ a) :
    Calls Tryd.prog 69 #[.slice (some ⟨br, 0, none⟩) E.length E.length, .int .i64 a] w fun e w' => e = .returned (.tuple #[.int .i64 (firstV E (E.length + 2) a).1, .bool (firstV E (E.length + 2) a).2]) ∧ Drawn0 w w' :=
  X.pattern_first.calls (E.length + 2) _ _ E a _ _ w (iv_C h hl) (Nat.le_refl _) (first_l0 E hl _ a h0 (by omega) (by omega))
theorem firstV_rd (E : List Int) : ∀ (d : Nat) (a : Int), (firstV E d a).2 = true → a ≤ (firstV E d a).1 ∧ (firstV E d a).1 < E.length ∧ 0 ≤ rd E (firstV E d a).1 := by
  intro d
  induction d with
  | zero => intro a h; cases h
  | succ d ih =>
    intro a
    unfold firstV
    by_cases h3 : a < (E.length : Int)
    · rw [if_pos h3]
      by_cases h4 : rd E a ≥ 0
      · rw [if_pos h4]; exact fun _ => ⟨Int.le_refl _, h3, h4⟩
      · rw [if_neg h4]
        intro h
        have h5 := ih (a + 1) h
        exact ⟨by omega, h5.2⟩
    · rw [if_neg h3]; intro h; cases h
/-- What Find comes to. -/
def findV (line : List Int) (l : List PTh) (from_ : Int) : Int × Int × Bool :=
  if from_ < 0 ∨ from_ > line.length then (0, 0, false)
  else if (firstV (endsV line l) (line.length + 1 + 2) from_).2 = true then ((firstV (endsV line l) (line.length + 1 + 2) from_).1, rd (endsV line l) (firstV (endsV line l) (line.length + 1 + 2) from_).1, true)
  else (0, 0, false)
set_option maxHeartbeats 4000000 in
set_option maxRecDepth 100000 in
theorem find_calls {w : World} {A : Option Addr} {c : Nat} {line : List Int} {v : Value} {base : Nat} {pl : List PTh} {from_ : Int} (hr : Kd.C (Kd.int .u8) w A line.length line) (hu : ∀ i, 0 ≤ rd line i ∧ rd line i ≤ 255)
    (hn : (line.length + 1) * 8 ≤ 281474976710656) (hc : line.length ≤ c) (hp : PatO w base v (some pl)) :
    Calls Tryd.prog 43 #[v, .slice A line.length c, .int .i64 from_] w fun e w' => e = .returned (.tuple #[.int .i64 (findV line pl from_).1, .int .i64 (findV line pl from_).2.1, .bool (findV line pl from_).2.2]) ∧ Below w.heap.size w w' := by
  obtain ⟨b, A1, c1, l, rfl, hb, BK, HO, HS, hl, rfl⟩ := hp
  have HK : kTh.C w A1 l.length l := (Kd.R_reads' HO).2.2
  have HE := Aside0.mk (ends_calls hr hu hn BK HK HS hl hc)
  clear HO HS HK BK hb hr hu
  by_cases h0 : from_ < 0
  · have hd : decide (from_ < 0) = true := decide_eq_true h0
    have HV := Aside0.mk (show findV line (l.map den) from_ = (0, 0, false) from if_pos (.inl h0))
    clear h0
    go_enter Tryd.func43, Tryd.ntmps43
    go_wp2
    refine bodyPost_ret (v := .tuple #[.int .i64 0, .int .i64 0, .bool false]) (by simp [results, Tryd.results43, go_sem]) rfl ?_
    rw [HV.out]
    exact ⟨rfl, Below.refl _ _⟩
  by_cases h1 : from_ > (line.length : Int)
  · have hd : decide (from_ < 0) = false := decide_eq_false h0
    have hd2 : decide ((line.length : Int) < from_) = true := decide_eq_true h1
    have HV := Aside0.mk (show findV line (l.map den) from_ = (0, 0, false) from if_pos (.inr h1))
    clear h0 h1
    go_enter Tryd.func43, Tryd.ntmps43
    go_wp2
    refine bodyPost_ret (v := .tuple #[.int .i64 0, .int .i64 0, .bool false]) (by simp [results, Tryd.results43, go_sem]) rfl ?_
    rw [HV.out]
    exact ⟨rfl, Below.refl _ _⟩
  have hd : decide (from_ < 0) = false := decide_eq_false h0
  have hd2 : decide ((line.length : Int) < from_) = false := decide_eq_false h1
  go_enter Tryd.func43, Tryd.ntmps43
  have hl2 := endsV_len line (l.map den)
  have HF : Aside0 (∀ w' : World, w'.heap[w.heap.size + 1]? = some (.cells (iv (endsV line (l.map den))) 3 (0, 0)) → Calls Tryd.prog 69 #[.slice (some ⟨w.heap.size + 1, 0, none⟩) (line.length + 1) (line.length + 1), .int .i64 from_] w' fun e w'' => e = .returned (.tuple #[.int .i64 (firstV (endsV line (l.map den)) (line.length + 1 + 2) from_).1, .bool (firstV (endsV line (l.map den)) (line.length + 1 + 2) from_).2]) ∧ Drawn0 w' w'') := ⟨fun w' h => by
    have h2 := first_plain h (by omega) from_ (by omega)
    rw [hl2] at h2
    exact h2⟩
  have HV := Aside0.mk (show findV line (l.map den) from_ = if (firstV (endsV line (l.map den)) (line.length + 1 + 2) from_).2 = true then ((firstV (endsV line (l.map den)) (line.length + 1 + 2) from_).1, rd (endsV line (l.map den)) (firstV (endsV line (l.map den)) (line.length + 1 + 2) from_).1, true) else (0, 0, false) from if_neg (by omega))
  have hrd := firstV_rd (endsV line (l.map den)) (line.length + 1 + 2) from_
  generalize endsV line (l.map den) = E at HE HF HV hl2 hrd
  generalize firstV E (line.length + 1 + 2) from_ = r at HF HV hrd
  obtain ⟨r1, r2⟩ := r
  cases r2
  · go_wp2_with (first
      | (go_at_call 68; refine HE.out.mono ?_; rintro e w' ⟨rfl, hx⟩; have HX := Aside0.mk hx; clear hx)
      | (go_at_call 69; refine (HF.out _ HX.out.2).mono ?_; rintro e w'' ⟨rfl, ⟨nd, rfl⟩⟩))
    refine bodyPost_ret (v := .tuple #[.int .i64 0, .int .i64 0, .bool false]) (by simp [results, Tryd.results43, go_sem]) rfl ?_
    rw [HV.out]
    exact ⟨rfl, pw_below_drewN HX.out.1 nd⟩
  · have hrd := hrd rfl
    obtain ⟨k, rfl⟩ : ∃ k : Nat, r1 = (k : Int) := ⟨r1.toNat, by simp only at hrd; omega⟩
    simp only at hrd HF HV
    have q1 : (0 ≤ (k : Int)) = True := eq_true (by omega)
    have q2 : ((k : Int) < (line.length : Int) + 1) = True := eq_true (by omega)
    go_wp2_with (first
      | (go_at_call 68; refine HE.out.mono ?_; rintro e w' ⟨rfl, hx⟩; have ce : w'.cell? ⟨w.heap.size + 1, k, none⟩ = some (.int .i64 (rd E (k : Int))) := (blk_cell hx.2 k).trans (iv_get (by omega)); have HX := Aside0.mk hx; clear hx)
      | (go_at_call 69; refine (HF.out _ HX.out.2).mono ?_; rintro e w'' ⟨rfl, ⟨nd, rfl⟩⟩))
    go_quiet (fail)
    go_wp2
    refine bodyPost_ret (v := .tuple #[.int .i64 (k : Int), .int .i64 (rd E (k : Int)), .bool true]) (by simp [results, Tryd.results43, go_sem]) rfl ?_
    rw [HV.out]
    exact ⟨rfl, pw_below_drewN (pw_below_drewN HX.out.1 _) _⟩
end Go.Proofs.YtdhdngoeaneanaaDoor.PT
end
section
namespace Go.Proofs.YtdhdngoeaneanaaDoor.PT
open Go.RowKit Go.Proofs.YtdhdngoeaneanaaDoorW.PrintWords Go.Proofs.YtdhdngoeaneanaaDoorW.PrintMore
set_option linter.unusedVariables false
theorem first_spec (E : List Int) : ∀ (d : Nat) (a : Int), 0 ≤ a → (E.length : Int) < a + d →
    ((firstV E d a).2 = true → a ≤ (firstV E d a).1 ∧ (firstV E d a).1 < E.length ∧ 0 ≤ rd E (firstV E d a).1 ∧ ∀ j, a ≤ j → j < (firstV E d a).1 → rd E j < 0) ∧
    ((firstV E d a).2 = false → (firstV E d a).1 = 0 ∧ ∀ j, a ≤ j → j < E.length → rd E j < 0) := by
  intro d
  induction d with
  | zero =>
    intro a h0 h1
    exact ⟨fun h => (nomatch h), fun _ => ⟨rfl, fun j h2 h3 => by omega⟩⟩
  | succ d ih =>
    intro a h0 h1
    unfold firstV
    by_cases h3 : a < (E.length : Int)
    · rw [if_pos h3]
      by_cases h4 : rd E a ≥ 0
      · rw [if_pos h4]
        exact ⟨fun _ => ⟨Int.le_refl _, h3, h4, fun j h5 h6 => by simp only at h6; omega⟩, fun h => (nomatch h)⟩
      · rw [if_neg h4]
        have ih := ih (a + 1) (by omega) (by omega)
        refine ⟨fun h => ?_, fun h => ?_⟩
        · obtain ⟨h5, h6, h7, h8⟩ := ih.1 h
          exact ⟨by omega, h6, h7, fun j h9 h10 => by
            by_cases e : j = a
            · subst e; omega
            · exact h8 j (by omega) h10⟩
        · obtain ⟨h5, h6⟩ := ih.2 h
          exact ⟨h5, fun j h9 h10 => by
            by_cases e : j = a
            · subst e; omega
            · exact h6 j (by omega) h10⟩
    · rw [if_neg h3]
      exact ⟨fun h => (nomatch h), fun _ => ⟨rfl, fun j h5 h6 => by omega⟩⟩
/-- The ends lie behind the places, within the line. -/
def Fine (n : Nat) (E : List Int) : Prop := E.length = n + 1 ∧ ∀ j : Nat, j ≤ n → rd E (j : Int) = -1 ∨ ((j : Int) ≤ rd E (j : Int) ∧ rd E (j : Int) ≤ n)
theorem mx_fine {line : List Int} {S : Nat → Bool} {E : List Int} {n : Nat} (h : Fine n E) : ∀ (d i : Nat), i + d ≤ n → mx line S E d i = -1 ∨ ((i : Int) ≤ mx line S E d i ∧ mx line S E d i ≤ n) := by
  intro d
  induction d with
  | zero => intro i hi; exact h.2 i (by omega)
  | succ d ih =>
    intro i hi
    unfold mx
    have h1 := h.2 i (by omega)
    have h2 := ih (i + 1) (by omega)
    split
    · generalize mx line S E d (i + 1) = M at h2
      generalize rd E (i : Int) = R at h1
      omega
    · exact h1
theorem step_fine {line : List Int} {E : List Int} (x : PTh) (h : Fine line.length E) : Fine line.length (stepV line x E) := by
  have hm : ∀ f : Int → Bool, Fine line.length (mask E f line.length) := fun f => ⟨mask_len, fun j hj => by
    rw [mask_rd (by omega)]
    split
    · exact h.2 j hj
    · exact .inl rfl⟩
  cases x with
  | single S =>
    refine ⟨by simp [stepV], fun j hj => ?_⟩
    have e : rd (stepV line (.single S) E) (j : Int) = _ := rd_gen _ (fun i : Nat => if i < line.length ∧ S (rd line (i : Int)).toNat = true then rd E ((i : Int) + 1) else -1) (show j < line.length + 1 by omega)
    rw [e]
    split
    · rename_i h2
      have h3 := h.2 (j + 1) (by omega)
      rw [show ((j + 1 : Nat) : Int) = (j : Int) + 1 from by omega] at h3
      omega
    · exact .inl rfl
  | many S =>
    refine ⟨by simp [stepV], fun j hj => ?_⟩
    have e : rd (stepV line (.many S) E) (j : Int) = _ := rd_gen _ (fun i : Nat => mx line S E (line.length - i) i) (show j < line.length + 1 by omega)
    rw [e]
    exact mx_fine h _ _ (by omega)
  | front => exact hm _
  | back => exact hm _
  | opens => exact hm _
  | closes => exact hm _
theorem endsV_fine (line : List Int) : ∀ l : List PTh, Fine line.length (endsV line l) := by
  intro l
  induction l with
  | nil =>
    refine ⟨by simp [endsV, endsI], fun j hj => ?_⟩
    have e : rd (endsV line []) (j : Int) = (j : Int) := rd_gen _ (fun i : Nat => (i : Int)) (show j < line.length + 1 by omega)
    rw [e]
    omega
  | cons x l ih => exact step_fine x ih
/-- What Find tells: a match, the first from there on, or none. -/
theorem find_spec (line : List Int) (pl : List PTh) (f : Int) :
    ((findV line pl f).2.2 = true → 0 ≤ f ∧ f ≤ (findV line pl f).1 ∧ (findV line pl f).1 ≤ (findV line pl f).2.1 ∧ (findV line pl f).2.1 ≤ line.length ∧ (findV line pl f).2.1 = rd (endsV line pl) (findV line pl f).1 ∧ ∀ j, f ≤ j → j < (findV line pl f).1 → rd (endsV line pl) j < 0) ∧
    ((findV line pl f).2.2 = false → findV line pl f = (0, 0, false) ∧ (0 ≤ f → ∀ j, f ≤ j → j ≤ line.length → rd (endsV line pl) j < 0)) := by
  have hf := endsV_fine line pl
  unfold findV
  generalize endsV line pl = E at hf ⊢
  by_cases h : f < 0 ∨ f > (line.length : Int)
  · rw [if_pos h]
    exact ⟨fun h => (nomatch h), fun _ => ⟨rfl, fun h1 j h2 h3 => by omega⟩⟩
  · rw [if_neg h]
    have hs := first_spec E (line.length + 1 + 2) f (by omega) (by rw [hf.1]; omega)
    generalize firstV E (line.length + 1 + 2) f = r at hs ⊢
    obtain ⟨r1, r2⟩ := r
    cases r2
    · rw [if_neg (fun h => (nomatch h))]
      refine ⟨fun h => (nomatch h), fun _ => ⟨rfl, fun _ j h2 h3 => (hs.2 rfl).2 j h2 (by rw [hf.1]; omega)⟩⟩
    · rw [if_pos rfl]
      refine ⟨fun _ => ?_, fun h => (nomatch h)⟩
      obtain ⟨h1, h2, h3, h4⟩ := hs.1 rfl
      simp only at h1 h2 h3 h4 ⊢
      rw [hf.1] at h2
      have h5 := hf.2 r1.toNat (by omega)
      rw [Int.toNat_of_nonneg (by omega)] at h5
      exact ⟨by omega, h1, by omega, by omega, trivial, h4⟩
end Go.Proofs.YtdhdngoeaneanaaDoor.PT
end
