/-
  Patterns, by hand: Quote.
-/
import Derived.Test.YtlbijhlbllolhaaDoorPT1
import Derived.Test.YtlbijhlbllolhaaDoorSH
import Derived.Test.YtlbijhlbllolhaaDoorX14
namespace Go.Proofs.YtlbijhlbllolhaaDoor.PT
open Go.RowKit Go.Proofs.YtlbijhlbllolhaaDoorW.PrintWords Go.Proofs.YtlbijhlbllolhaaDoorW.PrintMore
set_option linter.unusedVariables false
def special (b : Int) : Bool := b == 92 || b == 46 || b == 42 || b == 91 || b == 93 || b == 94 || b == 36
/-- What Quote comes to. -/
def quoteV (l : List Int) : List Int := l.flatMap fun b => if special b = true then [92, b] else [b]
theorem quoteV_append (a b : List Int) : quoteV (a ++ b) = quoteV a ++ quoteV b := by simp [quoteV]
theorem quoteV_one (b : Int) : quoteV [b] = if special b = true then [92, b] else [b] := by simp [quoteV]
theorem quoteV_take {s : List Int} {k : Nat} (h : k < s.length) : quoteV (s.take (k + 1)) = quoteV (s.take k) ++ (if special (rd s k) = true then [92, rd s k] else [rd s k]) := by
  rw [← quoteV_one, ← quoteV_append]
  congr 1
  rw [List.take_add_one, List.getElem?_eq_getElem h]
  simp [rd, List.getElem?_eq_getElem h]
theorem quoteV_len (l : List Int) : l.length ≤ (quoteV l).length ∧ (quoteV l).length ≤ 2 * l.length := by
  induction l with
  | nil => simp [quoteV]
  | cons b l ih =>
    have h : quoteV (b :: l) = (if special b = true then [92, b] else [b]) ++ quoteV l := by simp [quoteV]
    rw [h, List.length_append, List.length_cons]
    split <;> simp only [List.length_cons, List.length_nil] <;> omega
theorem special_index (b : Int) (h : 0 ≤ b ∧ b ≤ 255) : ∃ r, X.strings_IndexByte.f ⟨#[92, 46, 42, 91, 93, 94, 36]⟩ b = some r ∧ decide (0 ≤ r) = special b := by
  have h3 : ∀ k : Fin 256, decide (0 ≤ Lib.indexByte [92, 46, 42, 91, 93, 94, 36] ((k.val : Int).toNat.toUInt8)) = special (k.val : Int) := by decide +kernel
  obtain ⟨n, rfl⟩ : ∃ n : Nat, b = (n : Int) := ⟨b.toNat, by omega⟩
  exact ⟨_, rfl, h3 ⟨n, by omega⟩⟩
theorem write_at (B b : Nat) (bs : List Value) (c : Int) (w : World) (h : Lib.IsBuffer 37 5 B b bs w) (hBw : B ≤ w.heap.size) (h1 : ∀ v ∈ bs, v.oneCell' = true) (hlim : bs.length + 1 ≤ 140737488355328) :
    Calls Tryd.prog 10 #[.pointer (some ⟨b, 0, none⟩), .int .u8 c] w fun e w' => e = .returned .nilIface ∧ Lib.IsBuffer 37 5 B b (bs ++ [.int .u8 c]) w' ∧ Below B w w' ∧ Lib.OthersKept 5 (some b) w w' := Any.Buffer_WriteByte_kept Tryd.lays179 B b bs c w h hBw h1 hlim
theorem bytes_at (B b : Nat) (bs : List Value) (w : World) (h : Lib.IsBuffer 37 5 B b bs w) :
    Calls Tryd.prog 11 #[.pointer (some ⟨b, 0, none⟩)] w fun e w' => ∃ v, e = .returned v ∧ w'.ownsRow B 5 1 v bs.length bs ∧ ∃ n, w' = w.drewN n := Any.Buffer_Bytes Tryd.lays183 B b bs w h
theorem u8_one (l : List Int) : ∀ v ∈ encs (Value.int .u8) l, v.oneCell' = true := by
  intro v hv
  obtain ⟨x, _, rfl⟩ := List.mem_map.1 hv
  rfl
/-- A buffer's bytes, and what stands. -/
def QB (w : World) (l : List Int) (wl : World) : Prop := Lib.IsBuffer 37 5 w.heap.size w.heap.size (encs (Value.int .u8) l) wl ∧ Below w.heap.size w wl
theorem QB.write {w wl : World} {l : List Int} (h : QB w l wl) (c : Int) (hl : l.length < 140737488355328) :
    Calls Tryd.prog 10 #[.pointer (some ⟨w.heap.size, 0, none⟩), .int .u8 c] wl fun e w' => e = .returned .nilIface ∧ QB w (l ++ [c]) w' := by
  refine (write_at w.heap.size w.heap.size _ c wl h.1 h.2.size (u8_one l) (by rw [encs_length]; omega)).mono ?_
  rintro e w' ⟨rfl, h1, h2, _⟩
  exact ⟨rfl, by rw [encs_append]; exact h1, h.2.trans h2⟩
theorem QB.drewN {w wl : World} {l : List Int} (h : QB w l wl) (n : Nat) : QB w l (wl.drewN n) := ⟨h.1.drewN n, pw_below_drewN h.2 n⟩
theorem quote_calls {w : World} {A : Option Addr} {c : Nat} {s : List Int} (hr : Kd.C (Kd.int .u8) w A s.length s) (hu : ∀ i, 0 ≤ rd s i ∧ rd s i ≤ 255) (hc : s.length ≤ c) (hn : s.length ≤ 70368744177664) :
    Calls Tryd.prog 5 #[.slice A s.length c] w fun e w' => ∃ v, e = .returned v ∧ (Kd.int .u8).R 5 w' w.heap.size (fun _ => True) v (quoteV s) ∧ Below w.heap.size w w' := by
  have H := Aside0.mk (And.intro hr hu)
  have HQ := Aside0.mk (show QB w (quoteV (s.take 0)) (w.alloc (.cells #[.slice none 0 0, .int .i64 0, .int .i8 0] 37)) from ⟨Lib.fresh_isBuffer _ 5 w, below_alloc (Below.refl _ _) _⟩)
  clear hr hu
  go_enter Tryd.func5, Tryd.ntmps5
  go_wp2
  go_loopw [8] (fun v wl => ∃ k : Nat, k ≤ s.length ∧ v = .int .i64 k ∧ Aside0 (QB w (quoteV (s.take k)) wl)) (fun v _ => s.length - (intOf v).toNat)
  case atStart => exact ⟨0, by omega, rfl, HQ⟩
  case round =>
    obtain ⟨k, hk, rfl, HA⟩ := hrel
    clear HQ
    by_cases hlt : k < s.length
    · obtain ⟨ad, rfl, hx⟩ := Kd.at_int (Kd.C_below H.out.1 HA.out.2) (k : Int) (by omega) (by omega)
      rw [Int.toNat_natCast] at hx
      have hub := H.out.2 (k : Int)
      have hl := (quoteV_len (s.take k)).2
      rw [List.length_take] at hl
      have HT := Aside0.mk (quoteV_take hlt)
      generalize rd s (k : Int) = b at hx hub HT
      obtain ⟨r, hi, hd⟩ := special_index b hub
      have HI := Aside0.mk hi
      have q1 : decide ((k : Int) < (s.length : Int)) = true := decide_eq_true (by omega)
      have q2 : (0 ≤ (k : Int)) = True := eq_true (by omega)
      have q3 : ((k : Int) < (s.length : Int)) = True := eq_true (by omega)
      cases hs : special b with
      | true =>
        rw [hs] at hd
        have HT2 := Aside0.mk (show quoteV (s.take (k + 1)) = quoteV (s.take k) ++ [92] ++ [b] by rw [HT.out, if_pos hs]; simp)
        generalize quoteV (s.take k) = acc at HA HT2 hl
        clear hi HT hub hs
        go_wp2_with (first
          | (go_at_call 9; (with_reducible refine (X.strings_IndexByte.calls _ b r _ HI.out).mono ?_); rintro e w' ⟨rfl, ⟨nd, rfl⟩⟩; have HA1 := Aside0.mk (HA.out.drewN nd))
          | (go_at_call 10; first
            | ((with_reducible refine (HA1.out.write 92 (by omega)).mono ?_); rintro e w2 ⟨rfl, hx2⟩; have HA2 := Aside0.mk hx2; clear hx2)
            | ((with_reducible refine (HA2.out.write b (by rw [List.length_append, List.length_singleton]; omega)).mono ?_); rintro e w3 ⟨rfl, hx3⟩; have HA3 := Aside0.mk hx3; clear hx3)))
        go_roundw
        case rel => exact ⟨k + 1, by omega, by congr 1, ⟨by rw [HT2.out]; exact HA3.out⟩⟩
        case measure => simp [intOf]; omega
      | false =>
        rw [hs] at hd
        have HT2 := Aside0.mk (show quoteV (s.take (k + 1)) = quoteV (s.take k) ++ [b] by rw [HT.out, if_neg (by rw [hs]; decide)])
        generalize quoteV (s.take k) = acc at HA HT2 hl
        clear hi HT hub hs
        go_wp2_with (first
          | (go_at_call 9; (with_reducible refine (X.strings_IndexByte.calls _ b r _ HI.out).mono ?_); rintro e w' ⟨rfl, ⟨nd, rfl⟩⟩; have HA1 := Aside0.mk (HA.out.drewN nd))
          | (go_at_call 10; ((with_reducible refine (HA1.out.write b (by omega)).mono ?_); rintro e w2 ⟨rfl, hx2⟩; have HA2 := Aside0.mk hx2; clear hx2)))
        go_roundw
        case rel => exact ⟨k + 1, by omega, by congr 1, ⟨by rw [HT2.out]; exact HA2.out⟩⟩
        case measure => simp [intOf]; omega
    · have hke : k = s.length := by omega
      subst hke
      rw [List.take_length] at HA
      go_wp2_with (go_at_call 11; (refine (bytes_at _ _ _ _ HA.out.1).mono ?_); rintro e w2 ⟨v, rfl, hx2, nd, rfl⟩; have HB := Aside0.mk hx2; clear hx2)
      exact bodyPost_ret (v := v) (by simp [results, Tryd.results5, go_sem]) rfl ⟨v, rfl, Kd.R_of_own (by have h := HB.out; rw [encs_length] at h; exact h) (fun _ _ => trivial), pw_below_drewN HA.out.2 nd⟩
end Go.Proofs.YtlbijhlbllolhaaDoor.PT
