/-
  Texts of one proof in one file (wip/some.py): SH, QT0, HT0, HT1, HT2, HT3, HT4, HT5.
  Conditions: none.
-/
import Derived.Shelf.Bytes.WriteByteKept
import Derived.Shelf.Bytes.Bytes
import Derived.Test.YtffpkldphkmjmaaDoorProg
import Derived.Test.YtffpkldphkmjmaaDoorPT1
import Derived.Test.YtffpkldphkmjmaaDoorX11
import Derived.Test.YtffpkldphkmjmaaDoorPT11
import Derived.Test.YtffpkldphkmjmaaDoorX4
import Derived.Laws.CopyOwn
import Derived.Lib.SlBytesConst
import Derived.Test.YtffpkldphkmjmaaDoorX40
import Derived.Test.YtffpkldphkmjmaaDoorWEqStruct
section
namespace Go.Proofs
open Go.Shelf
def Tryd.lays179_ren : Go.Shelf.Ren := ⟨fun | 179 => 46 | 251 => 68 | 252 => 69 | 181 => 78 | 184 => 79 | 290 => 80 | 324 => 89 | n => n, fun | 130 => 109 | 5 => 5 | 75 => 83 | 0 => 0 | 93 => 80 | 91 => 78 | 3 => 3 | 131 => 70 | 4 => 4 | 37 => 22 | 20 => 20 | 80 => 132 | 9 => 9 | n => n, fun | 14 => 0 | n => n⟩
theorem Tryd.lays179 : Go.Proofs.LaysM.n179 Tryd.prog Tryd.lays179_ren := {
  mixed := by kernel_rfl
  f179 := Tryd.func46.trans (congrArg some (by kernel_rfl))
  f181 := Tryd.func78.trans (congrArg some (by kernel_rfl))
  f184 := Tryd.func79.trans (congrArg some (by kernel_rfl))
  f251 := Tryd.func68.trans (congrArg some (by kernel_rfl))
  f252 := Tryd.func69.trans (congrArg some (by kernel_rfl))
  f290 := Tryd.func80.trans (congrArg some (by kernel_rfl))
  f324 := Tryd.func89.trans (congrArg some (by kernel_rfl))
  t0 := Tryd.underlying0
  a0 := Tryd.isAgg0
  z0 := Tryd.sizeOf0
  v0 := Tryd.zeroValue0
  t3 := Tryd.underlying3
  a3 := Tryd.isAgg3
  z3 := Tryd.sizeOf3
  v3 := Tryd.zeroValue3
  t4 := Tryd.underlying4
  a4 := Tryd.isAgg4
  z4 := Tryd.sizeOf4
  v4 := Tryd.zeroValue4
  t5 := Tryd.underlying5
  a5 := Tryd.isAgg5
  z5 := Tryd.sizeOf5
  v5 := Tryd.zeroValue5
  t20 := Tryd.underlying20
  a20 := Tryd.isAgg20
  z20 := Tryd.sizeOf20
  v20 := Tryd.zeroValue20
  t37 := Tryd.underlying22
  a37 := Tryd.isAgg22
  z37 := Tryd.sizeOf22
  v37 := Tryd.zeroValue22
  t75 := Tryd.underlying83
  a75 := Tryd.isAgg83
  z75 := Tryd.sizeOf83
  v75 := Tryd.zeroValue83
  t91 := Tryd.underlying78
  a91 := Tryd.isAgg78
  z91 := Tryd.sizeOf78
  v91 := Tryd.zeroValue78
  t93 := Tryd.underlying80
  a93 := Tryd.isAgg80
  z93 := Tryd.sizeOf80
  v93 := Tryd.zeroValue80
  t130 := Tryd.underlying109
  a130 := Tryd.isAgg109
  z130 := Tryd.sizeOf109
  v130 := Tryd.zeroValue109
  t131 := Tryd.underlying70
  a131 := Tryd.isAgg70
  z131 := Tryd.sizeOf70
  v131 := Tryd.zeroValue70
  g14 := by kernel_rfl
  t9 := Tryd.underlying9
  a9 := Tryd.isAgg9
  z9 := Tryd.sizeOf9
  v9 := Tryd.zeroValue9
  t80 := Tryd.underlying132
  a80 := Tryd.isAgg132
  z80 := Tryd.sizeOf132
  v80 := Tryd.zeroValue132
  i0 := by kernel_rfl
  i3 := by kernel_rfl
  i4 := by kernel_rfl
  i5 := by kernel_rfl
  i9 := by kernel_rfl
  i20 := by kernel_rfl
  i37 := by kernel_rfl
  i75 := by kernel_rfl
  i80 := by kernel_rfl
  i91 := by kernel_rfl
  i93 := by kernel_rfl
  i130 := by kernel_rfl
  i131 := by kernel_rfl
  m14 := by kernel_rfl }
def Tryd.lays183_ren : Go.Shelf.Ren := ⟨fun | 183 => 47 | n => n, fun | 130 => 109 | 37 => 22 | 0 => 0 | 93 => 80 | 3 => 3 | 5 => 5 | 91 => 78 | n => n, fun | n => n⟩
theorem Tryd.lays183 : Go.Proofs.LaysM.n183 Tryd.prog Tryd.lays183_ren := {
  mixed := by kernel_rfl
  f183 := Tryd.func47.trans (congrArg some (by kernel_rfl))
  t0 := Tryd.underlying0
  a0 := Tryd.isAgg0
  z0 := Tryd.sizeOf0
  v0 := Tryd.zeroValue0
  t3 := Tryd.underlying3
  a3 := Tryd.isAgg3
  z3 := Tryd.sizeOf3
  v3 := Tryd.zeroValue3
  t37 := Tryd.underlying22
  a37 := Tryd.isAgg22
  z37 := Tryd.sizeOf22
  v37 := Tryd.zeroValue22
  t93 := Tryd.underlying80
  a93 := Tryd.isAgg80
  z93 := Tryd.sizeOf80
  v93 := Tryd.zeroValue80
  t130 := Tryd.underlying109
  a130 := Tryd.isAgg109
  z130 := Tryd.sizeOf109
  v130 := Tryd.zeroValue109
  t5 := Tryd.underlying5
  a5 := Tryd.isAgg5
  z5 := Tryd.sizeOf5
  v5 := Tryd.zeroValue5
  t91 := Tryd.underlying78
  a91 := Tryd.isAgg78
  z91 := Tryd.sizeOf78
  v91 := Tryd.zeroValue78
  i0 := by kernel_rfl
  i3 := by kernel_rfl
  i5 := by kernel_rfl
  i37 := by kernel_rfl
  i91 := by kernel_rfl
  i93 := by kernel_rfl
  i130 := by kernel_rfl }
end Go.Proofs
end
section
namespace Go.Proofs.YtffpkldphkmjmaaDoor.PT
open Go.RowKit Go.Proofs.YtffpkldphkmjmaaDoorW.PrintWords Go.Proofs.YtffpkldphkmjmaaDoorW.PrintMore
set_option linter.unusedVariables false
def special (b : Int) : Bool := b == 92 || b == 46 || b == 42 || b == 91 || b == 93 || b == 94 || b == 36
/-- What Quote comes to. -/
def quoteV (l : List Int) : List Int := l.flatMap fun b => if special b = true then [92, b] else [b]
theorem quoteV_append (a b : List Int) : quoteV (a ++ b) = quoteV a ++ quoteV b := by simp [quoteV]
theorem quoteV_one (b : Int) : quoteV [b] = if special b = true then [92, b] else [b] := by simp [quoteV]
theorem quoteV_take {s : List Int} {k : Nat} (h : k < s.length) : quoteV (s.take (k + 1)) = quoteV (s.take k) ++ (if special (rd s k) = true then [92, rd s k] else [rd s k]) := by
  rw [← quoteV_one, ← quoteV_append]
  congr 1
  rw [List.take_add_one, List.getElem?_eq_getElem h]
  simp [rd, List.getElem?_eq_getElem h]
theorem quoteV_len (l : List Int) : l.length ≤ (quoteV l).length ∧ (quoteV l).length ≤ 2 * l.length := by
  induction l with
  | nil => simp [quoteV]
  | cons b l ih =>
    have h : quoteV (b :: l) = (if special b = true then [92, b] else [b]) ++ quoteV l := by simp [quoteV]
    rw [h, List.length_append, List.length_cons]
    split <;> simp only [List.length_cons, List.length_nil] <;> omega
theorem special_index (b : Int) (h : 0 ≤ b ∧ b ≤ 255) : ∃ r, X.strings_IndexByte.f ⟨#[92, 46, 42, 91, 93, 94, 36]⟩ b = some r ∧ decide (0 ≤ r) = special b := by
  have h3 : ∀ k : Fin 256, decide (0 ≤ Lib.indexByte [92, 46, 42, 91, 93, 94, 36] ((k.val : Int).toNat.toUInt8)) = special (k.val : Int) := by decide +kernel
  obtain ⟨n, rfl⟩ : ∃ n : Nat, b = (n : Int) := ⟨b.toNat, by omega⟩
  exact ⟨_, rfl, h3 ⟨n, by omega⟩⟩
theorem write_at (B b : Nat) (bs : List Value) (c : Int) (w : World) (h : Lib.IsBuffer 80 5 B b bs w) (hBw : B ≤ w.heap.size) (h1 : ∀ v ∈ bs, v.oneCell' = true) (hlim : bs.length + 1 ≤ 140737488355328) :
    Calls Tryd.prog 46 #[.pointer (some ⟨b, 0, none⟩), .int .u8 c] w fun e w' => e = .returned .nilIface ∧ Lib.IsBuffer 80 5 B b (bs ++ [.int .u8 c]) w' ∧ Below B w w' ∧ Lib.OthersKept 5 (some b) w w' := Any.Buffer_WriteByte_kept Tryd.lays179 B b bs c w h hBw h1 hlim
theorem bytes_at (B b : Nat) (bs : List Value) (w : World) (h : Lib.IsBuffer 80 5 B b bs w) :
    Calls Tryd.prog 47 #[.pointer (some ⟨b, 0, none⟩)] w fun e w' => ∃ v, e = .returned v ∧ w'.ownsRow B 5 1 v bs.length bs ∧ ∃ n, w' = w.drewN n := Any.Buffer_Bytes Tryd.lays183 B b bs w h
theorem u8_one (l : List Int) : ∀ v ∈ encs (Value.int .u8) l, v.oneCell' = true := by
  intro v hv
  obtain ⟨x, _, rfl⟩ := List.mem_map.1 hv
  rfl
/-- A buffer's bytes, and what stands. -/
def QB (w : World) (l : List Int) (wl : World) : Prop := Lib.IsBuffer 80 5 w.heap.size w.heap.size (encs (Value.int .u8) l) wl ∧ Below w.heap.size w wl
theorem QB.write {w wl : World} {l : List Int} (h : QB w l wl) (c : Int) (hl : l.length < 140737488355328) :
    Calls Tryd.prog 46 #[.pointer (some ⟨w.heap.size, 0, none⟩), .int .u8 c] wl fun e w' => e = .returned .nilIface ∧ QB w (l ++ [c]) w' := by
  refine (write_at w.heap.size w.heap.size _ c wl h.1 h.2.size (u8_one l) (by rw [encs_length]; omega)).mono ?_
  rintro e w' ⟨rfl, h1, h2, _⟩
  exact ⟨rfl, by rw [encs_append]; exact h1, h.2.trans h2⟩
theorem QB.drewN {w wl : World} {l : List Int} (h : QB w l wl) (n : Nat) : QB w l (wl.drewN n) := ⟨h.1.drewN n, pw_below_drewN h.2 n⟩
theorem quote_calls {w : World} {A : Option Addr} {c : Nat} {s : List Int} (hr : Kd.C (Kd.int .u8) w A s.length s) (hu : ∀ i, 0 ≤ rd s i ∧ rd s i ≤ 255) (hc : s.length ≤ c) (hn : s.length ≤ 70368744177664) :
    Calls Tryd.prog 29 #[.slice A s.length c] w fun e w' => ∃ v, e = .returned v ∧ (Kd.int .u8).R 5 w' w.heap.size (fun _ => True) v (quoteV s) ∧ Below w.heap.size w w' := by
  have H := Aside0.mk (And.intro hr hu)
  have HQ := Aside0.mk (show QB w (quoteV (s.take 0)) (w.alloc (.cells #[.slice none 0 0, .int .i64 0, .int .i8 0] 80)) from ⟨Lib.fresh_isBuffer _ 5 w, below_alloc (Below.refl _ _) _⟩)
  clear hr hu
  go_enter Tryd.func29, Tryd.ntmps29
  go_wp2
  go_loopw [8] (fun v wl => ∃ k : Nat, k ≤ s.length ∧ v = .int .i64 k ∧ Aside0 (QB w (quoteV (s.take k)) wl)) (fun v _ => s.length - (intOf v).toNat)
  case atStart => exact ⟨0, by omega, rfl, HQ⟩
  case round =>
    obtain ⟨k, hk, rfl, HA⟩ := hrel
    clear HQ
    by_cases hlt : k < s.length
    · obtain ⟨ad, rfl, hx⟩ := Kd.at_int (Kd.C_below H.out.1 HA.out.2) (k : Int) (by omega) (by omega)
      rw [Int.toNat_natCast] at hx
      have hub := H.out.2 (k : Int)
      have hl := (quoteV_len (s.take k)).2
      rw [List.length_take] at hl
      have HT := Aside0.mk (quoteV_take hlt)
      generalize rd s (k : Int) = b at hx hub HT
      obtain ⟨r, hi, hd⟩ := special_index b hub
      have HI := Aside0.mk hi
      have q1 : decide ((k : Int) < (s.length : Int)) = true := decide_eq_true (by omega)
      have q2 : (0 ≤ (k : Int)) = True := eq_true (by omega)
      have q3 : ((k : Int) < (s.length : Int)) = True := eq_true (by omega)
      cases hs : special b with
      | true =>
        rw [hs] at hd
        have HT2 := Aside0.mk (show quoteV (s.take (k + 1)) = quoteV (s.take k) ++ [92] ++ [b] by rw [HT.out, if_pos hs]; simp)
        generalize quoteV (s.take k) = acc at HA HT2 hl
        clear hi HT hub hs
        go_wp2_with (first
          | (go_at_call 45; (with_reducible refine (X.strings_IndexByte.calls _ b r _ HI.out).mono ?_); rintro e w' ⟨rfl, ⟨nd, rfl⟩⟩; have HA1 := Aside0.mk (HA.out.drewN nd))
          | (go_at_call 46; first
            | ((with_reducible refine (HA1.out.write 92 (by omega)).mono ?_); rintro e w2 ⟨rfl, hx2⟩; have HA2 := Aside0.mk hx2; clear hx2)
            | ((with_reducible refine (HA2.out.write b (by rw [List.length_append, List.length_singleton]; omega)).mono ?_); rintro e w3 ⟨rfl, hx3⟩; have HA3 := Aside0.mk hx3; clear hx3)))
        go_roundw
        case rel => exact ⟨k + 1, by omega, by congr 1, ⟨by rw [HT2.out]; exact HA3.out⟩⟩
        case measure => simp [intOf]; omega
      | false =>
        rw [hs] at hd
        have HT2 := Aside0.mk (show quoteV (s.take (k + 1)) = quoteV (s.take k) ++ [b] by rw [HT.out, if_neg (by rw [hs]; decide)])
        generalize quoteV (s.take k) = acc at HA HT2 hl
        clear hi HT hub hs
        go_wp2_with (first
          | (go_at_call 45; (with_reducible refine (X.strings_IndexByte.calls _ b r _ HI.out).mono ?_); rintro e w' ⟨rfl, ⟨nd, rfl⟩⟩; have HA1 := Aside0.mk (HA.out.drewN nd))
          | (go_at_call 46; ((with_reducible refine (HA1.out.write b (by omega)).mono ?_); rintro e w2 ⟨rfl, hx2⟩; have HA2 := Aside0.mk hx2; clear hx2)))
        go_roundw
        case rel => exact ⟨k + 1, by omega, by congr 1, ⟨by rw [HT2.out]; exact HA2.out⟩⟩
        case measure => simp [intOf]; omega
    · have hke : k = s.length := by omega
      subst hke
      rw [List.take_length] at HA
      go_wp2_with (go_at_call 47; (refine (bytes_at _ _ _ _ HA.out.1).mono ?_); rintro e w2 ⟨v, rfl, hx2, nd, rfl⟩; have HB := Aside0.mk hx2; clear hx2)
      exact bodyPost_ret (v := v) (by simp [results, Tryd.results29, go_sem]) rfl ⟨v, rfl, Kd.R_of_own (by have h := HB.out; rw [encs_length] at h; exact h) (fun _ _ => trivial), pw_below_drewN HA.out.2 nd⟩
end Go.Proofs.YtffpkldphkmjmaaDoor.PT
end
section
namespace Go.Proofs.YtffpkldphkmjmaaDoor.PT
open Go.RowKit Go.Proofs.YtffpkldphkmjmaaDoorW.PrintWords Go.Proofs.YtffpkldphkmjmaaDoorW.PrintMore
set_option linter.unusedVariables false
/-- Where a match comes to rest. -/
def restH (n start : Nat) (a : Nat) : Int := if a = n ∧ 0 < a then (start : Int) + a - 1 else (start : Int) + a
def push (acc : List Int) (x : Int) : List Int := if acc = [] ∨ rd acc (acc.length - 1 : Int) ≠ x then acc ++ [x] else acc
/-- One line's hits, from a place on. -/
def lineH (line : List Int) (pl : List PTh) (start : Nat) : Nat → Nat → List Int → List Int
  | 0, _, acc => acc
  | d + 1, f, acc => if (findV line pl f).2.2 = true then lineH line pl start d ((findV line pl f).1.toNat + 1) (push acc (restH line.length start (findV line pl f).1.toNat)) else acc
def linesH (pl : List PTh) : List (List Int) → Nat → List Int → List Int
  | [], _, acc => acc
  | l :: ls, start, acc => linesH pl ls (start + l.length + 1) (lineH l pl start (l.length + 2) 0 acc)
/-- What hits comes to. -/
def hitsV (t : List Int) (pl : List PTh) : List Int := linesH pl (X.splitR t) 0 []
def tot (ls : List (List Int)) : Nat := (ls.map fun l => l.length + 1).sum
theorem tot_cons (l : List Int) (ls : List (List Int)) : tot (l :: ls) = l.length + 1 + tot ls := rfl
theorem tot_len (ls : List (List Int)) : ls.length ≤ tot ls := by
  induction ls with
  | nil => exact Nat.le_refl _
  | cons l ls ih => rw [tot_cons, List.length_cons]; omega
theorem tot_split (t : List Int) : tot (X.splitR t) = t.length + 1 := by
  induction t with
  | nil => rfl
  | cons x t ih =>
    unfold X.splitR
    by_cases h : x = 10
    · rw [if_pos h, tot_cons, ih]; simp; omega
    · rw [if_neg h]
      cases e : X.splitR t with
      | nil => exact absurd e (X.splitR_ne t)
      | cons p r =>
        rw [e, tot_cons] at ih
        simp only [tot_cons, List.length_cons]
        omega
theorem split_bytes {P : Int → Prop} (t : List Int) (h : ∀ x ∈ t, P x) : ∀ l ∈ X.splitR t, ∀ x ∈ l, P x := by
  induction t with
  | nil => intro l hl x hx; simp [X.splitR] at hl; subst hl; cases hx
  | cons y t ih =>
    intro l hl x hx
    unfold X.splitR at hl
    have ih' := ih (fun z hz => h z (by simp [hz]))
    by_cases hy : y = 10
    · rw [if_pos hy] at hl
      rcases List.mem_cons.1 hl with e | e
      · subst e; cases hx
      · exact ih' l e x hx
    · rw [if_neg hy] at hl
      cases e : X.splitR t with
      | nil => exact absurd e (X.splitR_ne t)
      | cons p r =>
        rw [e] at hl ih'
        rcases List.mem_cons.1 hl with e2 | e2
        · subst e2
          rcases List.mem_cons.1 hx with e3 | e3
          · subst e3; exact h _ (by simp)
          · exact ih' p (by simp) x e3
        · exact ih' l (by simp [e2]) x hx
theorem rd_mem {P : Int → Prop} (l : List Int) (h : ∀ x ∈ l, P x) (h0 : P 0) (i : Int) : P (rd l i) := by
  unfold rd
  rw [List.getD_eq_getElem?_getD]
  cases e : l[i.toNat]? with
  | none => exact h0
  | some x => exact h x (List.mem_of_getElem? e)
theorem mem_rd {P : Int → Prop} (l : List Int) (h : ∀ i, P (rd l i)) : ∀ x ∈ l, P x := by
  intro x hx
  obtain ⟨i, hi, rfl⟩ := List.mem_iff_getElem.1 hx
  have := h (i : Int)
  unfold rd at this
  rw [Int.toNat_natCast, List.getD_eq_getElem?_getD, List.getElem?_eq_getElem hi] at this
  exact this
theorem push_len (acc : List Int) (x : Int) : (push acc x).length ≤ acc.length + 1 := by
  unfold push; split <;> simp
/-- A line of the split, in memory. -/
theorem line_of {w : World} {A : Option Addr} {n : Nat} {ls : List (List Int)} (h : (Kd.slice 5 (Kd.int .u8)).C w A n ls) {i : Nat} (hi : i < n) : ∃ ad A' c', A = some ad ∧ w.cell? (ad.add i) = some (.slice A' (ls.getD i []).length c') ∧ (ls.getD i []).length ≤ c' ∧ Kd.C (Kd.int .u8) w A' (ls.getD i []).length (ls.getD i []) := by
  obtain ⟨ad, c, rfl, hc, hk, hcc⟩ := Kd.C_get h [] (i : Int) (by omega) (by omega)
  rw [Int.toNat_natCast] at hk hcc
  obtain ⟨A', c', rfl, e0, e1⟩ := hk
  refine ⟨ad, A', c', rfl, ?_, e0, e1⟩
  have h2 := hcc 0 _ rfl
  simpa [Kd.slice] using h2
theorem infoI : (Tryd.prog.info? 3).map (fun i => (i.zero, i.size, i.bytes)) = some (some (.int .i64 0), 1, 8) := by kernel_rfl
set_option maxHeartbeats 4000000 in
set_option maxRecDepth 100000 in
theorem hits_calls {w : World} {A : Option Addr} {c : Nat} {t : List Int} {v : Value} {base : Nat} {pl : List PTh} (hr : Kd.C (Kd.int .u8) w A t.length t) (hu : ∀ i, 0 ≤ rd t i ∧ rd t i ≤ 255)
    (hn : t.length ≤ 1000000000000) (hc : t.length ≤ c) (hp : PatO w base v (some pl)) :
    Calls Tryd.prog 24 #[.slice A t.length c, v] w fun e w' => ∃ v, e = .returned v ∧ Below w.heap.size w w' ∧ (Kd.int .i64).R 3 w' w.heap.size (fun _ => True) v (hitsV t pl) := by
  have HSP := Aside0.mk (X.lines_Split.calls A c t (X.splitR t) w hr hc (by
    unfold X.lines_Split.f
    rw [if_pos (by
      unfold X.u8s
      rw [List.all_eq_true]
      intro x hx
      have := mem_rd (P := fun x => 0 ≤ x ∧ x ≤ 255) t hu x hx
      simp; omega), if_pos (by omega)]))
  have htot := tot_split t
  have hby := split_bytes (P := fun x => 0 ≤ x ∧ x ≤ 255) t (mem_rd t hu)
  have hrl := tot_len (X.splitR t)
  have HV := Aside0.mk (show linesH pl (X.splitR t) 0 [] = hitsV t pl from rfl)
  generalize hitsV t pl = out at HV
  generalize X.splitR t = rows at HSP htot hby HV hrl
  have HBY := Aside0.mk hby
  clear hby hr hu
  go_enter Tryd.func24, Tryd.ntmps24
  go_wp2_with (go_at_call 17; (with_reducible refine HSP.out.mono ?_); rintro e W1 ⟨vs, rfl, hx1, hx2⟩; have HS := Aside0.mk (And.intro hx1 hx2); clear hx1 hx2; obtain ⟨AS, cS, eS⟩ := Kd.R_slice (Kd.S_R HS.out.1); subst eS; have HP := Aside0.mk (PatO_below hp HS.out.2))
  have HK := Aside0.mk (Kd.R_reads' (Kd.S_R HS.out.1)).2.2
  go_loopg [5, 6, 17] rows.length (fun g v5 v6 v17 wl => ∃ (i st : Nat) (acc : List Int), i + g = rows.length ∧ v17 = .int .i64 i ∧ v6 = .int .i64 st ∧ acc.length ≤ st ∧ st + tot (rows.drop i) = t.length + 1 ∧ Aside0 (Below W1.heap.size W1 wl ∧ (Kd.int .i64).R 3 wl W1.heap.size (fun _ => True) v5 acc ∧ linesH pl (rows.drop i) st acc = out))
  case atStart => exact ⟨0, 0, [], by omega, rfl, rfl, by simp, by simpa using htot, ⟨Below.refl _ _, Kd.R_nil _ _ _ _ _, HV.out⟩⟩
  case round =>
    obtain ⟨i, st, acc, hi, rfl, rfl, hal, hst, HA⟩ := hrel
    clear HV HSP
    obtain ⟨A5, c5, e5⟩ := Kd.R_slice HA.out.2.1
    subst e5
    cases gk with
    | zero =>
      have hie : i = rows.length := by omega
      have HE := Aside0.mk (show acc = out by have h := HA.out.2.2; rw [List.drop_eq_nil_of_le (by omega)] at h; exact h)
      subst hie
      go_wp2
      exact bodyPost_ret (v := .slice A5 acc.length c5) (by simp [results, Tryd.results24, go_sem]) rfl ⟨_, rfl, HS.out.2.trans (HA.out.1.mono HS.out.2.size), by rw [← HE.out]; exact Kd.R_lower HA.out.2.1 HS.out.2.size⟩
    | succ g =>
      have hlt : i < rows.length := by omega
      obtain ⟨ad, A', c', rfl, hx, hlc, hC⟩ := line_of HK.out hlt
      replace hx := pw_cell_below HA.out.1 hx
      have HB := Aside0.mk (show ∀ j, 0 ≤ rd (rows.getD i []) j ∧ rd (rows.getD i []) j ≤ 255 by
        intro j
        refine rd_mem (P := fun x => 0 ≤ x ∧ x ≤ 255) _ (HBY.out _ ?_) (by decide) j
        rw [List.getD_eq_getElem?_getD, List.getElem?_eq_getElem hlt]
        exact List.getElem_mem hlt)
      have hdr : rows.drop i = rows.getD i [] :: rows.drop (i + 1) := by
        rw [List.getD_eq_getElem?_getD, List.getElem?_eq_getElem hlt]
        exact List.drop_eq_getElem_cons hlt
      rw [hdr, tot_cons] at hst
      have HN := Aside0.mk (show linesH pl (rows.drop (i + 1)) (st + (rows.getD i []).length + 1) (lineH (rows.getD i []) pl st ((rows.getD i []).length + 2) 0 acc) = out by have h := HA.out.2.2; rw [hdr] at h; exact h)
      generalize rows.getD i [] = line at hx hlc hC HB HN hst
      have HC := Aside0.mk hC
      clear hC hdr
      have q1 : decide ((i : Int) < (rows.length : Int)) = true := decide_eq_true (by omega)
      have q2 : (0 ≤ (i : Int)) = True := eq_true (by omega)
      have q3 : ((i : Int) < (rows.length : Int)) = True := eq_true (by omega)
      go_wp2
      go_loopg [5, 9] (line.length + 2) (fun g2 v5 v9 wl => ∃ (f : Nat) (ac : List Int), line.length + 2 ≤ f + g2 ∧ f ≤ line.length + 1 ∧ v9 = .int .i64 f ∧ ac.length ≤ st + f ∧ Aside0 (Below W1.heap.size W1 wl ∧ (Kd.int .i64).R 3 wl W1.heap.size (fun _ => True) v5 ac ∧ linesH pl (rows.drop (i + 1)) (st + line.length + 1) (lineH line pl st g2 f ac) = out))
      case atStart => exact ⟨0, acc, by omega, by omega, rfl, by omega, ⟨HA.out.1, HA.out.2.1, HN.out⟩⟩
      case round =>
        clear hx
        obtain ⟨f, ac, hf1, hf2, rfl, hl, HL⟩ := hrel
        clear HA HN
        obtain ⟨d, rfl⟩ : ∃ d, gk = d + 1 := ⟨gk - 1, by omega⟩
        have HF := Aside0.mk (find_calls (from_ := (f : Int)) (Kd.C_below HC.out HL.out.1) HB.out (by omega) hlc (PatO_below HP.out HL.out.1))
        have hsp := find_spec line pl f
        have HD := Aside0.mk (show lineH line pl st (d + 1) f ac = if (findV line pl f).2.2 = true then lineH line pl st d ((findV line pl f).1.toNat + 1) (push ac (restH line.length st (findV line pl f).1.toNat)) else ac from rfl)
        have HO := Aside0.mk HL.out.2.2
        rw [HD.out] at HO
        clear HD
        generalize findV line pl (f : Int) = r at HF hsp HO
        obtain ⟨r1, r2, r3⟩ := r
        simp only at hsp HO HF
        obtain ⟨A5, c5, e5⟩ := Kd.R_slice HL.out.2.1
        subst e5
        cases r3 with
        | false =>
          rw [if_neg (by simp)] at HO
          clear hsp
          go_wp2_with (go_at_call 23; (with_reducible refine HF.out.mono ?_); rintro e w2 ⟨rfl, hx2⟩; have HX := Aside0.mk hx2; clear hx2)
          go_roundg g
          case measure => omega
          case rel => exact ⟨i + 1, st + line.length + 1, ac, by omega, by go_num, by go_num, by omega, by omega, ⟨below_step HL.out.1 HX.out, Kd.R_below HL.out.2.1 HX.out, HO.out⟩⟩
        | true =>
          obtain ⟨h0, h1, h2, h3, _⟩ := hsp.1 rfl
          clear hsp
          obtain ⟨a, rfl⟩ : ∃ a : Nat, r1 = (a : Int) := ⟨r1.toNat, by omega⟩
          rw [if_pos rfl, Int.toNat_natCast] at HO
          have hx : (a = line.length ∧ 0 < a ∧ restH line.length st a = (st : Int) + a - 1) ∨ (a = line.length ∧ a = 0 ∧ restH line.length st a = (st : Int) + a) ∨ (a ≠ line.length ∧ restH line.length st a = (st : Int) + a) := by
            unfold restH
            by_cases e : a = line.length
            · by_cases e0 : 0 < a
              · exact .inl ⟨e, e0, if_pos ⟨e, e0⟩⟩
              · exact .inr (.inl ⟨e, by omega, if_neg (fun h => e0 h.2)⟩)
            · exact .inr (.inr ⟨e, if_neg (fun h => e h.1)⟩)
          have hp : (ac = [] ∧ push ac (restH line.length st a) = ac ++ [restH line.length st a]) ∨ (∃ n, ac.length = n + 1 ∧ rd ac (n : Int) ≠ restH line.length st a ∧ push ac (restH line.length st a) = ac ++ [restH line.length st a]) ∨ (∃ n, ac.length = n + 1 ∧ rd ac (n : Int) = restH line.length st a ∧ push ac (restH line.length st a) = ac) := by
            unfold push
            cases e : ac.length with
            | zero => exact .inl ⟨List.eq_nil_of_length_eq_zero e, if_pos (.inl (List.eq_nil_of_length_eq_zero e))⟩
            | succ n =>
              have hne : ac ≠ [] := by intro h; rw [h] at e; cases e
              rw [show (((n + 1 : Nat) : Int) - 1) = (n : Int) from by omega]
              by_cases e2 : rd ac (n : Int) = restH line.length st a
              · exact .inr (.inr ⟨n, rfl, e2, if_neg (fun h => h.elim hne (fun h => h e2))⟩)
              · exact .inr (.inl ⟨n, rfl, e2, if_pos (.inr e2)⟩)
          have hxb : (st : Int) + a - 1 ≤ restH line.length st a ∧ restH line.length st a ≤ st + a := by unfold restH; split <;> omega
          generalize push ac (restH line.length st a) = ac' at HO hp
          generalize restH line.length st a = x at HO hp hx hxb
          rcases hp with ⟨rfl, rfl⟩ | ⟨n, hn5, hne, rfl⟩ | ⟨n, hn5, hne, hne2⟩
          · rcases hx with ⟨rfl, h5, h6⟩ | ⟨rfl, h5, h6⟩ | ⟨h5, h6⟩
            · have q1 : (0 < (line.length : Int)) = True := eq_true (by omega)
              subst h6
              go_wp2_with (first
                | (go_at_call 23; (with_reducible refine HF.out.mono ?_); rintro e w2 ⟨rfl, hx2⟩; have HL2 := Aside0.mk (And.intro (below_step HL.out.1 hx2) (Kd.R_below HL.out.2.1 hx2)); clear hx2)
                | (at_builtin; refine Kd.R_append (Kd.int .i64) (w0 := W1) W1.heap.size rfl (.tmp 57) (.tmp 59) 47 3 (.int .i64 0) 8 rfl Tryd.underlying47 infoI rfl (by decide) (by decide) (.slice A5 0 c5) [] ((st : Int) + line.length - 1) [.int .i64 ((st : Int) + line.length - 1)] (fun _ => True) (fun _ => False) rfl rfl rfl (fun _ hk => hk.elim) (fun _ _ => trivial) HL2.out.2 HL2.out.1 HL2.out.1.size (by first | omega | (simp only [List.length_nil]; omega)) ?_; intro v1 w1 hR hB hG hat; have HG := Aside0.mk (And.intro hB hR); clear hR hB hG hat))
              go_roundg d
              case measure => omega
              case rel => exact ⟨line.length + 1, [] ++ [((st : Int) + line.length - 1)], by omega, by omega, by go_num, by simp only [List.nil_append, List.length_singleton]; omega, ⟨HG.out.1, HG.out.2, HO.out⟩⟩
            · have q1 : (0 < (line.length : Int)) = False := eq_false (by omega)
              have q1b : (0 < line.length) = False := eq_false (by omega)
              have q1c : decide (0 < (line.length : Int)) = false := decide_eq_false (by omega)
              clear h5
              subst h6
              go_wp2_with (first
                | (go_at_call 23; (with_reducible refine HF.out.mono ?_); rintro e w2 ⟨rfl, hx2⟩; have HL2 := Aside0.mk (And.intro (below_step HL.out.1 hx2) (Kd.R_below HL.out.2.1 hx2)); clear hx2)
                | (at_builtin; refine Kd.R_append (Kd.int .i64) (w0 := W1) W1.heap.size rfl (.tmp 57) (.tmp 59) 47 3 (.int .i64 0) 8 rfl Tryd.underlying47 infoI rfl (by decide) (by decide) (.slice A5 0 c5) [] ((st : Int) + line.length) [.int .i64 ((st : Int) + line.length)] (fun _ => True) (fun _ => False) rfl rfl rfl (fun _ hk => hk.elim) (fun _ _ => trivial) HL2.out.2 HL2.out.1 HL2.out.1.size (by first | omega | (simp only [List.length_nil]; omega)) ?_; intro v1 w1 hR hB hG hat; have HG := Aside0.mk (And.intro hB hR); clear hR hB hG hat))
              go_roundg d
              case measure => omega
              case rel => exact ⟨line.length + 1, [] ++ [((st : Int) + line.length)], by omega, by omega, by go_num, by simp only [List.nil_append, List.length_singleton]; omega, ⟨HG.out.1, HG.out.2, HO.out⟩⟩
            · have q1 : ((a : Int) = (line.length : Int)) = False := eq_false (by omega)
              have q1b : (a = line.length) = False := eq_false h5
              subst h6
              go_wp2_with (first
                | (go_at_call 23; (with_reducible refine HF.out.mono ?_); rintro e w2 ⟨rfl, hx2⟩; have HL2 := Aside0.mk (And.intro (below_step HL.out.1 hx2) (Kd.R_below HL.out.2.1 hx2)); clear hx2)
                | (at_builtin; refine Kd.R_append (Kd.int .i64) (w0 := W1) W1.heap.size rfl (.tmp 57) (.tmp 59) 47 3 (.int .i64 0) 8 rfl Tryd.underlying47 infoI rfl (by decide) (by decide) (.slice A5 0 c5) [] ((st : Int) + a) [.int .i64 ((st : Int) + a)] (fun _ => True) (fun _ => False) rfl rfl rfl (fun _ hk => hk.elim) (fun _ _ => trivial) HL2.out.2 HL2.out.1 HL2.out.1.size (by first | omega | (simp only [List.length_nil]; omega)) ?_; intro v1 w1 hR hB hG hat; have HG := Aside0.mk (And.intro hB hR); clear hR hB hG hat))
              go_roundg d
              case measure => omega
              case rel => exact ⟨a + 1, [] ++ [((st : Int) + a)], by omega, by omega, by go_num, by simp only [List.nil_append, List.length_singleton]; omega, ⟨HG.out.1, HG.out.2, HO.out⟩⟩
          · rcases hx with ⟨rfl, h5, h6⟩ | ⟨rfl, h5, h6⟩ | ⟨h5, h6⟩
            · have q1 : (0 < (line.length : Int)) = True := eq_true (by omega)
              subst h6
              obtain ⟨ad5, rfl, hc5⟩ := Kd.at_int (Kd.R_reads' HL.out.2.1).2.2 (n : Int) (by omega) (by omega)
              rw [Int.toNat_natCast] at hc5
              rw [hn5]
              have q2 : (0 ≤ (n : Int)) = True := eq_true (by omega)
              have q3 : ((n : Int) < (n : Int) + 1) = True := eq_true (by omega)
              have q4 : (((n : Int) + 1) = 0) = False := eq_false (by omega)
              have q5 : ((n + 1 : Nat) = 0) = False := eq_false (by omega)
              generalize rd ac (n : Int) = y at hc5 hne
              have q6 : (y = ((st : Int) + line.length - 1)) = False := eq_false hne
              have q7 : (y == ((st : Int) + line.length - 1)) = false := beq_eq_false_iff_ne.2 hne
              have q8 : (y != ((st : Int) + line.length - 1)) = true := bne_iff_ne.2 hne
              go_wp2_with (first
                | (go_at_call 23; (with_reducible refine HF.out.mono ?_); rintro e w2 ⟨rfl, hx2⟩; have HL2 := Aside0.mk (And.intro (below_step HL.out.1 hx2) (show (Kd.int .i64).R 3 w2 W1.heap.size (fun _ => True) (.slice (some ad5) (n + 1) c5) ac from by have h := Kd.R_below HL.out.2.1 hx2; rw [hn5] at h; exact h)); have hc6 := pw_cell_below hx2 hc5; clear hx2)
                | (at_builtin; refine Kd.R_append (Kd.int .i64) (w0 := W1) W1.heap.size rfl (.tmp 57) (.tmp 59) 47 3 (.int .i64 0) 8 rfl Tryd.underlying47 infoI rfl (by decide) (by decide) (.slice (some ad5) (n + 1) c5) ac ((st : Int) + line.length - 1) [.int .i64 ((st : Int) + line.length - 1)] (fun _ => True) (fun _ => False) rfl rfl rfl (fun _ hk => hk.elim) (fun _ _ => trivial) HL2.out.2 HL2.out.1 HL2.out.1.size (by first | omega | (simp only [List.length_nil]; omega)) ?_; intro v1 w1 hR hB hG hat; have HG := Aside0.mk (And.intro hB hR); clear hR hB hG hat))
              go_roundg d
              case measure => omega
              case rel => exact ⟨line.length + 1, ac ++ [((st : Int) + line.length - 1)], by omega, by omega, by go_num, by simp only [List.length_append, List.length_singleton]; omega, ⟨HG.out.1, HG.out.2, HO.out⟩⟩
            · have q1 : (0 < (line.length : Int)) = False := eq_false (by omega)
              have q1b : (0 < line.length) = False := eq_false (by omega)
              have q1c : decide (0 < (line.length : Int)) = false := decide_eq_false (by omega)
              clear h5
              subst h6
              obtain ⟨ad5, rfl, hc5⟩ := Kd.at_int (Kd.R_reads' HL.out.2.1).2.2 (n : Int) (by omega) (by omega)
              rw [Int.toNat_natCast] at hc5
              rw [hn5]
              have q2 : (0 ≤ (n : Int)) = True := eq_true (by omega)
              have q3 : ((n : Int) < (n : Int) + 1) = True := eq_true (by omega)
              have q4 : (((n : Int) + 1) = 0) = False := eq_false (by omega)
              have q5 : ((n + 1 : Nat) = 0) = False := eq_false (by omega)
              generalize rd ac (n : Int) = y at hc5 hne
              have q6 : (y = ((st : Int) + line.length)) = False := eq_false hne
              have q7 : (y == ((st : Int) + line.length)) = false := beq_eq_false_iff_ne.2 hne
              have q8 : (y != ((st : Int) + line.length)) = true := bne_iff_ne.2 hne
              go_wp2_with (first
                | (go_at_call 23; (with_reducible refine HF.out.mono ?_); rintro e w2 ⟨rfl, hx2⟩; have HL2 := Aside0.mk (And.intro (below_step HL.out.1 hx2) (show (Kd.int .i64).R 3 w2 W1.heap.size (fun _ => True) (.slice (some ad5) (n + 1) c5) ac from by have h := Kd.R_below HL.out.2.1 hx2; rw [hn5] at h; exact h)); have hc6 := pw_cell_below hx2 hc5; clear hx2)
                | (at_builtin; refine Kd.R_append (Kd.int .i64) (w0 := W1) W1.heap.size rfl (.tmp 57) (.tmp 59) 47 3 (.int .i64 0) 8 rfl Tryd.underlying47 infoI rfl (by decide) (by decide) (.slice (some ad5) (n + 1) c5) ac ((st : Int) + line.length) [.int .i64 ((st : Int) + line.length)] (fun _ => True) (fun _ => False) rfl rfl rfl (fun _ hk => hk.elim) (fun _ _ => trivial) HL2.out.2 HL2.out.1 HL2.out.1.size (by first | omega | (simp only [List.length_nil]; omega)) ?_; intro v1 w1 hR hB hG hat; have HG := Aside0.mk (And.intro hB hR); clear hR hB hG hat))
              go_roundg d
              case measure => omega
              case rel => exact ⟨line.length + 1, ac ++ [((st : Int) + line.length)], by omega, by omega, by go_num, by simp only [List.length_append, List.length_singleton]; omega, ⟨HG.out.1, HG.out.2, HO.out⟩⟩
            · have q1 : ((a : Int) = (line.length : Int)) = False := eq_false (by omega)
              have q1b : (a = line.length) = False := eq_false h5
              subst h6
              obtain ⟨ad5, rfl, hc5⟩ := Kd.at_int (Kd.R_reads' HL.out.2.1).2.2 (n : Int) (by omega) (by omega)
              rw [Int.toNat_natCast] at hc5
              rw [hn5]
              have q2 : (0 ≤ (n : Int)) = True := eq_true (by omega)
              have q3 : ((n : Int) < (n : Int) + 1) = True := eq_true (by omega)
              have q4 : (((n : Int) + 1) = 0) = False := eq_false (by omega)
              have q5 : ((n + 1 : Nat) = 0) = False := eq_false (by omega)
              generalize rd ac (n : Int) = y at hc5 hne
              have q6 : (y = ((st : Int) + a)) = False := eq_false hne
              have q7 : (y == ((st : Int) + a)) = false := beq_eq_false_iff_ne.2 hne
              have q8 : (y != ((st : Int) + a)) = true := bne_iff_ne.2 hne
              go_wp2_with (first
                | (go_at_call 23; (with_reducible refine HF.out.mono ?_); rintro e w2 ⟨rfl, hx2⟩; have HL2 := Aside0.mk (And.intro (below_step HL.out.1 hx2) (show (Kd.int .i64).R 3 w2 W1.heap.size (fun _ => True) (.slice (some ad5) (n + 1) c5) ac from by have h := Kd.R_below HL.out.2.1 hx2; rw [hn5] at h; exact h)); have hc6 := pw_cell_below hx2 hc5; clear hx2)
                | (at_builtin; refine Kd.R_append (Kd.int .i64) (w0 := W1) W1.heap.size rfl (.tmp 57) (.tmp 59) 47 3 (.int .i64 0) 8 rfl Tryd.underlying47 infoI rfl (by decide) (by decide) (.slice (some ad5) (n + 1) c5) ac ((st : Int) + a) [.int .i64 ((st : Int) + a)] (fun _ => True) (fun _ => False) rfl rfl rfl (fun _ hk => hk.elim) (fun _ _ => trivial) HL2.out.2 HL2.out.1 HL2.out.1.size (by first | omega | (simp only [List.length_nil]; omega)) ?_; intro v1 w1 hR hB hG hat; have HG := Aside0.mk (And.intro hB hR); clear hR hB hG hat))
              go_roundg d
              case measure => omega
              case rel => exact ⟨a + 1, ac ++ [((st : Int) + a)], by omega, by omega, by go_num, by simp only [List.length_append, List.length_singleton]; omega, ⟨HG.out.1, HG.out.2, HO.out⟩⟩
          · rcases hx with ⟨rfl, h5, h6⟩ | ⟨rfl, h5, h6⟩ | ⟨h5, h6⟩
            · have q1 : (0 < (line.length : Int)) = True := eq_true (by omega)
              subst h6
              obtain ⟨ad5, rfl, hc5⟩ := Kd.at_int (Kd.R_reads' HL.out.2.1).2.2 (n : Int) (by omega) (by omega)
              rw [Int.toNat_natCast] at hc5
              rw [hn5]
              have q2 : (0 ≤ (n : Int)) = True := eq_true (by omega)
              have q3 : ((n : Int) < (n : Int) + 1) = True := eq_true (by omega)
              have q4 : (((n : Int) + 1) = 0) = False := eq_false (by omega)
              have q5 : ((n + 1 : Nat) = 0) = False := eq_false (by omega)
              rw [hne] at hc5
              go_wp2_with (first
                | (go_at_call 23; (with_reducible refine HF.out.mono ?_); rintro e w2 ⟨rfl, hx2⟩; have HL2 := Aside0.mk (And.intro (below_step HL.out.1 hx2) (show (Kd.int .i64).R 3 w2 W1.heap.size (fun _ => True) (.slice (some ad5) (n + 1) c5) ac from by have h := Kd.R_below HL.out.2.1 hx2; rw [hn5] at h; exact h)); have hc6 := pw_cell_below hx2 hc5; clear hx2))
              go_roundg d
              case measure => omega
              case rel => exact ⟨line.length + 1, ac, by omega, by omega, by go_num, by omega, ⟨HL2.out.1, HL2.out.2, by rw [← hne2]; exact HO.out⟩⟩
            · have q1 : (0 < (line.length : Int)) = False := eq_false (by omega)
              have q1b : (0 < line.length) = False := eq_false (by omega)
              have q1c : decide (0 < (line.length : Int)) = false := decide_eq_false (by omega)
              clear h5
              subst h6
              obtain ⟨ad5, rfl, hc5⟩ := Kd.at_int (Kd.R_reads' HL.out.2.1).2.2 (n : Int) (by omega) (by omega)
              rw [Int.toNat_natCast] at hc5
              rw [hn5]
              have q2 : (0 ≤ (n : Int)) = True := eq_true (by omega)
              have q3 : ((n : Int) < (n : Int) + 1) = True := eq_true (by omega)
              have q4 : (((n : Int) + 1) = 0) = False := eq_false (by omega)
              have q5 : ((n + 1 : Nat) = 0) = False := eq_false (by omega)
              rw [hne] at hc5
              go_wp2_with (first
                | (go_at_call 23; (with_reducible refine HF.out.mono ?_); rintro e w2 ⟨rfl, hx2⟩; have HL2 := Aside0.mk (And.intro (below_step HL.out.1 hx2) (show (Kd.int .i64).R 3 w2 W1.heap.size (fun _ => True) (.slice (some ad5) (n + 1) c5) ac from by have h := Kd.R_below HL.out.2.1 hx2; rw [hn5] at h; exact h)); have hc6 := pw_cell_below hx2 hc5; clear hx2))
              go_roundg d
              case measure => omega
              case rel => exact ⟨line.length + 1, ac, by omega, by omega, by go_num, by omega, ⟨HL2.out.1, HL2.out.2, by rw [← hne2]; exact HO.out⟩⟩
            · have q1 : ((a : Int) = (line.length : Int)) = False := eq_false (by omega)
              have q1b : (a = line.length) = False := eq_false h5
              subst h6
              obtain ⟨ad5, rfl, hc5⟩ := Kd.at_int (Kd.R_reads' HL.out.2.1).2.2 (n : Int) (by omega) (by omega)
              rw [Int.toNat_natCast] at hc5
              rw [hn5]
              have q2 : (0 ≤ (n : Int)) = True := eq_true (by omega)
              have q3 : ((n : Int) < (n : Int) + 1) = True := eq_true (by omega)
              have q4 : (((n : Int) + 1) = 0) = False := eq_false (by omega)
              have q5 : ((n + 1 : Nat) = 0) = False := eq_false (by omega)
              rw [hne] at hc5
              go_wp2_with (first
                | (go_at_call 23; (with_reducible refine HF.out.mono ?_); rintro e w2 ⟨rfl, hx2⟩; have HL2 := Aside0.mk (And.intro (below_step HL.out.1 hx2) (show (Kd.int .i64).R 3 w2 W1.heap.size (fun _ => True) (.slice (some ad5) (n + 1) c5) ac from by have h := Kd.R_below HL.out.2.1 hx2; rw [hn5] at h; exact h)); have hc6 := pw_cell_below hx2 hc5; clear hx2))
              go_roundg d
              case measure => omega
              case rel => exact ⟨a + 1, ac, by omega, by omega, by go_num, by omega, ⟨HL2.out.1, HL2.out.2, by rw [← hne2]; exact HO.out⟩⟩
end Go.Proofs.YtffpkldphkmjmaaDoor.PT
end
section
namespace Go.Proofs.YtffpkldphkmjmaaDoor.PT
open Go.RowKit Go.Proofs.YtffpkldphkmjmaaDoorW.PrintWords Go.Proofs.YtffpkldphkmjmaaDoorW.PrintMore
set_option linter.unusedVariables false
attribute [local go_sem] max2_int min2_int max_two min_two   -- for this text's walks alone
/-- The last hit ahead of a place (else the last one), among the first k. -/
def bI (l : List Int) (p : Int) : Nat → Nat
  | 0 => l.length - 1
  | k + 1 => if rd l k < p then k else bI l p k
/-- The first hit behind a place (else the first one), among the last d. -/
def fI (l : List Int) (p : Int) : Nat → Nat
  | 0 => 0
  | d + 1 => if rd l ((l.length - (d + 1) : Nat) : Int) > p then l.length - (d + 1) else fI l p d
def moreV (n : Nat) (count : Int) (back : Bool) : Nat := if back = true then n - ((max count 1).toNat - 1) % n else ((max count 1).toNat - 1) % n
/-- What Next comes to where the hits are known: the target's place. -/
def pickV (l : List Int) (p count : Int) (back : Bool) : Int := rd l (((if back = true then bI l p l.length else fI l p l.length) + moreV l.length count back) % l.length : Nat)
def huntV (n : Nat) (l : List Int) (p count : Int) (back : Bool) : (Int × Int × Int) × Int :=
  if p < 0 ∨ p > n ∨ count < 0 ∨ count > 9999 then ((0, 0, 0), 2)
  else if l = [] then ((0, 0, 0), 120)
  else ((p, pickV l p count back, 1), 0)
def tgt (x : Int × Int × Int) : Value := .agg #[.int .i64 x.1, .int .i64 x.2.1, .int .i64 x.2.2]
theorem bI_lt {l : List Int} (h : l ≠ []) (p : Int) : ∀ k, k ≤ l.length → bI l p k < l.length := by
  have h0 := List.length_pos_iff.2 h
  intro k
  induction k with
  | zero => intro _; unfold bI; omega
  | succ k ih =>
    intro hk
    unfold bI
    split
    · omega
    · exact ih (by omega)
theorem fI_lt {l : List Int} (h : l ≠ []) (p : Int) : ∀ d, fI l p d < l.length := by
  have h0 := List.length_pos_iff.2 h
  intro d
  induction d with
  | zero => exact h0
  | succ d ih =>
    unfold fI
    split
    · omega
    · exact ih
theorem tgt_ret {tmps : Array Value} {w : World} {g : Nat} {x : Int × Int × Int} {y : Int} (hp : tmps.getD 10 undef = .pointer (some ⟨g, 0, none⟩)) (hu : tmps.getD 11 undef = .int .i64 y)
    (hg : w.heap[g]? = some (.cells #[.int .i64 x.1, .int .i64 x.2.1, .int .i64 x.2.2] 27 (0, 0))) : (results Tryd.f10 tmps).run Tryd.prog w = .ok (.tuple #[tgt x, .int .i64 y]) w := by
  rw [results_ct rfl tmps w g 27 _ (0, 0) _ hp hg Tryd.underlying27 rfl (by kernel_rfl), hu]
  rfl
theorem lineH_len (line : List Int) (pl : List PTh) (st : Nat) : ∀ (d f : Nat) (acc : List Int), f ≤ line.length + 1 → (lineH line pl st d f acc).length ≤ acc.length + (line.length + 1 - f) := by
  intro d
  induction d with
  | zero => intro f acc _; exact Nat.le_add_right _ _
  | succ d ih =>
    intro f acc hf
    unfold lineH
    have hs := (find_spec line pl f).1
    by_cases h : (findV line pl (f : Int)).2.2 = true
    · rw [if_pos h]
      obtain ⟨_, h1, h2, h3, _⟩ := hs h
      have := ih ((findV line pl (f : Int)).1.toNat + 1) (push acc (restH line.length st (findV line pl (f : Int)).1.toNat)) (by omega)
      have h5 := push_len acc (restH line.length st (findV line pl (f : Int)).1.toNat)
      omega
    · rw [if_neg h]
      exact Nat.le_add_right _ _
theorem linesH_len (pl : List PTh) : ∀ (ls : List (List Int)) (st : Nat) (acc : List Int), (linesH pl ls st acc).length ≤ acc.length + tot ls := by
  intro ls
  induction ls with
  | nil => intro st acc; exact Nat.le_add_right _ _
  | cons l ls ih =>
    intro st acc
    have h1 := ih (st + l.length + 1) (lineH l pl st (l.length + 2) 0 acc)
    have h2 := lineH_len l pl st (l.length + 2) 0 acc (by omega)
    rw [tot_cons]
    show (linesH pl ls (st + l.length + 1) (lineH l pl st (l.length + 2) 0 acc)).length ≤ _
    omega
theorem hits_len (t : List Int) (pl : List PTh) : (hitsV t pl).length ≤ t.length + 1 := by
  have h := linesH_len pl (X.splitR t) 0 []
  rw [tot_split, List.length_nil, Nat.zero_add] at h
  exact h
theorem one3 (a b c : Int) : (#[Value.int .i64 a, .int .i64 b, .int .i64 c] : Array Value).all (·.oneCell') = true := by simp [Value.oneCell']
set_option maxHeartbeats 4000000 in
set_option maxRecDepth 100000 in
theorem hunt_nil {w : World} {A : Option Addr} {c n : Nat} {p count : Int} {back : Bool} :
    Calls Tryd.prog 10 #[.slice A n c, .int .i64 p, .int .i64 count, .pointer none, .bool back] w fun e w' => e = .returned (.tuple #[tgt (0, 0, 0), .int .i64 2]) ∧ Below w.heap.size w w' := by
  go_enter Tryd.func10, Tryd.ntmps10
  go_wp2
  all_goals exact bodyPost_ret (tgt_ret (x := (0, 0, 0)) rfl rfl (heap_alloc_new w _)) rfl ⟨rfl, below_alloc (Below.refl _ _) _⟩
set_option maxHeartbeats 4000000 in
set_option maxRecDepth 100000 in
theorem hunt_calls {w : World} {A : Option Addr} {c : Nat} {t : List Int} {v : Value} {base : Nat} {pl : List PTh} {p count : Int} {back : Bool} (hr : Kd.C (Kd.int .u8) w A t.length t) (hu : ∀ i, 0 ≤ rd t i ∧ rd t i ≤ 255)
    (hn : t.length ≤ 1000000000000) (hc : t.length ≤ c) (hp : PatO w base v (some pl)) :
    Calls Tryd.prog 10 #[.slice A t.length c, .int .i64 p, .int .i64 count, v, .bool back] w fun e w' => e = .returned (.tuple #[tgt (huntV t.length (hitsV t pl) p count back).1, .int .i64 (huntV t.length (hitsV t pl) p count back).2]) ∧ Below w.heap.size w w' := by
  have hne : ∃ b, v = .pointer (some ⟨b, 0, none⟩) := by obtain ⟨b, _, _, _, h, _⟩ := hp; exact ⟨b, h⟩
  obtain ⟨b, rfl⟩ := hne
  have HH := Aside0.mk (hits_calls (w := w.alloc (.cells #[.int .i64 0, .int .i64 0, .int .i64 0] 27)) (Kd.C_alloc hr _) hu hn hc (PatO_below hp (below_alloc (Below.refl _ _) _)))
  have hlb := hits_len t pl
  generalize hitsV t pl = l at HH hlb
  clear hp hr hu
  have HV := Aside0.mk (show huntV t.length l p count back = if p < 0 ∨ p > t.length ∨ count < 0 ∨ count > 9999 then ((0, 0, 0), 2) else if l = [] then ((0, 0, 0), 120) else ((p, pickV l p count back, 1), 0) from rfl)
  generalize huntV t.length l p count back = r at HV
  by_cases hg : p < 0 ∨ p > t.length ∨ count < 0 ∨ count > 9999
  · have HV2 := HV.out
    rw [if_pos hg] at HV2
    subst HV2
    clear HV
    clear HH
    by_cases h1 : p < 0
    · have g1 : (p < 0) = True := eq_true h1
      go_enter Tryd.func10, Tryd.ntmps10
      go_wp2
      exact bodyPost_ret (tgt_ret (x := (0, 0, 0)) rfl rfl (heap_alloc_new w _)) rfl ⟨rfl, below_alloc (Below.refl _ _) _⟩
    · have g1 : (p < 0) = False := eq_false h1
      by_cases h2 : (t.length : Int) < p
      · have g2 : ((t.length : Int) < p) = True := eq_true h2
        go_enter Tryd.func10, Tryd.ntmps10
        go_wp2
        exact bodyPost_ret (tgt_ret (x := (0, 0, 0)) rfl rfl (heap_alloc_new w _)) rfl ⟨rfl, below_alloc (Below.refl _ _) _⟩
      · have g2 : ((t.length : Int) < p) = False := eq_false h2
        by_cases h3 : count < 0
        · have g3 : (count < 0) = True := eq_true h3
          go_enter Tryd.func10, Tryd.ntmps10
          go_wp2
          exact bodyPost_ret (tgt_ret (x := (0, 0, 0)) rfl rfl (heap_alloc_new w _)) rfl ⟨rfl, below_alloc (Below.refl _ _) _⟩
        · have g3 : (count < 0) = False := eq_false h3
          have g4 : (9999 < count) = True := eq_true (by omega)
          go_enter Tryd.func10, Tryd.ntmps10
          go_wp2
          exact bodyPost_ret (tgt_ret (x := (0, 0, 0)) rfl rfl (heap_alloc_new w _)) rfl ⟨rfl, below_alloc (Below.refl _ _) _⟩
  · have g1 : (p < 0) = False := eq_false (by omega)
    have g2 : ((t.length : Int) < p) = False := eq_false (by omega)
    have g3 : (count < 0) = False := eq_false (by omega)
    have g4 : (9999 < count) = False := eq_false (by omega)
    by_cases hl : l = []
    · have HV2 := HV.out
      rw [if_neg hg, if_pos hl] at HV2
      subst hl HV2
      clear HV
      go_enter Tryd.func10, Tryd.ntmps10
      go_wp2_with (first
        | (go_at_call 24; (with_reducible refine HH.out.mono ?_); rintro e w1 ⟨vl, rfl, hx1, hx2⟩; have HX := Aside0.mk (And.intro (below_then (below_alloc (Below.refl _ _) _) (by simp only [World.size_alloc]; omega) hx1) hx2); have BK := Aside0.mk (blk_below (heap_alloc_new w (.cells #[.int .i64 0, .int .i64 0, .int .i64 0] 27)) hx1); clear hx1 hx2; obtain ⟨A5, c5, e5⟩ := Kd.R_slice HX.out.2; subst e5)
        | ((with_reducible refine gate_ (.store 27 (.tmp 10) (.tmp 45)) rfl ?_); refine wpList_store_row rfl 27 (.tmp 10) (.tmp 45) rfl w.heap.size #[.int .i64 0, .int .i64 0, .int .i64 0] rfl rfl _ _ BK.out (by kernel_rfl) rfl (one3 _ _ _) ?_))
      exact bodyPost_ret (tgt_ret (x := (0, 0, 0)) rfl rfl (setRow_heap _ _ _ _ _ _ BK.out)) rfl ⟨rfl, below_setRow HX.out.1 (Nat.le_refl _) _⟩
    · have HV2 := HV.out
      rw [if_neg hg, if_neg hl] at HV2
      clear HV
      subst HV2
      have hl0 := List.length_pos_iff.2 hl
      have HI1 := Aside0.mk (bI_lt hl p)
      have HI2 := Aside0.mk (fI_lt hl p)
      have HP := Aside0.mk (show pickV l p count back = rd l (((if back = true then bI l p l.length else fI l p l.length) + moreV l.length count back) % l.length : Nat) from rfl)
      generalize pickV l p count back = z at HP
      have g5 : ((l.length : Int) = 0) = False := eq_false (by omega)
      have g6 : (l.length = 0) = False := eq_false (by omega)
      clear hl
      have g7 : ((l.length : Int) == 0) = false := beq_eq_false_iff_ne.2 (by omega)
      cases back with
      | true =>
        replace HP := Aside0.mk (show z = rd l ((bI l p l.length + moreV l.length count true) % l.length : Nat) from HP.out)
        go_enter Tryd.func10, Tryd.ntmps10
        go_wp2_with (go_at_call 24; (with_reducible refine HH.out.mono ?_); rintro e w1 ⟨vl, rfl, hx1, hx2⟩; have HX := Aside0.mk (And.intro (below_then (below_alloc (Below.refl _ _) _) (by simp only [World.size_alloc]; omega) hx1) hx2); have BK := Aside0.mk (blk_below (heap_alloc_new w (.cells #[.int .i64 0, .int .i64 0, .int .i64 0] 27)) hx1); clear hx1 hx2; obtain ⟨A5, c5, e5⟩ := Kd.R_slice HX.out.2; subst e5)
        have HC5 := Aside0.mk (Kd.R_reads' HX.out.2).2.2
        go_loopg [13, 52] l.length (fun g v13 v52 wl => ∃ k : Nat, k + g = l.length ∧ v52 = .int .i64 k ∧ v13 = .int .i64 (bI l p k : Nat) ∧ wl = w1)
        case atStart => exact ⟨0, by omega, rfl, by unfold bI; go_num, rfl⟩
        case round =>
          obtain ⟨k, hk, rfl, rfl, rfl⟩ := hrel
          cases gk with
          | zero =>
            have hke : k = l.length := by omega
            have hb1 := HI1.out k (by omega)
            subst hke
            generalize bI l p l.length = m at hb1 HP
            clear hk HI1 HI2
            by_cases hc1 : 1 ≤ count
            · obtain ⟨cc, rfl⟩ : ∃ cc : Nat, count = (cc : Int) + 1 := ⟨(count - 1).toNat, by omega⟩
              have e1 : moreV l.length ((cc : Int) + 1) true = l.length - cc % l.length := by
                unfold moreV
                rw [if_pos rfl, show (max ((cc : Int) + 1) 1).toNat - 1 = cc from by omega]
              have hr := Nat.mod_lt cc hl0
              have hm : (cc : Int) % (l.length : Int) = ((cc % l.length : Nat) : Int) := rfl
              generalize cc % l.length = r at e1 hr hm
              have hq := Nat.mod_lt (m + (l.length - r)) hl0
              have ht : ((m : Int) + ((l.length : Int) - (r : Int))).tmod (l.length : Int) = (((m + (l.length - r)) % l.length : Nat) : Int) := by
                rw [show ((m : Int) + ((l.length : Int) - (r : Int))) = ((m + (l.length - r) : Nat) : Int) from by omega]
                exact (Int.ofNat_tmod _ _).symm
              rw [e1] at HP
              generalize (m + (l.length - r)) % l.length = q at hq ht HP
              obtain ⟨ad5, rfl, hc5⟩ := Kd.at_int HC5.out (q : Int) (by omega) (by omega)
              rw [Int.toNat_natCast, ← HP.out] at hc5
              have q2 : (0 ≤ (q : Int)) = True := eq_true (by omega)
              have q3 : ((q : Int) < (l.length : Int)) = True := eq_true (by omega)
              clear HP e1
              go_wp2_with ((with_reducible refine gate_ (.store 27 (.tmp 10) (.tmp 97)) rfl ?_); refine wpList_store_row rfl 27 (.tmp 10) (.tmp 97) rfl w.heap.size #[.int .i64 p, .int .i64 z, .int .i64 1] rfl rfl _ _ BK.out (by kernel_rfl) rfl (one3 _ _ _) ?_)
              exact bodyPost_ret (tgt_ret (x := (p, z, 1)) rfl rfl (setRow_heap _ _ _ _ _ _ BK.out)) rfl ⟨rfl, below_setRow HX.out.1 (Nat.le_refl _) _⟩
            · have e1 : moreV l.length count true = l.length := by
                unfold moreV
                rw [if_pos rfl, show (max count 1).toNat - 1 = 0 from by omega, Nat.zero_mod, Nat.sub_zero]
              have hw : wrap64 (l.length : Int) = (l.length : Int) := by unfold wrap64; omega
              have hx1 : (1 ≤ count) = False := eq_false hc1
              have hq := Nat.mod_lt (m + l.length) hl0
              have ht : ((m : Int) + (l.length : Int)).tmod (l.length : Int) = (((m + l.length) % l.length : Nat) : Int) := by
                rw [show ((m : Int) + (l.length : Int)) = ((m + l.length : Nat) : Int) from by omega]
                exact (Int.ofNat_tmod _ _).symm
              rw [e1] at HP
              generalize (m + l.length) % l.length = q at hq ht HP
              obtain ⟨ad5, rfl, hc5⟩ := Kd.at_int HC5.out (q : Int) (by omega) (by omega)
              rw [Int.toNat_natCast, ← HP.out] at hc5
              have q2 : (0 ≤ (q : Int)) = True := eq_true (by omega)
              have q3 : ((q : Int) < (l.length : Int)) = True := eq_true (by omega)
              clear HP e1
              go_wp2_with ((with_reducible refine gate_ (.store 27 (.tmp 10) (.tmp 97)) rfl ?_); refine wpList_store_row rfl 27 (.tmp 10) (.tmp 97) rfl w.heap.size #[.int .i64 p, .int .i64 z, .int .i64 1] rfl rfl _ _ BK.out (by kernel_rfl) rfl (one3 _ _ _) ?_)
              exact bodyPost_ret (tgt_ret (x := (p, z, 1)) rfl rfl (setRow_heap _ _ _ _ _ _ BK.out)) rfl ⟨rfl, below_setRow HX.out.1 (Nat.le_refl _) _⟩
          | succ g =>
            have q1 : decide ((k : Int) < (l.length : Int)) = true := decide_eq_true (by omega)
            have q2 : (0 ≤ (k : Int)) = True := eq_true (by omega)
            have q3 : ((k : Int) < (l.length : Int)) = True := eq_true (by omega)
            have hb1 := HI1.out k (by omega)
            obtain ⟨ad5, rfl, hc5⟩ := Kd.at_int HC5.out (k : Int) (by omega) (by omega)
            rw [Int.toNat_natCast] at hc5
            have hst : bI l p (k + 1) = if rd l k < p then k else bI l p k := rfl
            by_cases hlt : rd l k < p
            · rw [if_pos hlt] at hst
              have q4 : (rd l k < p) = True := eq_true hlt
              go_wp2
              go_roundg g
              case measure => omega
              case rel => exact ⟨k + 1, by omega, by go_num, congrArg (fun x : Nat => Value.int .i64 (x : Int)) hst.symm, rfl⟩
            · rw [if_neg hlt] at hst
              have q4 : (rd l k < p) = False := eq_false hlt
              go_wp2
              go_roundg g
              case measure => omega
              case rel => exact ⟨k + 1, by omega, by go_num, congrArg (fun x : Nat => Value.int .i64 (x : Int)) hst.symm, rfl⟩
      | false =>
        replace HP := Aside0.mk (show z = rd l ((fI l p l.length + moreV l.length count false) % l.length : Nat) from HP.out)
        go_enter Tryd.func10, Tryd.ntmps10
        go_wp2_with (go_at_call 24; (with_reducible refine HH.out.mono ?_); rintro e w1 ⟨vl, rfl, hx1, hx2⟩; have HX := Aside0.mk (And.intro (below_then (below_alloc (Below.refl _ _) _) (by simp only [World.size_alloc]; omega) hx1) hx2); have BK := Aside0.mk (blk_below (heap_alloc_new w (.cells #[.int .i64 0, .int .i64 0, .int .i64 0] 27)) hx1); clear hx1 hx2; obtain ⟨A5, c5, e5⟩ := Kd.R_slice HX.out.2; subst e5)
        have HC5 := Aside0.mk (Kd.R_reads' HX.out.2).2.2
        go_loopg [13, 16] l.length (fun g v13 v16 wl => g ≤ l.length ∧ v16 = .int .i64 ((g : Int) - 1) ∧ v13 = .int .i64 (fI l p (l.length - g) : Nat) ∧ wl = w1)
        case atStart => exact ⟨by omega, by go_num, by rw [Nat.sub_self]; rfl, rfl⟩
        case round =>
          obtain ⟨hk, rfl, rfl, rfl⟩ := hrel
          cases gk with
          | zero =>
            have hb1 := HI2.out l.length
            rw [Nat.sub_zero]
            generalize fI l p l.length = m at hb1 HP
            clear hk HI1 HI2
            by_cases hc1 : 1 ≤ count
            · obtain ⟨cc, rfl⟩ : ∃ cc : Nat, count = (cc : Int) + 1 := ⟨(count - 1).toNat, by omega⟩
              have e1 : moreV l.length ((cc : Int) + 1) false = cc % l.length := by
                unfold moreV
                rw [if_neg (by simp), show (max ((cc : Int) + 1) 1).toNat - 1 = cc from by omega]
              have hr := Nat.mod_lt cc hl0
              have hm : (cc : Int) % (l.length : Int) = ((cc % l.length : Nat) : Int) := rfl
              generalize cc % l.length = r at e1 hr hm
              have hq := Nat.mod_lt (m + r) hl0
              have ht : ((m : Int) + (r : Int)).tmod (l.length : Int) = (((m + r) % l.length : Nat) : Int) := by
                rw [show ((m : Int) + (r : Int)) = ((m + r : Nat) : Int) from by omega]
                exact (Int.ofNat_tmod _ _).symm
              rw [e1] at HP
              generalize (m + r) % l.length = q at hq ht HP
              obtain ⟨ad5, rfl, hc5⟩ := Kd.at_int HC5.out (q : Int) (by omega) (by omega)
              rw [Int.toNat_natCast, ← HP.out] at hc5
              have q2 : (0 ≤ (q : Int)) = True := eq_true (by omega)
              have q3 : ((q : Int) < (l.length : Int)) = True := eq_true (by omega)
              clear HP e1
              go_wp2_with ((with_reducible refine gate_ (.store 27 (.tmp 10) (.tmp 97)) rfl ?_); refine wpList_store_row rfl 27 (.tmp 10) (.tmp 97) rfl w.heap.size #[.int .i64 p, .int .i64 z, .int .i64 1] rfl rfl _ _ BK.out (by kernel_rfl) rfl (one3 _ _ _) ?_)
              exact bodyPost_ret (tgt_ret (x := (p, z, 1)) rfl rfl (setRow_heap _ _ _ _ _ _ BK.out)) rfl ⟨rfl, below_setRow HX.out.1 (Nat.le_refl _) _⟩
            · have e1 : moreV l.length count false = 0 := by
                unfold moreV
                rw [if_neg (by simp), show (max count 1).toNat - 1 = 0 from by omega, Nat.zero_mod]
              have hw : wrap64 (l.length : Int) = (l.length : Int) := by unfold wrap64; omega
              have hx1 : (1 ≤ count) = False := eq_false hc1
              have hq := Nat.mod_lt (m + 0) hl0
              have ht : (m : Int).tmod (l.length : Int) = (((m + 0) % l.length : Nat) : Int) := by
                rw [show (m : Int) = ((m + 0 : Nat) : Int) from by omega]
                exact (Int.ofNat_tmod _ _).symm
              rw [e1] at HP
              generalize (m + 0) % l.length = q at hq ht HP
              obtain ⟨ad5, rfl, hc5⟩ := Kd.at_int HC5.out (q : Int) (by omega) (by omega)
              rw [Int.toNat_natCast, ← HP.out] at hc5
              have q2 : (0 ≤ (q : Int)) = True := eq_true (by omega)
              have q3 : ((q : Int) < (l.length : Int)) = True := eq_true (by omega)
              clear HP e1
              go_wp2_with ((with_reducible refine gate_ (.store 27 (.tmp 10) (.tmp 97)) rfl ?_); refine wpList_store_row rfl 27 (.tmp 10) (.tmp 97) rfl w.heap.size #[.int .i64 p, .int .i64 z, .int .i64 1] rfl rfl _ _ BK.out (by kernel_rfl) rfl (one3 _ _ _) ?_)
              exact bodyPost_ret (tgt_ret (x := (p, z, 1)) rfl rfl (setRow_heap _ _ _ _ _ _ BK.out)) rfl ⟨rfl, below_setRow HX.out.1 (Nat.le_refl _) _⟩
          | succ g =>
            have q2 : (0 ≤ (g : Int)) = True := eq_true (by omega)
            have q3 : ((g : Int) < (l.length : Int)) = True := eq_true (by omega)
            rw [show (((g + 1 : Nat) : Int) - 1) = (g : Int) from by omega]
            have hb1 := HI2.out (l.length - (g + 1))
            obtain ⟨ad5, rfl, hc5⟩ := Kd.at_int HC5.out (g : Int) (by omega) (by omega)
            rw [Int.toNat_natCast] at hc5
            have hst : fI l p (l.length - g) = if rd l g > p then g else fI l p (l.length - (g + 1)) := by
              rw [show l.length - g = (l.length - (g + 1)) + 1 from by omega]
              show (if rd l ((l.length - ((l.length - (g + 1)) + 1) : Nat) : Int) > p then _ else _) = _
              rw [show l.length - ((l.length - (g + 1)) + 1) = g from by omega]
            by_cases hlt : rd l g > p
            · rw [if_pos hlt] at hst
              have q4 : (p < rd l g) = True := eq_true hlt
              go_wp2
              go_roundg g
              case measure => omega
              case rel => exact ⟨by omega, by go_num, congrArg (fun x : Nat => Value.int .i64 (x : Int)) hst.symm, rfl⟩
            · rw [if_neg hlt] at hst
              have q4 : (p < rd l g) = False := eq_false hlt
              go_wp2
              go_roundg g
              case measure => omega
              case rel => exact ⟨by omega, by go_num, congrArg (fun x : Nat => Value.int .i64 (x : Int)) hst.symm, rfl⟩
end Go.Proofs.YtffpkldphkmjmaaDoor.PT
end
section
namespace Go.Proofs.YtffpkldphkmjmaaDoor.PT
open Go.RowKit Go.Proofs.YtffpkldphkmjmaaDoorW.PrintWords Go.Proofs.YtffpkldphkmjmaaDoorW.PrintMore
set_option linter.unusedVariables false
section
variable {P : Program} {ops : Array Oper} {rest : List Oper} {o : Oper} {a : Act} {Q : Exit → Act → World → Prop}
theorem cells_C {w : World} {b : Addr} {n : Nat} {xs : List Int} (h : (Kd.int .u8).C w (some b) n xs) (hn : xs.length = n) : ∀ j v, (encs (Value.int .u8) xs)[j]? = some v → w.cell? (b.add j) = some v := by
  intro j v hj
  have hlt : j < xs.length := by
    rcases Nat.lt_or_ge j xs.length with h' | h'
    · exact h'
    · rw [List.getElem?_eq_none (by rw [encs_length]; exact h')] at hj; cases hj
  obtain ⟨ad, e, hc⟩ := Kd.at_int h (j : Int) (by omega) (by omega)
  injection e with e
  subst e
  rw [Int.toNat_natCast] at hc
  rw [hc, ← hj]
  unfold encs rd
  rw [Int.toNat_natCast, List.getElem?_map, List.getElem?_eq_getElem hlt, List.getD_eq_getElem?_getD, List.getElem?_eq_getElem hlt]
  rfl
/-- append where there's no room: a new row. -/
theorem append_grow {w0 W : World} (base : Nat) (hgd : o.guard = none) (s x : Operand) (t e : TypeId) (ho : o.op = .call { callee := .builtin .append, args := #[s, x], argTypes := #[t, t] })
    (ht : P.underlying t = some (.slice e)) (hinfo : (P.info? e).map (fun i => (i.zero, i.size, i.bytes)) = some (some (.int .u8 0), 1, 1))
    (b : Addr) (olds news : List Int) (A : Option Addr) (m c : Nat) (hs : a.eval s = .slice (some b) m m) (hx : a.eval x = .slice A news.length c) (hm : olds.length = m) (holds : (Kd.int .u8).C W (some b) m olds) (hnews : (Kd.int .u8).C W A news.length news)
    (hpos : 0 < news.length) (HB : Below base w0 W) (hbase : base ≤ W.heap.size) (hl : olds.length + news.length ≤ 140737488355328)
    (h : ∀ v1 w1, (Kd.int .u8).R e w1 base (fun _ => True) v1 (olds ++ news) → Below base w0 w1 → wpList P ops Q rest (a.put o.dst v1) w1) : wpList P ops Q (o :: rest) a W := by
  obtain ⟨i0, hi, hzz⟩ := Option.map_eq_some_iff.1 hinfo
  simp only [Prod.mk.injEq] at hzz
  obtain ⟨hz0, hz1, hz2⟩ := hzz
  obtain ⟨ad, rfl, _⟩ := hnews.2.2 hpos
  subst hm
  have hr := run_append_grow (P := P) (w := W) t o.type e i0 (.int .u8 0) ht hi hz0 b olds.length olds.length (encs (Value.int .u8) olds) (by rw [encs_length, hz1, Nat.mul_one]) (cells_C holds rfl) ad news.length c (encs (Value.int .u8) news) (by rw [encs_length, hz1, Nat.mul_one]) (cells_C hnews rfl) (by omega) (by omega) (by rw [hz2]; exact growslice_fits (by omega) (by omega))
  have hge := grownCap_ge W (olds.length + news.length) olds.length e
  have hcm : grownCap W (olds.length + news.length) olds.length e ≤ maxLen := grownCap_le_maxLen W (olds.length + news.length) olds.length e (by simp only [maxLen]; omega)
  refine wpList_plain hgd fun K hK => ?_
  unfold Oper.wp execOp
  simp only [ho, resolve, invoke, builtin, Sem.run_bind, Sem.run_pure, Result.andThen_ok, List.map_toArray, List.map_cons, List.map_nil, hs, hx, hr]
  refine hK _ _ (h _ _ (Kd.R_of_own ?_ (fun _ _ => trivial)) ?_)
  · have hl2 : (olds ++ news).length = olds.length + news.length := List.length_append
    rw [hl2]
    refine ⟨by rw [encs_length, hl2, Nat.mul_one], .inr ⟨W.heap.size, _, _, rfl, hbase, heap_alloc_new W.drew _, hge, hcm, ?_, ?_⟩⟩
    · have hz1 : (Value.int IntKind.u8 0).cells.size = 1 := rfl
      simp only [Array.size_append, List.size_toArray, size_zeroCells, hz1, encs_length]
      omega
    · simp only [Array.toList_append, List.append_assoc]
      rw [← List.append_assoc, encs_append]
      have e1 : (encs (Value.int .u8) olds ++ encs (Value.int .u8) news).length = (olds.length + news.length) * 1 := by rw [List.length_append, encs_length, encs_length, Nat.mul_one]
      rw [← e1]
      exact List.take_left
  · exact (HB.trans ⟨rfl, rfl, rfl, Nat.le_refl _, fun _ _ => rfl⟩ : Below base w0 W.drew).alloc hbase _
end
theorem infoB : (Tryd.prog.info? 5).map (fun i => (i.zero, i.size, i.bytes)) = some (some (.int .u8 0), 1, 1) := by kernel_rfl
theorem conv_drewN (w : World) (k : Nat) (C : Array Value) (n c : Nat) : (convert 22 22 (.slice (some ⟨w.heap.size, 0, none⟩) n c)).run Tryd.prog ((w.drewN k).alloc (.cells C 5)) = .ok (.slice (some ⟨w.heap.size, 0, none⟩) n c) ((w.drewN k).alloc (.cells C 5 (C.size, C.size + 1))) :=
  Lib.run_convert_bytes_const (P := Tryd.prog) (w.drewN k) 22 5 C n c Tryd.underlying22 Tryd.underlying5
/-- Is there a letter at a place? (hunt's own function.) -/
theorem word_calls {w : World} {bl : Nat} {A : Option Addr} {c : Nat} {t : List Int} (h : w.cell? ⟨bl, 0, none⟩ = some (.slice A t.length c)) (hr : Kd.C (Kd.int .u8) w A t.length t) (hc : t.length ≤ c) (hu : ∀ i, 0 ≤ rd t i ∧ rd t i ≤ 255) (i : Int) :
    Calls Tryd.prog 28 #[.int .i64 i, .pointer (some ⟨bl, 0, none⟩)] w fun e w' => e = .returned (.bool (isW t i)) ∧ Drawn0 w w' := by
  by_cases h0 : 0 ≤ i
  · by_cases h1 : i < t.length
    · obtain ⟨ad, rfl, hx⟩ := Kd.at_int hr i h0 h1
      obtain ⟨r, hcl⟩ := class_all (rd t i) false (hu i)
      have e : isW t i = (r == 2) := by
        unfold isW
        rw [decide_eq_true h0, decide_eq_true h1, hcl]
        rfl
      rw [e]
      have HC := Aside0.mk hcl
      have q1 : (0 ≤ i) = True := eq_true h0
      have q2 : (i < (t.length : Int)) = True := eq_true h1
      clear hcl e
      go_enter Tryd.func28, Tryd.ntmps28
      go_wp2_with (go_at_call 20; (with_reducible refine (X.class_Of.calls 1 (rd t i) false r _ HC.out).mono ?_); rintro e w' ⟨rfl, ⟨nd, rfl⟩⟩)
      exact bodyPost_ret (v := .bool (r == 2)) (by simp [results, Tryd.results28, go_sem]) rfl ⟨rfl, ⟨_, rfl⟩⟩
    · have e : isW t i = false := by unfold isW; rw [decide_eq_false h1]; simp
      rw [e]
      have q1 : (0 ≤ i) = True := eq_true h0
      have q2 : (i < (t.length : Int)) = False := eq_false h1
      go_enter Tryd.func28, Tryd.ntmps28
      go_wp2
      exact bodyPost_ret (v := .bool false) (by simp [results, Tryd.results28, go_sem]) rfl ⟨rfl, Drawn0.refl _⟩
  · have e : isW t i = false := by unfold isW; rw [decide_eq_false h0]; simp
    rw [e]
    have q1 : (0 ≤ i) = False := eq_false h0
    go_enter Tryd.func28, Tryd.ntmps28
    go_wp2
    exact bodyPost_ret (v := .bool false) (by simp [results, Tryd.results28, go_sem]) rfl ⟨rfl, Drawn0.refl _⟩
/-- From a place on: where the line's next word stands. -/
def goU (t : List Int) : Nat → Nat → Option Nat
  | 0, _ => none
  | d + 1, a => if a < t.length then (if isW t a = true then some a else if rd t a = 10 then none else goU t d (a + 1)) else none
/-- A word's beginning, from one of its places back. -/
def backU (t : List Int) : Nat → Nat
  | 0 => 0
  | a + 1 => if isW t a = true then backU t a else a + 1
/-- A word's end. -/
def endU (t : List Int) : Nat → Nat → Nat
  | 0, b => b
  | d + 1, b => if isW t b = true then endU t d (b + 1) else b
def wordU (t : List Int) (a : Nat) : List Int := (t.take (endU t (t.length - a) a)).drop (backU t a)
def finU (q : List Int) : List Int × Int := if ([92, 60] ++ q ++ [92, 62]).length > 256 then ([], 1) else ([92, 60] ++ q ++ [92, 62], 0)
/-- What Under comes to. -/
def underV (t : List Int) (p : Int) : List Int × Int :=
  if p < 0 ∨ p > t.length then ([], 2)
  else match goU t (t.length - p.toNat + 1) p.toNat with
    | none => ([], 120)
    | some a => finU (quoteV (wordU t a))
theorem goU_lt {t : List Int} : ∀ (d p a : Nat), goU t d p = some a → p ≤ a ∧ a < t.length ∧ isW t a = true := by
  intro d
  induction d with
  | zero => intro p a h; cases h
  | succ d ih =>
    intro p a h
    unfold goU at h
    by_cases h1 : p < t.length
    · rw [if_pos h1] at h
      by_cases h2 : isW t p = true
      · rw [if_pos h2] at h
        injection h with h
        subst h
        exact ⟨Nat.le_refl _, h1, h2⟩
      · rw [if_neg h2] at h
        by_cases h3 : rd t p = 10
        · rw [if_pos h3] at h; cases h
        · rw [if_neg h3] at h
          have := ih _ _ h
          exact ⟨by omega, this.2⟩
    · rw [if_neg h1] at h; cases h
theorem backU_le (t : List Int) : ∀ a, backU t a ≤ a := by
  intro a
  induction a with
  | zero => exact Nat.le_refl _
  | succ a ih => unfold backU; split <;> omega
theorem endU_le (t : List Int) : ∀ d b, b ≤ endU t d b ∧ endU t d b ≤ b + d := by
  intro d
  induction d with
  | zero => intro b; exact ⟨Nat.le_refl _, Nat.le_refl _⟩
  | succ d ih => intro b; unfold endU; have := ih (b + 1); split <;> omega
theorem isW_out {t : List Int} {a : Nat} (h : t.length ≤ a) : isW t a = false := by
  unfold isW; rw [decide_eq_false (show ¬ (a : Int) < t.length by omega)]; simp
theorem backU_stop {t : List Int} {g : Nat} (h : isW t ((g : Int) - 1) = false) : backU t g = g := by
  cases g with
  | zero => rfl
  | succ g =>
    rw [show (((g + 1 : Nat) : Int) - 1) = (g : Int) from by omega] at h
    unfold backU
    rw [if_neg (by rw [h]; decide)]
theorem backU_go {t : List Int} {g : Nat} (h : isW t ((g : Int) - 1) = true) : ∃ k, g = k + 1 ∧ backU t g = backU t k := by
  cases g with
  | zero => unfold isW at h; simp at h
  | succ g =>
    rw [show (((g + 1 : Nat) : Int) - 1) = (g : Int) from by omega] at h
    exact ⟨g, rfl, by conv => lhs; unfold backU
                      rw [if_pos h]⟩
theorem endU_stop {t : List Int} {b : Nat} (h : isW t (b : Int) = false) : ∀ d, endU t d b = b := by
  intro d
  cases d with
  | zero => rfl
  | succ d => unfold endU; rw [if_neg (by rw [h]; decide)]
theorem isW_low (t : List Int) : isW t (-1) = false := by unfold isW; simp
set_option maxHeartbeats 4000000 in
set_option maxRecDepth 100000 in
theorem under_calls {w : World} {A : Option Addr} {c : Nat} {t : List Int} {p : Int} (hr : Kd.C (Kd.int .u8) w A t.length t) (hu : ∀ i, 0 ≤ rd t i ∧ rd t i ≤ 255) (hn : t.length ≤ 1000000000000) (hc : t.length ≤ c) :
    Calls Tryd.prog 15 #[.slice A t.length c, .int .i64 p] w fun e w' => ∃ v, e = .returned (.tuple #[v, .int .i64 (underV t p).2]) ∧ Below w.heap.size w w' ∧ (Kd.int .u8).R 5 w' w.heap.size (fun _ => True) v (underV t p).1 := by
  have HV := Aside0.mk (show underV t p = if p < 0 ∨ p > t.length then ([], 2) else match goU t (t.length - p.toNat + 1) p.toNat with | none => ([], 120) | some a => finU (quoteV (wordU t a)) from rfl)
  generalize underV t p = out at HV
  have H := Aside0.mk (And.intro hr hu)
  have HB0 := Aside0.mk (below_alloc (Below.refl w.heap.size w) (.cells #[.slice A t.length c] 22))
  have BX := Aside0.mk (blk_new w (.cells #[.slice A t.length c] 22))
  clear hr hu
  by_cases h1 : p < 0
  · rw [if_pos (.inl h1)] at HV
    have HV2 := HV.out
    subst HV2
    have g1 : (p < 0) = True := eq_true h1
    go_enter Tryd.func15, Tryd.ntmps15
    go_wp2
    exact bodyPost_ret (v := .tuple #[.slice none 0 0, .int .i64 2]) (by simp [results, Tryd.results15, go_sem]) rfl ⟨_, rfl, HB0.out, Kd.R_nil _ _ _ _ _⟩
  have g1 : (p < 0) = False := eq_false h1
  by_cases h2 : p > t.length
  · rw [if_pos (.inr h2)] at HV
    have HV2 := HV.out
    subst HV2
    have g2 : ((t.length : Int) < p) = True := eq_true h2
    go_enter Tryd.func15, Tryd.ntmps15
    go_wp2
    exact bodyPost_ret (v := .tuple #[.slice none 0 0, .int .i64 2]) (by simp [results, Tryd.results15, go_sem]) rfl ⟨_, rfl, HB0.out, Kd.R_nil _ _ _ _ _⟩
  have g2 : ((t.length : Int) < p) = False := eq_false h2
  rw [if_neg (by omega)] at HV
  obtain ⟨p, rfl⟩ : ∃ n : Nat, p = (n : Int) := ⟨p.toNat, by omega⟩
  rw [Int.toNat_natCast] at HV
  obtain ⟨gr, hgr⟩ : ∃ gr, goU t (t.length - p + 1) p = gr := ⟨_, rfl⟩
  rw [hgr] at HV
  have HG := Aside0.mk hgr
  clear hgr
  go_enter Tryd.func15, Tryd.ntmps15
  go_wp2
  generalize (w.alloc (.cells #[.slice A t.length c] 22)) = W0 at HB0 BX ⊢
  have cb := (blk_cell BX.out 0).trans rfl
  have HW : Aside0 (∀ (nd : Nat) (i : Int), Calls Tryd.prog 28 #[.int .i64 i, .pointer (some ⟨w.heap.size, 0, none⟩)] (W0.drewN nd) fun e w' => e = .returned (.bool (isW t i)) ∧ Drawn0 (W0.drewN nd) w') := ⟨fun nd i => word_calls ((blk_cell (blk_drewN BX.out nd) 0).trans rfl) (Kd.C_drewN (Kd.C_below H.out.1 HB0.out) nd) hc H.out.2 i⟩
  go_loopg [7] (t.length - p + 1) (fun g v7 wl => ∃ (a nd : Nat), p ≤ a ∧ a ≤ t.length ∧ t.length + 1 ≤ a + g ∧ v7 = .int .i64 a ∧ wl = W0.drewN nd ∧ goU t g a = gr)
  case atStart => exact ⟨p, 0, by omega, by omega, by omega, rfl, rfl, HG.out⟩
  case round =>
    obtain ⟨a, nd, ha1, ha2, ha3, rfl, rfl, hgr⟩ := hrel
    clear HG
    obtain ⟨d, rfl⟩ : ∃ d, gk = d + 1 := ⟨gk - 1, by omega⟩
    unfold goU at hgr
    by_cases hlt : a < t.length
    · rw [if_pos hlt] at hgr
      have q1 : ((a : Int) < (t.length : Int)) = True := eq_true (by omega)
      cases hw : isW t (a : Int) with
      | false =>
        rw [if_neg (by rw [hw]; decide)] at hgr
        have HC : Aside0 (∀ nd, _) := ⟨fun nd => HW.out nd (a : Int)⟩
        simp only [hw] at HC
        obtain ⟨ad, rfl, hx⟩ := Kd.at_int (Kd.C_below H.out.1 HB0.out) (a : Int) (by omega) (by omega)
        rw [Int.toNat_natCast] at hx
        have q2 : (0 ≤ (a : Int)) = True := eq_true (by omega)
        by_cases h3 : rd t a = 10
        · rw [if_pos h3] at hgr
          subst hgr
          have HV2 := HV.out
          simp only at HV2
          subst HV2
          rw [h3] at hx
          go_wp2_with (go_at_call 28; (with_reducible refine (HC.out _).mono ?_); rintro e w' ⟨rfl, ⟨nd2, rfl⟩⟩)
          exact bodyPost_ret (v := .tuple #[.slice none 0 0, .int .i64 120]) (by simp [results, Tryd.results15, go_sem]) rfl ⟨_, rfl, pw_below_drewN HB0.out _, Kd.R_nil _ _ _ _ _⟩
        · rw [if_neg h3] at hgr
          have q3 : (rd t (a : Int) = 10) = False := eq_false h3
          have q4 : (rd t (a : Int) == 10) = false := beq_eq_false_iff_ne.2 h3
          go_wp2_with (go_at_call 28; (with_reducible refine (HC.out _).mono ?_); rintro e w' ⟨rfl, ⟨nd2, rfl⟩⟩)
          go_roundg d
          case measure => omega
          case rel => exact ⟨a + 1, _, by omega, by omega, by omega, by go_num, rfl, hgr⟩
      | true =>
        rw [if_pos hw] at hgr
        subst hgr
        have HV2 := HV.out
        simp only at HV2
        clear HV
        have HV := Aside0.mk HV2
        clear HV2
        have HC : Aside0 (∀ nd, _) := ⟨fun nd => HW.out nd (a : Int)⟩
        simp only [hw] at HC
        have q3 : ((a : Int) = (t.length : Int)) = False := eq_false (by omega)
        have q4 : ((a : Int) == (t.length : Int)) = false := beq_eq_false_iff_ne.2 (by omega)
        have q5 : (a = t.length) = False := eq_false (by omega)
        go_wp2_with (go_at_call 28; (with_reducible refine (HC.out _).mono ?_); rintro e w' ⟨rfl, ⟨nd2, rfl⟩⟩)
        go_loopg [7] a (fun g v7 wl => ∃ nd, g ≤ a ∧ v7 = .int .i64 g ∧ wl = W0.drewN nd ∧ backU t g = backU t a)
        case atStart => exact ⟨_, by omega, rfl, rfl, rfl⟩
        case round =>
          obtain ⟨nd3, hg1, rfl, rfl, hbk⟩ := hrel
          cases hw2 : isW t ((gk : Int) - 1) with
          | true =>
            obtain ⟨g, rfl, hg⟩ := backU_go hw2
            rw [show (((g + 1 : Nat) : Int) - 1) = (g : Int) from by omega] at hw2
            have HC : Aside0 (∀ nd, _) := ⟨fun nd => HW.out nd (g : Int)⟩
            simp only [hw2] at HC
            go_wp2_with (go_at_call 28; (with_reducible refine (HC.out _).mono ?_); rintro e w' ⟨rfl, ⟨nd2, rfl⟩⟩)
            go_roundg g
            case measure => omega
            case rel => exact ⟨_, by omega, by go_num, rfl, by rw [← hg]; exact hbk⟩
          | false =>
            obtain ⟨g0, hg0⟩ : ∃ g0, g0 = gk := ⟨_, rfl⟩
            subst hg0
            have hbe : backU t a = g0 := by rw [← hbk]; exact backU_stop hw2
            have HC : Aside0 (∀ nd, _) := ⟨fun nd => HW.out nd ((g0 : Int) - 1)⟩
            simp only [hw2] at HC
            go_wp2_with (go_at_call 28; (with_reducible refine (HC.out _).mono ?_); rintro e w' ⟨rfl, ⟨nd2, rfl⟩⟩)
            go_loopg [8] (t.length - a) (fun g v8 wl => ∃ (b nd : Nat), b + g = t.length ∧ a ≤ b ∧ v8 = .int .i64 b ∧ wl = W0.drewN nd ∧ endU t g b = endU t (t.length - a) a)
            case atStart => exact ⟨a, _, by omega, by omega, rfl, rfl, rfl⟩
            case round =>
              obtain ⟨b, nd4, hb1, hb2, rfl, rfl, hen⟩ := hrel
              cases hw3 : isW t (b : Int) with
              | true =>
                obtain ⟨d2, rfl⟩ : ∃ d2, gk = d2 + 1 := by
                  cases gk with
                  | zero => rw [isW_out (show t.length ≤ b by omega)] at hw3; cases hw3
                  | succ d2 => exact ⟨d2, rfl⟩
                have HC : Aside0 (∀ nd, _) := ⟨fun nd => HW.out nd (b : Int)⟩
                simp only [hw3] at HC
                have hen2 : endU t (d2 + 1) b = endU t d2 (b + 1) := by
                  conv => lhs; unfold endU
                  rw [if_pos hw3]
                rw [hen2] at hen
                go_wp2_with (go_at_call 28; (with_reducible refine (HC.out _).mono ?_); rintro e w' ⟨rfl, ⟨nd2, rfl⟩⟩)
                go_roundg d2
                case measure => omega
                case rel => exact ⟨b + 1, _, by omega, by omega, by go_num, rfl, hen⟩
              | false =>
                have hbf : endU t (t.length - a) a = b := by rw [← hen]; exact endU_stop hw3 _
                have hab : a ≠ b := fun h => by rw [h, hw3] at hw; cases hw
                have HC : Aside0 (∀ nd, _) := ⟨fun nd => HW.out nd (b : Int)⟩
                simp only [hw3] at HC
                have HO := HV.out
                unfold wordU at HO
                rw [hbe, hbf] at HO
                have hl1 : ((t.take b).drop g0).length = b - g0 := by rw [List.length_drop, List.length_take]; omega
                obtain ⟨i0, hi0, hsz⟩ : ∃ i, Tryd.prog.info? 5 = some i ∧ i.size = 1 := ⟨_, rfl, rfl⟩
                have hcut := cut_mid (P := Tryd.prog) 22 5 .i64 .i64 Tryd.underlying22 hi0 1 hsz A t.length c (g0 : Int) (b : Int) (by omega) (by omega) (by omega) hc
                have hC1 := Kd.C_mid (c := c) (lo := g0) (hi := b) (Kd.C_below H.out.1 HB0.out) (by omega) (by omega) hc
                rw [Int.toNat_natCast, Int.toNat_natCast, ← hl1] at hcut
                have hu2 : ∀ i, 0 ≤ rd ((t.take b).drop g0) i ∧ rd ((t.take b).drop g0) i ≤ 255 := rd_mem (P := fun x => 0 ≤ x ∧ x ≤ 255) _ (fun x hx => mem_rd (P := fun x => 0 ≤ x ∧ x ≤ 255) t H.out.2 x (List.mem_of_mem_take (List.mem_of_mem_drop hx))) (by decide)
                generalize (t.take b).drop g0 = piece at hl1 hcut hC1 hu2 HO
                replace hC1 : (Kd.int .u8).C W0 (if c = g0 then A else Option.map (fun x => x.add (g0 * 1)) A) piece.length piece := hC1
                generalize (if c = g0 then A else Option.map (fun x => x.add (g0 * 1)) A) = A1 at hcut hC1
                have HQ : Aside0 (∀ k : Nat, Calls Tryd.prog 29 #[.slice A1 piece.length (c - g0)] ((W0.drewN k).alloc (.cells #[.int .u8 92, .int .u8 60] 5 (2, 3))) fun e w' => ∃ v, e = .returned v ∧ (Kd.int .u8).R 5 w' w.heap.size (fun _ => True) v (quoteV piece) ∧ Below w.heap.size w w' ∧ (Kd.int .u8).C w' (some ⟨W0.heap.size, 0, none⟩) 2 [92, 60]) := ⟨fun k => by
                  have hb0 : Below W0.heap.size W0 ((W0.drewN k).alloc (.cells #[.int .u8 92, .int .u8 60] 5 (2, 3))) := below_alloc (pw_below_drewN (Below.refl _ _) _) _
                  refine (quote_calls (Kd.C_below hC1 hb0) hu2 (by omega) (by omega)).mono ?_
                  rintro e w' ⟨v, rfl, h1, h2⟩
                  exact ⟨v, rfl, Kd.R_lower h1 (Nat.le_trans HB0.out.size hb0.size), below_step (below_step HB0.out hb0) h2, Kd.C_below (u8_C (xs := [92, 60]) (fr := (2, 3)) (blk_new (W0.drewN k) _) (by decide)) h2⟩⟩
                have cb2 : ∀ k : Nat, ((W0.drewN k).alloc (.cells #[.int .u8 92, .int .u8 60] 5 (2, 3))).cell? ⟨w.heap.size, 0, none⟩ = some (.slice A t.length c) := fun k => (blk_cell (blk_alloc (blk_drewN BX.out k) _) 0).trans rfl
                have hql := quoteV_len piece
                have hpl : 0 < piece.length ∧ piece.length ≤ 1000000000000 := by omega
                clear hl1
                generalize quoteV piece = q at HQ hql HO
                unfold finU at HO
                obtain ⟨L, hL⟩ : ∃ L, [92, 60] ++ q ++ [92, 62] = L := ⟨_, rfl⟩
                have hLl : L.length = q.length + 4 := by rw [← hL]; simp
                rw [hL] at HO
                have hsm : 0 + 1 + 1 + q.length + (⟨#[92, 62]⟩ : ByteArray).size ≤ 140737488355328 := by
                  have : (⟨#[92, 62]⟩ : ByteArray).size = 2 := rfl
                  omega
                have kc := fun (w_ : World) (C_ : Array Value) (n_ c_ : Nat) => Lib.run_convert_bytes_const (P := Tryd.prog) w_ 22 5 C_ n_ c_ Tryd.underlying22 Tryd.underlying5
                have kd := fun (w_ : World) (k_ : Nat) (C_ : Array Value) (n_ c_ : Nat) => conv_drewN w_ k_ C_ n_ c_
                by_cases hbig : L.length > 256
                · rw [if_pos hbig] at HO
                  subst HO
                  have z1 : (256 < (L.length : Int)) = True := eq_true (by omega)
                  clear hbig HV hLl
                  go_wp2_with (first
                    | (go_at_call 28; (with_reducible refine (HC.out _).mono ?_); rintro e w' ⟨rfl, ⟨nd2, rfl⟩⟩)
                    | (go_at_call 29; (with_reducible refine (HQ.out _).mono ?_); rintro e w2 ⟨vq, rfl, hq1, hq2, hq3⟩; have H2 := Aside0.mk (And.intro hq1 (And.intro hq2 hq3)); clear hq1 hq2 hq3; obtain ⟨Aq, cq, eq⟩ := Kd.R_slice H2.out.1; subst eq)
                    | (at_builtin; refine append_grow (w0 := w) w.heap.size rfl (.tmp 54) (.tmp 59) 22 5 rfl Tryd.underlying22 infoB ⟨W0.heap.size, 0, none⟩ [92, 60] q Aq 2 cq rfl rfl rfl H2.out.2.2 (Kd.R_reads' H2.out.1).2.2 (by omega) H2.out.2.1 H2.out.2.1.size (by simp only [List.length_cons, List.length_nil]; omega) ?_; intro v8 w8 hq1 hq2; have H8 := Aside0.mk (And.intro hq1 hq2); clear hq1 hq2)
                    | (at_builtin; refine print_append_str (w0 := w) w.heap.size rfl (.tmp 61) _ 22 9 5 rfl Tryd.underlying22 Tryd.underlying9 infoB v8 ([92, 60] ++ q) ⟨#[92, 62]⟩ rfl rfl (Kd.own_of_R H8.out.1) H8.out.2 H8.out.2.size (by simp only [List.length_append, List.length_cons, List.length_nil]; exact hsm) ?_; intro v9 w9 hq1 hq2 _; have H9 := Aside0.mk (And.intro (show (Kd.int .u8).R 5 w9 w.heap.size (fun _ => True) v9 L from by have h := Kd.R_of_own (enc := Value.int .u8) (h1 := fun _ => rfl) (ok := fun _ => True) hq1 (fun _ _ => trivial); rw [show [92, 60] ++ q ++ bytesOf ⟨#[92, 62]⟩ = L from hL] at h; exact h) hq2); clear hq1 hq2; obtain ⟨A9, c9, e9⟩ := Kd.R_slice H9.out.1; subst e9))
                  exact bodyPost_ret (v := .tuple #[.slice none 0 0, .int .i64 1]) (by simp [results, Tryd.results15, go_sem]) rfl ⟨_, rfl, H9.out.2, Kd.R_nil _ _ _ _ _⟩
                · rw [if_neg hbig] at HO
                  subst HO
                  have z1 : (256 < (L.length : Int)) = False := eq_false (by omega)
                  clear hbig HV hLl
                  go_wp2_with (first
                    | (go_at_call 28; (with_reducible refine (HC.out _).mono ?_); rintro e w' ⟨rfl, ⟨nd2, rfl⟩⟩)
                    | (go_at_call 29; (with_reducible refine (HQ.out _).mono ?_); rintro e w2 ⟨vq, rfl, hq1, hq2, hq3⟩; have H2 := Aside0.mk (And.intro hq1 (And.intro hq2 hq3)); clear hq1 hq2 hq3; obtain ⟨Aq, cq, eq⟩ := Kd.R_slice H2.out.1; subst eq)
                    | (at_builtin; refine append_grow (w0 := w) w.heap.size rfl (.tmp 54) (.tmp 59) 22 5 rfl Tryd.underlying22 infoB ⟨W0.heap.size, 0, none⟩ [92, 60] q Aq 2 cq rfl rfl rfl H2.out.2.2 (Kd.R_reads' H2.out.1).2.2 (by omega) H2.out.2.1 H2.out.2.1.size (by simp only [List.length_cons, List.length_nil]; omega) ?_; intro v8 w8 hq1 hq2; have H8 := Aside0.mk (And.intro hq1 hq2); clear hq1 hq2)
                    | (at_builtin; refine print_append_str (w0 := w) w.heap.size rfl (.tmp 61) _ 22 9 5 rfl Tryd.underlying22 Tryd.underlying9 infoB v8 ([92, 60] ++ q) ⟨#[92, 62]⟩ rfl rfl (Kd.own_of_R H8.out.1) H8.out.2 H8.out.2.size (by simp only [List.length_append, List.length_cons, List.length_nil]; exact hsm) ?_; intro v9 w9 hq1 hq2 _; have H9 := Aside0.mk (And.intro (show (Kd.int .u8).R 5 w9 w.heap.size (fun _ => True) v9 L from by have h := Kd.R_of_own (enc := Value.int .u8) (h1 := fun _ => rfl) (ok := fun _ => True) hq1 (fun _ _ => trivial); rw [show [92, 60] ++ q ++ bytesOf ⟨#[92, 62]⟩ = L from hL] at h; exact h) hq2); clear hq1 hq2; obtain ⟨A9, c9, e9⟩ := Kd.R_slice H9.out.1; subst e9))
                  exact bodyPost_ret (v := .tuple #[.slice A9 L.length c9, .int .i64 0]) (by simp [results, Tryd.results15, go_sem]) rfl ⟨_, rfl, H9.out.2, H9.out.1⟩
    · rw [if_neg hlt] at hgr
      have hae : a = t.length := by omega
      subst hgr
      subst hae
      have HV2 := HV.out
      simp only at HV2
      subst HV2
      go_wp2
      exact bodyPost_ret (v := .tuple #[.slice none 0 0, .int .i64 120]) (by simp [results, Tryd.results15, go_sem]) rfl ⟨_, rfl, pw_below_drewN HB0.out _, Kd.R_nil _ _ _ _ _⟩
end Go.Proofs.YtffpkldphkmjmaaDoor.PT
end
section
namespace Go.Proofs.YtffpkldphkmjmaaDoor.PT
open Go.RowKit Go.Proofs.YtffpkldphkmjmaaDoorW.PrintWords Go.Proofs.YtffpkldphkmjmaaDoorW.PrintMore
set_option linter.unusedVariables false
theorem len_snoc (l : List Int) (x : Int) : (l ++ [x]).length = l.length + 1 := by simp
theorem special_true {b : Int} (h : special b = true) : b = 92 ∨ b = 46 ∨ b = 42 ∨ b = 91 ∨ b = 93 ∨ b = 94 ∨ b = 36 := by
  unfold special at h
  simp only [Bool.or_eq_true, beq_iff_eq] at h
  omega
theorem special_false {b : Int} (h : special b = false) : b ≠ 92 ∧ b ≠ 46 ∧ b ≠ 42 ∧ b ≠ 91 ∧ b ≠ 93 ∧ b ≠ 94 ∧ b ≠ 36 := by
  unfold special at h
  simp only [Bool.or_eq_false_iff, beq_eq_false_iff_ne] at h
  omega
set_option maxHeartbeats 8000000 in
set_option maxRecDepth 100000 in
theorem rquote_calls {w : World} {A : Option Addr} {c : Nat} {s : List Int} (hr : Kd.C (Kd.int .u8) w A s.length s) (hu : ∀ i, 0 ≤ rd s i ∧ rd s i ≤ 255) (hc : s.length ≤ c) (hn : s.length ≤ 1000000000000) :
    Calls Tryd.prog 21 #[.slice A s.length c] w fun e w' => ∃ v, e = .returned v ∧ (Kd.int .u8).R 5 w' w.heap.size (fun _ => True) v (quoteV s) ∧ Below w.heap.size w w' := by
  have H := Aside0.mk (And.intro hr hu)
  clear hr hu
  have hw2 : wrap64 (2 * (s.length : Int)) = 2 * (s.length : Int) := by unfold wrap64; omega
  obtain ⟨i0, hi0, hz0, hs0, hb0⟩ : ∃ i, Tryd.prog.info? 5 = some i ∧ i.zero = some (.int .u8 0) ∧ i.size = 1 ∧ i.bytes = 1 := ⟨_, rfl, rfl, rfl, rfl⟩
  obtain ⟨W1, hmk, hown, hgr⟩ := run_make_own (P := Tryd.prog) w w.heap.size 22 5 i0 (.int .u8 0) 1 Tryd.underlying22 hi0 hz0 hs0 .i64 .i64 (2 * s.length) (by rw [hb0]; omega) (by simp only [maxLen]; omega) (Nat.le_refl _)
  rw [show (((2 * s.length : Nat)) : Int) = 2 * (s.length : Int) from by omega] at hmk
  have HA0 := Aside0.mk (And.intro (show (Kd.int .u8).R 5 W1 w.heap.size (fun _ => True) (.slice (some ⟨w.heap.size, 0, none⟩) 0 (2 * s.length)) (quoteV (s.take 0)) from Kd.R_of_own (enc := Value.int .u8) (h1 := fun _ => rfl) hown (fun _ _ => trivial)) (show Below w.heap.size w W1 from (Below.refl _ w).grown hgr (Nat.le_refl _) (fun k hk => by cases hk)))
  clear hown hgr hi0 hz0 hs0 hb0
  go_enter Tryd.func21, Tryd.ntmps21
  go_wp2
  go_loopg [3, 4] s.length (fun g v3 v4 wl => ∃ k : Nat, k + g = s.length ∧ v4 = .int .i64 k ∧ Aside0 ((Kd.int .u8).R 5 wl w.heap.size (fun _ => True) v3 (quoteV (s.take k)) ∧ Below w.heap.size w wl))
  case atStart => exact ⟨0, by omega, rfl, HA0⟩
  case round =>
    clear HA0 hmk
    obtain ⟨k, hk, rfl, HA⟩ := hrel
    obtain ⟨A0, c0, e0⟩ := Kd.R_slice HA.out.1
    subst e0
    have hl := (quoteV_len (s.take k)).2
    rw [List.length_take] at hl
    cases gk with
    | zero =>
      have hke : k = s.length := by omega
      subst hke
      have HE := Aside0.mk (show quoteV (s.take s.length) = quoteV s by rw [List.take_length])
      generalize quoteV (s.take s.length) = acc at HA HE hl
      go_wp2
      exact bodyPost_ret (v := .slice A0 acc.length c0) (by simp [results, Tryd.results21, go_sem]) rfl ⟨_, rfl, by rw [← HE.out]; exact HA.out.1, HA.out.2⟩
    | succ g =>
      have hlt : k < s.length := by omega
      obtain ⟨ad, rfl, hx0⟩ := Kd.at_int H.out.1 (k : Int) (by omega) (by omega)
      rw [Int.toNat_natCast] at hx0
      have hx := pw_cell_below HA.out.2 hx0
      have HT := Aside0.mk (quoteV_take hlt)
      generalize rd s (k : Int) = b at hx hx0 HT
      generalize quoteV (s.take k) = acc at HA hl HT
      have q1 : decide ((k : Int) < (s.length : Int)) = true := decide_eq_true (by omega)
      have q2 : (0 ≤ (k : Int)) = True := eq_true (by omega)
      have q3 : ((k : Int) < (s.length : Int)) = True := eq_true (by omega)
      cases hs : special b with
      | true =>
        have HT2 := Aside0.mk (show quoteV (s.take (k + 1)) = acc ++ [92] ++ [b] by rw [HT.out, if_pos hs]; simp)
        clear HT
        rcases special_true hs with rfl | rfl | rfl | rfl | rfl | rfl | rfl
        · go_wp2_with (first
            | (at_builtin; refine Kd.R_append (Kd.int .u8) (w0 := w) w.heap.size rfl (.tmp 27) (.tmp 28) 22 5 (.int .u8 0) 1 rfl Tryd.underlying22 infoB rfl (by decide) (by decide) (.slice A0 acc.length c0) acc 92 [.int .u8 92] (fun _ => True) (fun _ => False) rfl rfl rfl (fun _ hk => hk.elim) (fun _ _ => trivial) HA.out.1 HA.out.2 HA.out.2.size (by first | omega | (simp only [List.length_append, List.length_singleton]; omega)) ?_; intro v1 w1 hR hB hG hat; have H1 := Aside0.mk (And.intro hR hB); clear hR hB hG hat; obtain ⟨A1, c1, e1⟩ := Kd.R_slice H1.out.1; rw [len_snoc] at e1; subst e1; have hx1 := pw_cell_below H1.out.2 hx0)
            | (at_builtin; refine Kd.R_append (Kd.int .u8) (w0 := w) w.heap.size rfl (.tmp 30) (.tmp 35) 22 5 (.int .u8 0) 1 rfl Tryd.underlying22 infoB rfl (by decide) (by decide) (.slice A1 (acc.length + 1) c1) (acc ++ [92]) 92 [.int .u8 92] (fun _ => True) (fun _ => False) rfl rfl rfl (fun _ hk => hk.elim) (fun _ _ => trivial) H1.out.1 H1.out.2 H1.out.2.size (by first | omega | (simp only [List.length_append, List.length_singleton]; omega)) ?_; intro v2 w2 hR hB hG hat; have H2 := Aside0.mk (And.intro hR hB); clear hR hB hG hat; obtain ⟨A2, c2, e2⟩ := Kd.R_slice H2.out.1; subst e2))
          go_roundg g
          case measure => omega
          case rel => exact ⟨k + 1, by omega, by go_num, ⟨by have h := H2.out.1; rw [len_snoc, len_snoc] at h; rw [HT2.out]; exact h, H2.out.2⟩⟩
        · go_wp2_with (first
            | (at_builtin; refine Kd.R_append (Kd.int .u8) (w0 := w) w.heap.size rfl (.tmp 27) (.tmp 28) 22 5 (.int .u8 0) 1 rfl Tryd.underlying22 infoB rfl (by decide) (by decide) (.slice A0 acc.length c0) acc 92 [.int .u8 92] (fun _ => True) (fun _ => False) rfl rfl rfl (fun _ hk => hk.elim) (fun _ _ => trivial) HA.out.1 HA.out.2 HA.out.2.size (by first | omega | (simp only [List.length_append, List.length_singleton]; omega)) ?_; intro v1 w1 hR hB hG hat; have H1 := Aside0.mk (And.intro hR hB); clear hR hB hG hat; obtain ⟨A1, c1, e1⟩ := Kd.R_slice H1.out.1; rw [len_snoc] at e1; subst e1; have hx1 := pw_cell_below H1.out.2 hx0)
            | (at_builtin; refine Kd.R_append (Kd.int .u8) (w0 := w) w.heap.size rfl (.tmp 30) (.tmp 35) 22 5 (.int .u8 0) 1 rfl Tryd.underlying22 infoB rfl (by decide) (by decide) (.slice A1 (acc.length + 1) c1) (acc ++ [92]) 46 [.int .u8 46] (fun _ => True) (fun _ => False) rfl rfl rfl (fun _ hk => hk.elim) (fun _ _ => trivial) H1.out.1 H1.out.2 H1.out.2.size (by first | omega | (simp only [List.length_append, List.length_singleton]; omega)) ?_; intro v2 w2 hR hB hG hat; have H2 := Aside0.mk (And.intro hR hB); clear hR hB hG hat; obtain ⟨A2, c2, e2⟩ := Kd.R_slice H2.out.1; subst e2))
          go_roundg g
          case measure => omega
          case rel => exact ⟨k + 1, by omega, by go_num, ⟨by have h := H2.out.1; rw [len_snoc, len_snoc] at h; rw [HT2.out]; exact h, H2.out.2⟩⟩
        · go_wp2_with (first
            | (at_builtin; refine Kd.R_append (Kd.int .u8) (w0 := w) w.heap.size rfl (.tmp 27) (.tmp 28) 22 5 (.int .u8 0) 1 rfl Tryd.underlying22 infoB rfl (by decide) (by decide) (.slice A0 acc.length c0) acc 92 [.int .u8 92] (fun _ => True) (fun _ => False) rfl rfl rfl (fun _ hk => hk.elim) (fun _ _ => trivial) HA.out.1 HA.out.2 HA.out.2.size (by first | omega | (simp only [List.length_append, List.length_singleton]; omega)) ?_; intro v1 w1 hR hB hG hat; have H1 := Aside0.mk (And.intro hR hB); clear hR hB hG hat; obtain ⟨A1, c1, e1⟩ := Kd.R_slice H1.out.1; rw [len_snoc] at e1; subst e1; have hx1 := pw_cell_below H1.out.2 hx0)
            | (at_builtin; refine Kd.R_append (Kd.int .u8) (w0 := w) w.heap.size rfl (.tmp 30) (.tmp 35) 22 5 (.int .u8 0) 1 rfl Tryd.underlying22 infoB rfl (by decide) (by decide) (.slice A1 (acc.length + 1) c1) (acc ++ [92]) 42 [.int .u8 42] (fun _ => True) (fun _ => False) rfl rfl rfl (fun _ hk => hk.elim) (fun _ _ => trivial) H1.out.1 H1.out.2 H1.out.2.size (by first | omega | (simp only [List.length_append, List.length_singleton]; omega)) ?_; intro v2 w2 hR hB hG hat; have H2 := Aside0.mk (And.intro hR hB); clear hR hB hG hat; obtain ⟨A2, c2, e2⟩ := Kd.R_slice H2.out.1; subst e2))
          go_roundg g
          case measure => omega
          case rel => exact ⟨k + 1, by omega, by go_num, ⟨by have h := H2.out.1; rw [len_snoc, len_snoc] at h; rw [HT2.out]; exact h, H2.out.2⟩⟩
        · go_wp2_with (first
            | (at_builtin; refine Kd.R_append (Kd.int .u8) (w0 := w) w.heap.size rfl (.tmp 27) (.tmp 28) 22 5 (.int .u8 0) 1 rfl Tryd.underlying22 infoB rfl (by decide) (by decide) (.slice A0 acc.length c0) acc 92 [.int .u8 92] (fun _ => True) (fun _ => False) rfl rfl rfl (fun _ hk => hk.elim) (fun _ _ => trivial) HA.out.1 HA.out.2 HA.out.2.size (by first | omega | (simp only [List.length_append, List.length_singleton]; omega)) ?_; intro v1 w1 hR hB hG hat; have H1 := Aside0.mk (And.intro hR hB); clear hR hB hG hat; obtain ⟨A1, c1, e1⟩ := Kd.R_slice H1.out.1; rw [len_snoc] at e1; subst e1; have hx1 := pw_cell_below H1.out.2 hx0)
            | (at_builtin; refine Kd.R_append (Kd.int .u8) (w0 := w) w.heap.size rfl (.tmp 30) (.tmp 35) 22 5 (.int .u8 0) 1 rfl Tryd.underlying22 infoB rfl (by decide) (by decide) (.slice A1 (acc.length + 1) c1) (acc ++ [92]) 91 [.int .u8 91] (fun _ => True) (fun _ => False) rfl rfl rfl (fun _ hk => hk.elim) (fun _ _ => trivial) H1.out.1 H1.out.2 H1.out.2.size (by first | omega | (simp only [List.length_append, List.length_singleton]; omega)) ?_; intro v2 w2 hR hB hG hat; have H2 := Aside0.mk (And.intro hR hB); clear hR hB hG hat; obtain ⟨A2, c2, e2⟩ := Kd.R_slice H2.out.1; subst e2))
          go_roundg g
          case measure => omega
          case rel => exact ⟨k + 1, by omega, by go_num, ⟨by have h := H2.out.1; rw [len_snoc, len_snoc] at h; rw [HT2.out]; exact h, H2.out.2⟩⟩
        · go_wp2_with (first
            | (at_builtin; refine Kd.R_append (Kd.int .u8) (w0 := w) w.heap.size rfl (.tmp 27) (.tmp 28) 22 5 (.int .u8 0) 1 rfl Tryd.underlying22 infoB rfl (by decide) (by decide) (.slice A0 acc.length c0) acc 92 [.int .u8 92] (fun _ => True) (fun _ => False) rfl rfl rfl (fun _ hk => hk.elim) (fun _ _ => trivial) HA.out.1 HA.out.2 HA.out.2.size (by first | omega | (simp only [List.length_append, List.length_singleton]; omega)) ?_; intro v1 w1 hR hB hG hat; have H1 := Aside0.mk (And.intro hR hB); clear hR hB hG hat; obtain ⟨A1, c1, e1⟩ := Kd.R_slice H1.out.1; rw [len_snoc] at e1; subst e1; have hx1 := pw_cell_below H1.out.2 hx0)
            | (at_builtin; refine Kd.R_append (Kd.int .u8) (w0 := w) w.heap.size rfl (.tmp 30) (.tmp 35) 22 5 (.int .u8 0) 1 rfl Tryd.underlying22 infoB rfl (by decide) (by decide) (.slice A1 (acc.length + 1) c1) (acc ++ [92]) 93 [.int .u8 93] (fun _ => True) (fun _ => False) rfl rfl rfl (fun _ hk => hk.elim) (fun _ _ => trivial) H1.out.1 H1.out.2 H1.out.2.size (by first | omega | (simp only [List.length_append, List.length_singleton]; omega)) ?_; intro v2 w2 hR hB hG hat; have H2 := Aside0.mk (And.intro hR hB); clear hR hB hG hat; obtain ⟨A2, c2, e2⟩ := Kd.R_slice H2.out.1; subst e2))
          go_roundg g
          case measure => omega
          case rel => exact ⟨k + 1, by omega, by go_num, ⟨by have h := H2.out.1; rw [len_snoc, len_snoc] at h; rw [HT2.out]; exact h, H2.out.2⟩⟩
        · go_wp2_with (first
            | (at_builtin; refine Kd.R_append (Kd.int .u8) (w0 := w) w.heap.size rfl (.tmp 27) (.tmp 28) 22 5 (.int .u8 0) 1 rfl Tryd.underlying22 infoB rfl (by decide) (by decide) (.slice A0 acc.length c0) acc 92 [.int .u8 92] (fun _ => True) (fun _ => False) rfl rfl rfl (fun _ hk => hk.elim) (fun _ _ => trivial) HA.out.1 HA.out.2 HA.out.2.size (by first | omega | (simp only [List.length_append, List.length_singleton]; omega)) ?_; intro v1 w1 hR hB hG hat; have H1 := Aside0.mk (And.intro hR hB); clear hR hB hG hat; obtain ⟨A1, c1, e1⟩ := Kd.R_slice H1.out.1; rw [len_snoc] at e1; subst e1; have hx1 := pw_cell_below H1.out.2 hx0)
            | (at_builtin; refine Kd.R_append (Kd.int .u8) (w0 := w) w.heap.size rfl (.tmp 30) (.tmp 35) 22 5 (.int .u8 0) 1 rfl Tryd.underlying22 infoB rfl (by decide) (by decide) (.slice A1 (acc.length + 1) c1) (acc ++ [92]) 94 [.int .u8 94] (fun _ => True) (fun _ => False) rfl rfl rfl (fun _ hk => hk.elim) (fun _ _ => trivial) H1.out.1 H1.out.2 H1.out.2.size (by first | omega | (simp only [List.length_append, List.length_singleton]; omega)) ?_; intro v2 w2 hR hB hG hat; have H2 := Aside0.mk (And.intro hR hB); clear hR hB hG hat; obtain ⟨A2, c2, e2⟩ := Kd.R_slice H2.out.1; subst e2))
          go_roundg g
          case measure => omega
          case rel => exact ⟨k + 1, by omega, by go_num, ⟨by have h := H2.out.1; rw [len_snoc, len_snoc] at h; rw [HT2.out]; exact h, H2.out.2⟩⟩
        · go_wp2_with (first
            | (at_builtin; refine Kd.R_append (Kd.int .u8) (w0 := w) w.heap.size rfl (.tmp 27) (.tmp 28) 22 5 (.int .u8 0) 1 rfl Tryd.underlying22 infoB rfl (by decide) (by decide) (.slice A0 acc.length c0) acc 92 [.int .u8 92] (fun _ => True) (fun _ => False) rfl rfl rfl (fun _ hk => hk.elim) (fun _ _ => trivial) HA.out.1 HA.out.2 HA.out.2.size (by first | omega | (simp only [List.length_append, List.length_singleton]; omega)) ?_; intro v1 w1 hR hB hG hat; have H1 := Aside0.mk (And.intro hR hB); clear hR hB hG hat; obtain ⟨A1, c1, e1⟩ := Kd.R_slice H1.out.1; rw [len_snoc] at e1; subst e1; have hx1 := pw_cell_below H1.out.2 hx0)
            | (at_builtin; refine Kd.R_append (Kd.int .u8) (w0 := w) w.heap.size rfl (.tmp 30) (.tmp 35) 22 5 (.int .u8 0) 1 rfl Tryd.underlying22 infoB rfl (by decide) (by decide) (.slice A1 (acc.length + 1) c1) (acc ++ [92]) 36 [.int .u8 36] (fun _ => True) (fun _ => False) rfl rfl rfl (fun _ hk => hk.elim) (fun _ _ => trivial) H1.out.1 H1.out.2 H1.out.2.size (by first | omega | (simp only [List.length_append, List.length_singleton]; omega)) ?_; intro v2 w2 hR hB hG hat; have H2 := Aside0.mk (And.intro hR hB); clear hR hB hG hat; obtain ⟨A2, c2, e2⟩ := Kd.R_slice H2.out.1; subst e2))
          go_roundg g
          case measure => omega
          case rel => exact ⟨k + 1, by omega, by go_num, ⟨by have h := H2.out.1; rw [len_snoc, len_snoc] at h; rw [HT2.out]; exact h, H2.out.2⟩⟩
      | false =>
        have HT2 := Aside0.mk (show quoteV (s.take (k + 1)) = acc ++ [b] by rw [HT.out, if_neg (by rw [hs]; decide)])
        clear HT
        obtain ⟨n0, n1, n2, n3, n4, n5, n6⟩ := special_false hs
        have m0 : (b == 92) = false := beq_eq_false_iff_ne.2 n0
        replace n0 : (b = 92) = False := eq_false n0
        have m1 : (b == 46) = false := beq_eq_false_iff_ne.2 n1
        replace n1 : (b = 46) = False := eq_false n1
        have m2 : (b == 42) = false := beq_eq_false_iff_ne.2 n2
        replace n2 : (b = 42) = False := eq_false n2
        have m3 : (b == 91) = false := beq_eq_false_iff_ne.2 n3
        replace n3 : (b = 91) = False := eq_false n3
        have m4 : (b == 93) = false := beq_eq_false_iff_ne.2 n4
        replace n4 : (b = 93) = False := eq_false n4
        have m5 : (b == 94) = false := beq_eq_false_iff_ne.2 n5
        replace n5 : (b = 94) = False := eq_false n5
        have m6 : (b == 36) = false := beq_eq_false_iff_ne.2 n6
        replace n6 : (b = 36) = False := eq_false n6
        go_wp2_with ((at_builtin; refine Kd.R_append (Kd.int .u8) (w0 := w) w.heap.size rfl (.tmp 30) (.tmp 35) 22 5 (.int .u8 0) 1 rfl Tryd.underlying22 infoB rfl (by decide) (by decide) (.slice A0 acc.length c0) acc b [.int .u8 b] (fun _ => True) (fun _ => False) rfl rfl rfl (fun _ hk => hk.elim) (fun _ _ => trivial) HA.out.1 HA.out.2 HA.out.2.size (by first | omega | (simp only [List.length_append, List.length_singleton]; omega)) ?_; intro v1 w1 hR hB hG hat; have H1 := Aside0.mk (And.intro hR hB); clear hR hB hG hat; obtain ⟨A1, c1, e1⟩ := Kd.R_slice H1.out.1; subst e1))
        go_roundg g
        case measure => omega
        case rel => exact ⟨k + 1, by omega, by go_num, ⟨by have h := H1.out.1; rw [len_snoc] at h; rw [HT2.out]; exact h, H1.out.2⟩⟩
end Go.Proofs.YtffpkldphkmjmaaDoor.PT
end
section
namespace Go.Proofs.YtffpkldphkmjmaaDoor.PT
open Go.RowKit Go.Proofs.YtffpkldphkmjmaaDoorW.PrintWords Go.Proofs.YtffpkldphkmjmaaDoorW.PrintMore
set_option linter.unusedVariables false
set_option linter.unusedSimpArgs false
theorem rclass {a : Int} (h : 0 ≤ a ∧ a ≤ 255) : ∃ r, X.quoinref06_Of.f 1 a false = some r ∧ ∀ (t : List Int) (i : Int), rd t i = a → 0 ≤ i → i < t.length → isW t i = (r == 2) := by
  obtain ⟨r, hr⟩ := class_all a false h
  have h3 : ∀ k : Fin 256, X.quoinref06_Of.f 1 (k.val : Int) false = X.class_Of.f 1 (k.val : Int) false := by decide +kernel
  have h4 : X.quoinref06_Of.f 1 a false = X.class_Of.f 1 a false := by
    obtain ⟨k, rfl⟩ := Int.eq_ofNat_of_zero_le h.1
    exact h3 ⟨k, by omega⟩
  refine ⟨r, h4.trans hr, fun t i e h0 h1 => ?_⟩
  unfold isW
  rw [decide_eq_true h0, decide_eq_true h1, e, hr]
  rfl
theorem isW_ten {t : List Int} {i : Int} (h : rd t i = 10) : isW t i = false := by
  unfold isW
  rw [h, show X.class_Of.f 1 10 false = some 3 from by decide +kernel]
  simp
theorem endU_back {t : List Int} : ∀ {a : Nat}, a < t.length → endU t (t.length - a) a = endU t (t.length - backU t a) (backU t a) := by
  intro a
  induction a with
  | zero => intro _; rfl
  | succ a ih =>
    intro h
    by_cases hw : isW t (a : Int) = true
    · have e : backU t (a + 1) = backU t a := by conv => lhs; unfold backU
                                                 rw [if_pos hw]
      rw [e, ← ih (by omega)]
      conv => rhs; rw [show t.length - a = (t.length - (a + 1)) + 1 from by omega]; unfold endU
      rw [if_pos hw]
    · have e : backU t (a + 1) = a + 1 := by conv => lhs; unfold backU
                                             rw [if_neg hw]
      rw [e]
theorem endU_pos {t : List Int} {a : Nat} (h : a < t.length) (hw : isW t (a : Int) = true) : a < endU t (t.length - a) a := by
  rw [show t.length - a = (t.length - (a + 1)) + 1 from by omega]
  unfold endU
  rw [if_pos hw]
  exact (endU_le t _ _).1
set_option maxHeartbeats 16000000 in
set_option maxRecDepth 100000 in
theorem runder_calls {w : World} {A : Option Addr} {c : Nat} {t : List Int} {p : Int} (hr : Kd.C (Kd.int .u8) w A t.length t) (hu : ∀ i, 0 ≤ rd t i ∧ rd t i ≤ 255) (hn : t.length ≤ 1000000000000) (hc : t.length ≤ c) :
    Calls Tryd.prog 14 #[.slice A t.length c, .int .i64 p] w fun e w' => ∃ v, e = .returned (.tuple #[v, .int .i64 (underV t p).2]) ∧ Below w.heap.size w w' ∧ (Kd.int .u8).R 5 w' w.heap.size (fun _ => True) v (underV t p).1 := by
  have HV := Aside0.mk (show underV t p = if p < 0 ∨ p > t.length then ([], 2) else match goU t (t.length - p.toNat + 1) p.toNat with | none => ([], 120) | some a => finU (quoteV (wordU t a)) from rfl)
  generalize underV t p = out at HV
  have H := Aside0.mk (And.intro hr hu)
  clear hr hu
  by_cases h1 : p < 0
  · rw [if_pos (.inl h1)] at HV
    have HV2 := HV.out
    subst HV2
    have g1 : (p < 0) = True := eq_true h1
    go_enter Tryd.func14, Tryd.ntmps14
    go_wp2
    exact bodyPost_ret (v := .tuple #[.slice none 0 0, .int .i64 2]) (by simp [results, Tryd.results14, go_sem]) rfl ⟨_, rfl, Below.refl _ _, Kd.R_nil _ _ _ _ _⟩
  have g1 : (p < 0) = False := eq_false h1
  by_cases h2 : p > t.length
  · rw [if_pos (.inr h2)] at HV
    have HV2 := HV.out
    subst HV2
    have g2 : ((t.length : Int) < p) = True := eq_true h2
    go_enter Tryd.func14, Tryd.ntmps14
    go_wp2
    exact bodyPost_ret (v := .tuple #[.slice none 0 0, .int .i64 2]) (by simp [results, Tryd.results14, go_sem]) rfl ⟨_, rfl, Below.refl _ _, Kd.R_nil _ _ _ _ _⟩
  have g2 : ((t.length : Int) < p) = False := eq_false h2
  rw [if_neg (by omega)] at HV
  obtain ⟨p, rfl⟩ : ∃ n : Nat, p = (n : Int) := ⟨p.toNat, by omega⟩
  rw [Int.toNat_natCast] at HV
  obtain ⟨gr, hgr⟩ : ∃ gr, goU t (t.length - p + 1) p = gr := ⟨_, rfl⟩
  rw [hgr] at HV
  have HG := Aside0.mk hgr
  clear hgr
  go_enter Tryd.func14, Tryd.ntmps14
  go_wp2
  go_loopg [6] (t.length - p + 1) (fun g v6 wl => ∃ (a nd : Nat), p ≤ a ∧ a ≤ t.length ∧ t.length + 1 ≤ a + g ∧ v6 = .int .i64 a ∧ wl = w.drewN nd ∧ goU t g a = gr)
  case atStart => exact ⟨p, 0, by omega, by omega, by omega, rfl, rfl, HG.out⟩
  case round =>
    obtain ⟨a, nd, ha1, ha2, ha3, rfl, rfl, hgr⟩ := hrel
    clear HG
    obtain ⟨d, rfl⟩ : ∃ d, gk = d + 1 := ⟨gk - 1, by omega⟩
    unfold goU at hgr
    by_cases hlt : a < t.length
    · rw [if_pos hlt] at hgr
      obtain ⟨ad, rfl, hx⟩ := Kd.at_int H.out.1 (a : Int) (by omega) (by omega)
      rw [Int.toNat_natCast] at hx
      obtain ⟨r, hrf, hrw⟩ := rclass (H.out.2 (a : Int))
      have hwr : isW t (a : Int) = (r == 2) := hrw t _ rfl (by omega) (by omega)
      have HC : Aside0 (∀ nd, _) := ⟨fun nd => X.quoinref06_Of.calls 1 (rd t (a : Int)) false r (w.drewN nd) hrf⟩
      clear hrf hrw
      have q2 : (0 ≤ (a : Int)) = True := eq_true (by omega)
      have q2b : ((a : Int) < (t.length : Int)) = True := eq_true (by omega)
      have z5 : ((a : Int) = (t.length : Int)) = False := eq_false (by omega)
      have z6 : ((a : Int) == (t.length : Int)) = false := beq_eq_false_iff_ne.2 (by omega)
      by_cases h3 : rd t (a : Int) = 10
      · rw [if_neg (by rw [isW_ten h3]; decide), if_pos h3] at hgr
        subst hgr
        have HV2 := HV.out
        simp only at HV2
        subst HV2
        rw [h3] at hx
        clear HC
        go_wp2
        exact bodyPost_ret (v := .tuple #[.slice none 0 0, .int .i64 120]) (by simp [results, Tryd.results14, go_sem]) rfl ⟨_, rfl, pw_below_drewN (Below.refl _ _) _, Kd.R_nil _ _ _ _ _⟩
      have n1 : (rd t (a : Int) = 10) = False := eq_false h3
      have n2 : (rd t (a : Int) == 10) = false := beq_eq_false_iff_ne.2 h3
      have n3 : (rd t (a : Int) != 10) = true := bne_iff_ne.2 h3
      by_cases hr2 : r = 2
      · subst hr2
        have hw : isW t (a : Int) = true := hwr
        rw [if_pos hw] at hgr
        subst hgr
        have HV2 := HV.out
        simp only at HV2
        clear HV
        have HV := Aside0.mk HV2
        clear HV2
        go_wp2_with (go_at_call 27; (with_reducible refine (HC.out _).mono ?_); rintro e w' ⟨rfl, ⟨nd2, rfl⟩⟩)
        clear HC hx hwr n1 n2 n3 h3
        go_loopg [6] a (fun g v6 wl => ∃ nd, g ≤ a ∧ v6 = .int .i64 g ∧ wl = w.drewN nd ∧ backU t g = backU t a)
        case atStart => exact ⟨_, by omega, rfl, rfl, rfl⟩
        case round =>
          obtain ⟨nd3, hg1, rfl, rfl, hbk⟩ := hrel
          cases gk with
          | zero =>
            have hbe : backU t a = 0 := by rw [← hbk]; rfl
            go_wp2
            go_loopg [7] (t.length - 0) (fun j v7 wl => ∃ (b nd : Nat), b + j = t.length ∧ 0 ≤ b ∧ v7 = .int .i64 b ∧ wl = w.drewN nd ∧ endU t j b = endU t (t.length - 0) 0)
            case atStart => exact ⟨0, _, by omega, by omega, by go_num, rfl, rfl⟩
            case round =>
              obtain ⟨b, nd4, hb1, hb2, rfl, rfl, hen⟩ := hrel
              cases gk with
              | zero =>
                have hb3 : b = t.length := by omega
                have hw3 : isW t (b : Int) = false := isW_out (by omega)
                have y1 : ((b : Int) < (t.length : Int)) = False := eq_false (by omega)
                have hb1' : b + 0 = t.length := hb1
                clear hb3
                have hbf : endU t (t.length - a) a = b := by rw [endU_back hlt, hbe, ← hen]; exact endU_stop hw3 _
                have hab := endU_pos hlt hw
                rw [hbf] at hab
                have hga := backU_le t a
                rw [hbe] at hga
                have HO := HV.out
                unfold wordU at HO
                rw [hbe, hbf] at HO
                have hl1 : ((t.take b).drop 0).length = b - 0 := by rw [List.length_drop, List.length_take]; omega
                obtain ⟨i0, hi0, hsz⟩ : ∃ i, Tryd.prog.info? 5 = some i ∧ i.size = 1 := ⟨_, rfl, rfl⟩
                have hcut := cut_mid (P := Tryd.prog) 22 5 .i64 .i64 Tryd.underlying22 hi0 1 hsz (some ad) t.length c (0 : Int) (b : Int) (by omega) (by omega) (by omega) hc
                have hC1 := Kd.C_mid (c := c) (lo := 0) (hi := b) H.out.1 (by omega) (by omega) hc
                rw [show ((0 : Int)).toNat = 0 from by omega, Int.toNat_natCast, ← hl1] at hcut
                have hu2 : ∀ i, 0 ≤ rd ((t.take b).drop 0) i ∧ rd ((t.take b).drop 0) i ≤ 255 := rd_mem (P := fun x => 0 ≤ x ∧ x ≤ 255) _ (fun x hx => mem_rd (P := fun x => 0 ≤ x ∧ x ≤ 255) t H.out.2 x (List.mem_of_mem_take (List.mem_of_mem_drop hx))) (by decide)
                generalize (t.take b).drop 0 = piece at hl1 hcut hC1 hu2 HO
                replace hC1 : (Kd.int .u8).C w (if c = 0 then (some ad) else Option.map (fun x => x.add (0 * 1)) (some ad)) piece.length piece := hC1
                simp only [Nat.sub_zero] at hcut
                generalize (if c = 0 then (some ad) else Option.map (fun x => x.add (0 * 1)) (some ad)) = A1 at hcut hC1
                have HQ : Aside0 (∀ k : Nat, Calls Tryd.prog 21 #[.slice A1 piece.length c] ((w.drewN k).alloc (.cells #[.int .u8 92, .int .u8 60] 5 (2, 3))) fun e w' => ∃ v, e = .returned v ∧ (Kd.int .u8).R 5 w' w.heap.size (fun _ => True) v (quoteV piece) ∧ Below w.heap.size w w' ∧ (Kd.int .u8).C w' (some ⟨w.heap.size, 0, none⟩) 2 [92, 60]) := ⟨fun k => by
                  have hb0 : Below w.heap.size w ((w.drewN k).alloc (.cells #[.int .u8 92, .int .u8 60] 5 (2, 3))) := below_alloc (pw_below_drewN (Below.refl _ _) _) _
                  refine (rquote_calls (Kd.C_below hC1 hb0) hu2 (by omega) (by omega)).mono ?_
                  rintro e w' ⟨v, rfl, h1, h2⟩
                  exact ⟨v, rfl, Kd.R_lower h1 hb0.size, below_step hb0 h2, Kd.C_below (u8_C (xs := [92, 60]) (fr := (2, 3)) (blk_new (w.drewN k) _) (by decide)) h2⟩⟩
                have hql := quoteV_len piece
                have hpl : 0 < piece.length ∧ piece.length ≤ 1000000000000 := by omega
                clear hl1
                generalize quoteV piece = q at HQ hql HO
                unfold finU at HO
                obtain ⟨L, hL⟩ : ∃ L, [92, 60] ++ q ++ [92, 62] = L := ⟨_, rfl⟩
                have hLl : L.length = q.length + 4 := by rw [← hL]; simp
                rw [hL] at HO
                have kd := fun (w_ : World) (k_ : Nat) (C_ : Array Value) (n_ c_ : Nat) => conv_drewN w_ k_ C_ n_ c_
                have kc := fun (w_ : World) (C_ : Array Value) (n_ c_ : Nat) => Lib.run_convert_bytes_const (P := Tryd.prog) w_ 22 5 C_ n_ c_ Tryd.underlying22 Tryd.underlying5
                by_cases hbig : L.length > 256
                · rw [if_pos hbig] at HO
                  subst HO
                  have z1 : (256 < (L.length : Int)) = True := eq_true (by omega)
                  clear hbig HV hLl
                  go_wp2_with (first
                    | fail
                    | (go_at_call 21; (with_reducible refine (HQ.out _).mono ?_); rintro e w2 ⟨vq, rfl, hq1, hq2, hq3⟩; have H2 := Aside0.mk (And.intro hq1 (And.intro hq2 hq3)); clear hq1 hq2 hq3; obtain ⟨Aq, cq, eq⟩ := Kd.R_slice H2.out.1; subst eq)
                    | (at_builtin; refine append_grow (w0 := w) w.heap.size rfl (.tmp 79) (.tmp 84) 22 5 rfl Tryd.underlying22 infoB ⟨w.heap.size, 0, none⟩ [92, 60] q Aq 2 cq rfl rfl rfl H2.out.2.2 (Kd.R_reads' H2.out.1).2.2 (by omega) H2.out.2.1 H2.out.2.1.size (by simp only [List.length_cons, List.length_nil]; omega) ?_; intro v8 w8 hq1 hq2; have H8 := Aside0.mk (And.intro hq1 hq2); clear hq1 hq2)
                    | (at_builtin; refine Kd.R_append_row (Value.int .u8) (0 : Int) (h1 := fun _ => rfl) (w0 := w) w.heap.size rfl (.tmp 86) (.tmp 87) 22 5 (.int .u8 0) 1 rfl Tryd.underlying22 infoB rfl (by decide) v8 ([92, 60] ++ q) [92, 62] (some ⟨w8.heap.size, 0, none⟩) 2 2 (fun _ => True) rfl rfl (fun _ _ => trivial) (Kd.R_alloc H8.out.1 (.cells #[.int .u8 92, .int .u8 62] 5)) (u8_C (xs := [92, 62]) (fr := (0, 0)) (blk_new w8 _) (by decide)) (H8.out.2.alloc H8.out.2.size _) (Nat.le_trans H8.out.2.size (by simp only [World.size_alloc]; omega)) (by simp only [List.length_append, List.length_cons, List.length_nil]; omega) ?_; intro v9 w9 hq1 hq2 _ _; have H9 := Aside0.mk (And.intro (show (Kd.int .u8).R 5 w9 w.heap.size (fun _ => True) v9 L from by rw [← hL]; exact hq1) hq2); clear hq1 hq2; obtain ⟨A9, c9, e9⟩ := Kd.R_slice H9.out.1; subst e9))
                  exact bodyPost_ret (v := .tuple #[.slice none 0 0, .int .i64 1]) (by simp [results, Tryd.results14, go_sem]) rfl ⟨_, rfl, H9.out.2, Kd.R_nil _ _ _ _ _⟩
                · rw [if_neg hbig] at HO
                  subst HO
                  have z1 : (256 < (L.length : Int)) = False := eq_false (by omega)
                  clear hbig HV hLl
                  go_wp2_with (first
                    | fail
                    | (go_at_call 21; (with_reducible refine (HQ.out _).mono ?_); rintro e w2 ⟨vq, rfl, hq1, hq2, hq3⟩; have H2 := Aside0.mk (And.intro hq1 (And.intro hq2 hq3)); clear hq1 hq2 hq3; obtain ⟨Aq, cq, eq⟩ := Kd.R_slice H2.out.1; subst eq)
                    | (at_builtin; refine append_grow (w0 := w) w.heap.size rfl (.tmp 79) (.tmp 84) 22 5 rfl Tryd.underlying22 infoB ⟨w.heap.size, 0, none⟩ [92, 60] q Aq 2 cq rfl rfl rfl H2.out.2.2 (Kd.R_reads' H2.out.1).2.2 (by omega) H2.out.2.1 H2.out.2.1.size (by simp only [List.length_cons, List.length_nil]; omega) ?_; intro v8 w8 hq1 hq2; have H8 := Aside0.mk (And.intro hq1 hq2); clear hq1 hq2)
                    | (at_builtin; refine Kd.R_append_row (Value.int .u8) (0 : Int) (h1 := fun _ => rfl) (w0 := w) w.heap.size rfl (.tmp 86) (.tmp 87) 22 5 (.int .u8 0) 1 rfl Tryd.underlying22 infoB rfl (by decide) v8 ([92, 60] ++ q) [92, 62] (some ⟨w8.heap.size, 0, none⟩) 2 2 (fun _ => True) rfl rfl (fun _ _ => trivial) (Kd.R_alloc H8.out.1 (.cells #[.int .u8 92, .int .u8 62] 5)) (u8_C (xs := [92, 62]) (fr := (0, 0)) (blk_new w8 _) (by decide)) (H8.out.2.alloc H8.out.2.size _) (Nat.le_trans H8.out.2.size (by simp only [World.size_alloc]; omega)) (by simp only [List.length_append, List.length_cons, List.length_nil]; omega) ?_; intro v9 w9 hq1 hq2 _ _; have H9 := Aside0.mk (And.intro (show (Kd.int .u8).R 5 w9 w.heap.size (fun _ => True) v9 L from by rw [← hL]; exact hq1) hq2); clear hq1 hq2; obtain ⟨A9, c9, e9⟩ := Kd.R_slice H9.out.1; subst e9))
                  exact bodyPost_ret (v := .tuple #[.slice A9 L.length c9, .int .i64 0]) (by simp [results, Tryd.results14, go_sem]) rfl ⟨_, rfl, H9.out.2, H9.out.1⟩
              | succ d2 =>
                have hblt : b < t.length := by omega
                obtain ⟨ad2, had, hx⟩ := Kd.at_int H.out.1 (b : Int) (by omega) (by omega)
                injection had with had
                subst had
                rw [Int.toNat_natCast] at hx
                obtain ⟨r, hrf, hrw⟩ := rclass (H.out.2 (b : Int))
                have hwr : isW t (b : Int) = (r == 2) := hrw t _ rfl (by omega) (by omega)
                have HC : Aside0 (∀ nd, _) := ⟨fun nd => X.quoinref06_Of.calls 1 (rd t (b : Int)) false r (w.drewN nd) hrf⟩
                clear hrf hrw
                have q2 : (0 ≤ (b : Int)) = True := eq_true (by omega)
                have q2b : ((b : Int) < (t.length : Int)) = True := eq_true (by omega)
                by_cases hr2 : r = 2
                · subst hr2
                  have hw3 : isW t (b : Int) = true := hwr
                  have hen2 : endU t (d2 + 1) b = endU t d2 (b + 1) := by
                    conv => lhs; unfold endU
                    rw [if_pos hw3]
                  rw [hen2] at hen
                  go_wp2_with (go_at_call 27; (with_reducible refine (HC.out _).mono ?_); rintro e w' ⟨rfl, ⟨nd2, rfl⟩⟩)
                  go_roundg d2
                  case measure => omega
                  case rel => exact ⟨b + 1, _, by omega, by omega, by go_num, rfl, hen⟩
                · have hw3 : isW t (b : Int) = false := by rw [hwr]; exact beq_eq_false_iff_ne.2 hr2
                  have y2 : (r = 2) = False := eq_false hr2
                  have y3 : (r == 2) = false := beq_eq_false_iff_ne.2 hr2
                  have hbf : endU t (t.length - a) a = b := by rw [endU_back hlt, hbe, ← hen]; exact endU_stop hw3 _
                  have hab := endU_pos hlt hw
                  rw [hbf] at hab
                  have hga := backU_le t a
                  rw [hbe] at hga
                  have HO := HV.out
                  unfold wordU at HO
                  rw [hbe, hbf] at HO
                  have hl1 : ((t.take b).drop 0).length = b - 0 := by rw [List.length_drop, List.length_take]; omega
                  obtain ⟨i0, hi0, hsz⟩ : ∃ i, Tryd.prog.info? 5 = some i ∧ i.size = 1 := ⟨_, rfl, rfl⟩
                  have hcut := cut_mid (P := Tryd.prog) 22 5 .i64 .i64 Tryd.underlying22 hi0 1 hsz (some ad) t.length c (0 : Int) (b : Int) (by omega) (by omega) (by omega) hc
                  have hC1 := Kd.C_mid (c := c) (lo := 0) (hi := b) H.out.1 (by omega) (by omega) hc
                  rw [show ((0 : Int)).toNat = 0 from by omega, Int.toNat_natCast, ← hl1] at hcut
                  have hu2 : ∀ i, 0 ≤ rd ((t.take b).drop 0) i ∧ rd ((t.take b).drop 0) i ≤ 255 := rd_mem (P := fun x => 0 ≤ x ∧ x ≤ 255) _ (fun x hx => mem_rd (P := fun x => 0 ≤ x ∧ x ≤ 255) t H.out.2 x (List.mem_of_mem_take (List.mem_of_mem_drop hx))) (by decide)
                  generalize (t.take b).drop 0 = piece at hl1 hcut hC1 hu2 HO
                  replace hC1 : (Kd.int .u8).C w (if c = 0 then (some ad) else Option.map (fun x => x.add (0 * 1)) (some ad)) piece.length piece := hC1
                  simp only [Nat.sub_zero] at hcut
                  generalize (if c = 0 then (some ad) else Option.map (fun x => x.add (0 * 1)) (some ad)) = A1 at hcut hC1
                  have HQ : Aside0 (∀ k : Nat, Calls Tryd.prog 21 #[.slice A1 piece.length c] ((w.drewN k).alloc (.cells #[.int .u8 92, .int .u8 60] 5 (2, 3))) fun e w' => ∃ v, e = .returned v ∧ (Kd.int .u8).R 5 w' w.heap.size (fun _ => True) v (quoteV piece) ∧ Below w.heap.size w w' ∧ (Kd.int .u8).C w' (some ⟨w.heap.size, 0, none⟩) 2 [92, 60]) := ⟨fun k => by
                    have hb0 : Below w.heap.size w ((w.drewN k).alloc (.cells #[.int .u8 92, .int .u8 60] 5 (2, 3))) := below_alloc (pw_below_drewN (Below.refl _ _) _) _
                    refine (rquote_calls (Kd.C_below hC1 hb0) hu2 (by omega) (by omega)).mono ?_
                    rintro e w' ⟨v, rfl, h1, h2⟩
                    exact ⟨v, rfl, Kd.R_lower h1 hb0.size, below_step hb0 h2, Kd.C_below (u8_C (xs := [92, 60]) (fr := (2, 3)) (blk_new (w.drewN k) _) (by decide)) h2⟩⟩
                  have hql := quoteV_len piece
                  have hpl : 0 < piece.length ∧ piece.length ≤ 1000000000000 := by omega
                  clear hl1
                  generalize quoteV piece = q at HQ hql HO
                  unfold finU at HO
                  obtain ⟨L, hL⟩ : ∃ L, [92, 60] ++ q ++ [92, 62] = L := ⟨_, rfl⟩
                  have hLl : L.length = q.length + 4 := by rw [← hL]; simp
                  rw [hL] at HO
                  have kd := fun (w_ : World) (k_ : Nat) (C_ : Array Value) (n_ c_ : Nat) => conv_drewN w_ k_ C_ n_ c_
                  have kc := fun (w_ : World) (C_ : Array Value) (n_ c_ : Nat) => Lib.run_convert_bytes_const (P := Tryd.prog) w_ 22 5 C_ n_ c_ Tryd.underlying22 Tryd.underlying5
                  by_cases hbig : L.length > 256
                  · rw [if_pos hbig] at HO
                    subst HO
                    have z1 : (256 < (L.length : Int)) = True := eq_true (by omega)
                    clear hbig HV hLl
                    go_wp2_with (first
                      | (go_at_call 27; (with_reducible refine (HC.out _).mono ?_); rintro e w' ⟨rfl, ⟨nd2, rfl⟩⟩)
                      | (go_at_call 21; (with_reducible refine (HQ.out _).mono ?_); rintro e w2 ⟨vq, rfl, hq1, hq2, hq3⟩; have H2 := Aside0.mk (And.intro hq1 (And.intro hq2 hq3)); clear hq1 hq2 hq3; obtain ⟨Aq, cq, eq⟩ := Kd.R_slice H2.out.1; subst eq)
                      | (at_builtin; refine append_grow (w0 := w) w.heap.size rfl (.tmp 79) (.tmp 84) 22 5 rfl Tryd.underlying22 infoB ⟨w.heap.size, 0, none⟩ [92, 60] q Aq 2 cq rfl rfl rfl H2.out.2.2 (Kd.R_reads' H2.out.1).2.2 (by omega) H2.out.2.1 H2.out.2.1.size (by simp only [List.length_cons, List.length_nil]; omega) ?_; intro v8 w8 hq1 hq2; have H8 := Aside0.mk (And.intro hq1 hq2); clear hq1 hq2)
                      | (at_builtin; refine Kd.R_append_row (Value.int .u8) (0 : Int) (h1 := fun _ => rfl) (w0 := w) w.heap.size rfl (.tmp 86) (.tmp 87) 22 5 (.int .u8 0) 1 rfl Tryd.underlying22 infoB rfl (by decide) v8 ([92, 60] ++ q) [92, 62] (some ⟨w8.heap.size, 0, none⟩) 2 2 (fun _ => True) rfl rfl (fun _ _ => trivial) (Kd.R_alloc H8.out.1 (.cells #[.int .u8 92, .int .u8 62] 5)) (u8_C (xs := [92, 62]) (fr := (0, 0)) (blk_new w8 _) (by decide)) (H8.out.2.alloc H8.out.2.size _) (Nat.le_trans H8.out.2.size (by simp only [World.size_alloc]; omega)) (by simp only [List.length_append, List.length_cons, List.length_nil]; omega) ?_; intro v9 w9 hq1 hq2 _ _; have H9 := Aside0.mk (And.intro (show (Kd.int .u8).R 5 w9 w.heap.size (fun _ => True) v9 L from by rw [← hL]; exact hq1) hq2); clear hq1 hq2; obtain ⟨A9, c9, e9⟩ := Kd.R_slice H9.out.1; subst e9))
                    exact bodyPost_ret (v := .tuple #[.slice none 0 0, .int .i64 1]) (by simp [results, Tryd.results14, go_sem]) rfl ⟨_, rfl, H9.out.2, Kd.R_nil _ _ _ _ _⟩
                  · rw [if_neg hbig] at HO
                    subst HO
                    have z1 : (256 < (L.length : Int)) = False := eq_false (by omega)
                    clear hbig HV hLl
                    go_wp2_with (first
                      | (go_at_call 27; (with_reducible refine (HC.out _).mono ?_); rintro e w' ⟨rfl, ⟨nd2, rfl⟩⟩)
                      | (go_at_call 21; (with_reducible refine (HQ.out _).mono ?_); rintro e w2 ⟨vq, rfl, hq1, hq2, hq3⟩; have H2 := Aside0.mk (And.intro hq1 (And.intro hq2 hq3)); clear hq1 hq2 hq3; obtain ⟨Aq, cq, eq⟩ := Kd.R_slice H2.out.1; subst eq)
                      | (at_builtin; refine append_grow (w0 := w) w.heap.size rfl (.tmp 79) (.tmp 84) 22 5 rfl Tryd.underlying22 infoB ⟨w.heap.size, 0, none⟩ [92, 60] q Aq 2 cq rfl rfl rfl H2.out.2.2 (Kd.R_reads' H2.out.1).2.2 (by omega) H2.out.2.1 H2.out.2.1.size (by simp only [List.length_cons, List.length_nil]; omega) ?_; intro v8 w8 hq1 hq2; have H8 := Aside0.mk (And.intro hq1 hq2); clear hq1 hq2)
                      | (at_builtin; refine Kd.R_append_row (Value.int .u8) (0 : Int) (h1 := fun _ => rfl) (w0 := w) w.heap.size rfl (.tmp 86) (.tmp 87) 22 5 (.int .u8 0) 1 rfl Tryd.underlying22 infoB rfl (by decide) v8 ([92, 60] ++ q) [92, 62] (some ⟨w8.heap.size, 0, none⟩) 2 2 (fun _ => True) rfl rfl (fun _ _ => trivial) (Kd.R_alloc H8.out.1 (.cells #[.int .u8 92, .int .u8 62] 5)) (u8_C (xs := [92, 62]) (fr := (0, 0)) (blk_new w8 _) (by decide)) (H8.out.2.alloc H8.out.2.size _) (Nat.le_trans H8.out.2.size (by simp only [World.size_alloc]; omega)) (by simp only [List.length_append, List.length_cons, List.length_nil]; omega) ?_; intro v9 w9 hq1 hq2 _ _; have H9 := Aside0.mk (And.intro (show (Kd.int .u8).R 5 w9 w.heap.size (fun _ => True) v9 L from by rw [← hL]; exact hq1) hq2); clear hq1 hq2; obtain ⟨A9, c9, e9⟩ := Kd.R_slice H9.out.1; subst e9))
                    exact bodyPost_ret (v := .tuple #[.slice A9 L.length c9, .int .i64 0]) (by simp [results, Tryd.results14, go_sem]) rfl ⟨_, rfl, H9.out.2, H9.out.1⟩
          | succ g =>
            obtain ⟨ad2, had, hx⟩ := Kd.at_int H.out.1 (g : Int) (by omega) (by omega)
            injection had with had
            subst had
            rw [Int.toNat_natCast] at hx
            obtain ⟨r, hrf, hrw⟩ := rclass (H.out.2 (g : Int))
            have hwr : isW t (g : Int) = (r == 2) := hrw t _ rfl (by omega) (by omega)
            have HC : Aside0 (∀ nd, _) := ⟨fun nd => X.quoinref06_Of.calls 1 (rd t (g : Int)) false r (w.drewN nd) hrf⟩
            clear hrf hrw
            have q2 : (0 ≤ (g : Int)) = True := eq_true (by omega)
            have q2b : ((g : Int) < (t.length : Int)) = True := eq_true (by omega)
            by_cases hr3 : r = 2
            · subst hr3
              have e : backU t (g + 1) = backU t g := by
                conv => lhs; unfold backU
                rw [if_pos (show isW t (g : Int) = true by rw [hwr]; rfl)]
              rw [e] at hbk
              go_wp2_with (go_at_call 27; (with_reducible refine (HC.out _).mono ?_); rintro e w' ⟨rfl, ⟨nd2, rfl⟩⟩)
              go_roundg g
              case measure => omega
              case rel => exact ⟨_, by omega, by go_num, rfl, hbk⟩
            · have e : backU t (g + 1) = g + 1 := by
                conv => lhs; unfold backU
                rw [if_neg (by rw [hwr]; simpa using hr3)]
              have y2 : (r = 2) = False := eq_false hr3
              have y3 : (r == 2) = false := beq_eq_false_iff_ne.2 hr3
              go_wp2_with (go_at_call 27; (with_reducible refine (HC.out _).mono ?_); rintro e w' ⟨rfl, ⟨nd2, rfl⟩⟩)
              clear HC hx hwr y2 y3 hr3
              have hbe : backU t a = g + 1 := by rw [← hbk, e]
              go_loopg [7] (t.length - (g + 1)) (fun j v7 wl => ∃ (b nd : Nat), b + j = t.length ∧ (g + 1) ≤ b ∧ v7 = .int .i64 b ∧ wl = w.drewN nd ∧ endU t j b = endU t (t.length - (g + 1)) (g + 1))
              case atStart => exact ⟨(g + 1), _, by omega, by omega, by go_num, rfl, rfl⟩
              case round =>
                obtain ⟨b, nd4, hb1, hb2, rfl, rfl, hen⟩ := hrel
                cases gk with
                | zero =>
                  have hb3 : b = t.length := by omega
                  have hw3 : isW t (b : Int) = false := isW_out (by omega)
                  have y1 : ((b : Int) < (t.length : Int)) = False := eq_false (by omega)
                  have hb1' : b + 0 = t.length := hb1
                  clear hb3
                  have hbf : endU t (t.length - a) a = b := by rw [endU_back hlt, hbe, ← hen]; exact endU_stop hw3 _
                  have hab := endU_pos hlt hw
                  rw [hbf] at hab
                  have hga := backU_le t a
                  rw [hbe] at hga
                  have HO := HV.out
                  unfold wordU at HO
                  rw [hbe, hbf] at HO
                  have hl1 : ((t.take b).drop (g + 1)).length = b - (g + 1) := by rw [List.length_drop, List.length_take]; omega
                  obtain ⟨i0, hi0, hsz⟩ : ∃ i, Tryd.prog.info? 5 = some i ∧ i.size = 1 := ⟨_, rfl, rfl⟩
                  have hcut := cut_mid (P := Tryd.prog) 22 5 .i64 .i64 Tryd.underlying22 hi0 1 hsz (some ad) t.length c ((g : Int) + 1) (b : Int) (by omega) (by omega) (by omega) hc
                  have hC1 := Kd.C_mid (c := c) (lo := (g + 1)) (hi := b) H.out.1 (by omega) (by omega) hc
                  rw [show (((g : Int) + 1)).toNat = (g + 1) from by omega, Int.toNat_natCast, ← hl1] at hcut
                  have hu2 : ∀ i, 0 ≤ rd ((t.take b).drop (g + 1)) i ∧ rd ((t.take b).drop (g + 1)) i ≤ 255 := rd_mem (P := fun x => 0 ≤ x ∧ x ≤ 255) _ (fun x hx => mem_rd (P := fun x => 0 ≤ x ∧ x ≤ 255) t H.out.2 x (List.mem_of_mem_take (List.mem_of_mem_drop hx))) (by decide)
                  generalize (t.take b).drop (g + 1) = piece at hl1 hcut hC1 hu2 HO
                  replace hC1 : (Kd.int .u8).C w (if c = (g + 1) then (some ad) else Option.map (fun x => x.add ((g + 1) * 1)) (some ad)) piece.length piece := hC1
                  have _ := True.intro
                  generalize (if c = (g + 1) then (some ad) else Option.map (fun x => x.add ((g + 1) * 1)) (some ad)) = A1 at hcut hC1
                  have HQ : Aside0 (∀ k : Nat, Calls Tryd.prog 21 #[.slice A1 piece.length (c - (g + 1))] ((w.drewN k).alloc (.cells #[.int .u8 92, .int .u8 60] 5 (2, 3))) fun e w' => ∃ v, e = .returned v ∧ (Kd.int .u8).R 5 w' w.heap.size (fun _ => True) v (quoteV piece) ∧ Below w.heap.size w w' ∧ (Kd.int .u8).C w' (some ⟨w.heap.size, 0, none⟩) 2 [92, 60]) := ⟨fun k => by
                    have hb0 : Below w.heap.size w ((w.drewN k).alloc (.cells #[.int .u8 92, .int .u8 60] 5 (2, 3))) := below_alloc (pw_below_drewN (Below.refl _ _) _) _
                    refine (rquote_calls (Kd.C_below hC1 hb0) hu2 (by omega) (by omega)).mono ?_
                    rintro e w' ⟨v, rfl, h1, h2⟩
                    exact ⟨v, rfl, Kd.R_lower h1 hb0.size, below_step hb0 h2, Kd.C_below (u8_C (xs := [92, 60]) (fr := (2, 3)) (blk_new (w.drewN k) _) (by decide)) h2⟩⟩
                  have hql := quoteV_len piece
                  have hpl : 0 < piece.length ∧ piece.length ≤ 1000000000000 := by omega
                  clear hl1
                  generalize quoteV piece = q at HQ hql HO
                  unfold finU at HO
                  obtain ⟨L, hL⟩ : ∃ L, [92, 60] ++ q ++ [92, 62] = L := ⟨_, rfl⟩
                  have hLl : L.length = q.length + 4 := by rw [← hL]; simp
                  rw [hL] at HO
                  have kd := fun (w_ : World) (k_ : Nat) (C_ : Array Value) (n_ c_ : Nat) => conv_drewN w_ k_ C_ n_ c_
                  have kc := fun (w_ : World) (C_ : Array Value) (n_ c_ : Nat) => Lib.run_convert_bytes_const (P := Tryd.prog) w_ 22 5 C_ n_ c_ Tryd.underlying22 Tryd.underlying5
                  by_cases hbig : L.length > 256
                  · rw [if_pos hbig] at HO
                    subst HO
                    have z1 : (256 < (L.length : Int)) = True := eq_true (by omega)
                    clear hbig HV hLl
                    go_wp2_with (first
                      | fail
                      | (go_at_call 21; (with_reducible refine (HQ.out _).mono ?_); rintro e w2 ⟨vq, rfl, hq1, hq2, hq3⟩; have H2 := Aside0.mk (And.intro hq1 (And.intro hq2 hq3)); clear hq1 hq2 hq3; obtain ⟨Aq, cq, eq⟩ := Kd.R_slice H2.out.1; subst eq)
                      | (at_builtin; refine append_grow (w0 := w) w.heap.size rfl (.tmp 79) (.tmp 84) 22 5 rfl Tryd.underlying22 infoB ⟨w.heap.size, 0, none⟩ [92, 60] q Aq 2 cq rfl rfl rfl H2.out.2.2 (Kd.R_reads' H2.out.1).2.2 (by omega) H2.out.2.1 H2.out.2.1.size (by simp only [List.length_cons, List.length_nil]; omega) ?_; intro v8 w8 hq1 hq2; have H8 := Aside0.mk (And.intro hq1 hq2); clear hq1 hq2)
                      | (at_builtin; refine Kd.R_append_row (Value.int .u8) (0 : Int) (h1 := fun _ => rfl) (w0 := w) w.heap.size rfl (.tmp 86) (.tmp 87) 22 5 (.int .u8 0) 1 rfl Tryd.underlying22 infoB rfl (by decide) v8 ([92, 60] ++ q) [92, 62] (some ⟨w8.heap.size, 0, none⟩) 2 2 (fun _ => True) rfl rfl (fun _ _ => trivial) (Kd.R_alloc H8.out.1 (.cells #[.int .u8 92, .int .u8 62] 5)) (u8_C (xs := [92, 62]) (fr := (0, 0)) (blk_new w8 _) (by decide)) (H8.out.2.alloc H8.out.2.size _) (Nat.le_trans H8.out.2.size (by simp only [World.size_alloc]; omega)) (by simp only [List.length_append, List.length_cons, List.length_nil]; omega) ?_; intro v9 w9 hq1 hq2 _ _; have H9 := Aside0.mk (And.intro (show (Kd.int .u8).R 5 w9 w.heap.size (fun _ => True) v9 L from by rw [← hL]; exact hq1) hq2); clear hq1 hq2; obtain ⟨A9, c9, e9⟩ := Kd.R_slice H9.out.1; subst e9))
                    exact bodyPost_ret (v := .tuple #[.slice none 0 0, .int .i64 1]) (by simp [results, Tryd.results14, go_sem]) rfl ⟨_, rfl, H9.out.2, Kd.R_nil _ _ _ _ _⟩
                  · rw [if_neg hbig] at HO
                    subst HO
                    have z1 : (256 < (L.length : Int)) = False := eq_false (by omega)
                    clear hbig HV hLl
                    go_wp2_with (first
                      | fail
                      | (go_at_call 21; (with_reducible refine (HQ.out _).mono ?_); rintro e w2 ⟨vq, rfl, hq1, hq2, hq3⟩; have H2 := Aside0.mk (And.intro hq1 (And.intro hq2 hq3)); clear hq1 hq2 hq3; obtain ⟨Aq, cq, eq⟩ := Kd.R_slice H2.out.1; subst eq)
                      | (at_builtin; refine append_grow (w0 := w) w.heap.size rfl (.tmp 79) (.tmp 84) 22 5 rfl Tryd.underlying22 infoB ⟨w.heap.size, 0, none⟩ [92, 60] q Aq 2 cq rfl rfl rfl H2.out.2.2 (Kd.R_reads' H2.out.1).2.2 (by omega) H2.out.2.1 H2.out.2.1.size (by simp only [List.length_cons, List.length_nil]; omega) ?_; intro v8 w8 hq1 hq2; have H8 := Aside0.mk (And.intro hq1 hq2); clear hq1 hq2)
                      | (at_builtin; refine Kd.R_append_row (Value.int .u8) (0 : Int) (h1 := fun _ => rfl) (w0 := w) w.heap.size rfl (.tmp 86) (.tmp 87) 22 5 (.int .u8 0) 1 rfl Tryd.underlying22 infoB rfl (by decide) v8 ([92, 60] ++ q) [92, 62] (some ⟨w8.heap.size, 0, none⟩) 2 2 (fun _ => True) rfl rfl (fun _ _ => trivial) (Kd.R_alloc H8.out.1 (.cells #[.int .u8 92, .int .u8 62] 5)) (u8_C (xs := [92, 62]) (fr := (0, 0)) (blk_new w8 _) (by decide)) (H8.out.2.alloc H8.out.2.size _) (Nat.le_trans H8.out.2.size (by simp only [World.size_alloc]; omega)) (by simp only [List.length_append, List.length_cons, List.length_nil]; omega) ?_; intro v9 w9 hq1 hq2 _ _; have H9 := Aside0.mk (And.intro (show (Kd.int .u8).R 5 w9 w.heap.size (fun _ => True) v9 L from by rw [← hL]; exact hq1) hq2); clear hq1 hq2; obtain ⟨A9, c9, e9⟩ := Kd.R_slice H9.out.1; subst e9))
                    exact bodyPost_ret (v := .tuple #[.slice A9 L.length c9, .int .i64 0]) (by simp [results, Tryd.results14, go_sem]) rfl ⟨_, rfl, H9.out.2, H9.out.1⟩
                | succ d2 =>
                  have hblt : b < t.length := by omega
                  obtain ⟨ad2, had, hx⟩ := Kd.at_int H.out.1 (b : Int) (by omega) (by omega)
                  injection had with had
                  subst had
                  rw [Int.toNat_natCast] at hx
                  obtain ⟨r, hrf, hrw⟩ := rclass (H.out.2 (b : Int))
                  have hwr : isW t (b : Int) = (r == 2) := hrw t _ rfl (by omega) (by omega)
                  have HC : Aside0 (∀ nd, _) := ⟨fun nd => X.quoinref06_Of.calls 1 (rd t (b : Int)) false r (w.drewN nd) hrf⟩
                  clear hrf hrw
                  have q2 : (0 ≤ (b : Int)) = True := eq_true (by omega)
                  have q2b : ((b : Int) < (t.length : Int)) = True := eq_true (by omega)
                  by_cases hr2 : r = 2
                  · subst hr2
                    have hw3 : isW t (b : Int) = true := hwr
                    have hen2 : endU t (d2 + 1) b = endU t d2 (b + 1) := by
                      conv => lhs; unfold endU
                      rw [if_pos hw3]
                    rw [hen2] at hen
                    go_wp2_with (go_at_call 27; (with_reducible refine (HC.out _).mono ?_); rintro e w' ⟨rfl, ⟨nd2, rfl⟩⟩)
                    go_roundg d2
                    case measure => omega
                    case rel => exact ⟨b + 1, _, by omega, by omega, by go_num, rfl, hen⟩
                  · have hw3 : isW t (b : Int) = false := by rw [hwr]; exact beq_eq_false_iff_ne.2 hr2
                    have y2 : (r = 2) = False := eq_false hr2
                    have y3 : (r == 2) = false := beq_eq_false_iff_ne.2 hr2
                    have hbf : endU t (t.length - a) a = b := by rw [endU_back hlt, hbe, ← hen]; exact endU_stop hw3 _
                    have hab := endU_pos hlt hw
                    rw [hbf] at hab
                    have hga := backU_le t a
                    rw [hbe] at hga
                    have HO := HV.out
                    unfold wordU at HO
                    rw [hbe, hbf] at HO
                    have hl1 : ((t.take b).drop (g + 1)).length = b - (g + 1) := by rw [List.length_drop, List.length_take]; omega
                    obtain ⟨i0, hi0, hsz⟩ : ∃ i, Tryd.prog.info? 5 = some i ∧ i.size = 1 := ⟨_, rfl, rfl⟩
                    have hcut := cut_mid (P := Tryd.prog) 22 5 .i64 .i64 Tryd.underlying22 hi0 1 hsz (some ad) t.length c ((g : Int) + 1) (b : Int) (by omega) (by omega) (by omega) hc
                    have hC1 := Kd.C_mid (c := c) (lo := (g + 1)) (hi := b) H.out.1 (by omega) (by omega) hc
                    rw [show (((g : Int) + 1)).toNat = (g + 1) from by omega, Int.toNat_natCast, ← hl1] at hcut
                    have hu2 : ∀ i, 0 ≤ rd ((t.take b).drop (g + 1)) i ∧ rd ((t.take b).drop (g + 1)) i ≤ 255 := rd_mem (P := fun x => 0 ≤ x ∧ x ≤ 255) _ (fun x hx => mem_rd (P := fun x => 0 ≤ x ∧ x ≤ 255) t H.out.2 x (List.mem_of_mem_take (List.mem_of_mem_drop hx))) (by decide)
                    generalize (t.take b).drop (g + 1) = piece at hl1 hcut hC1 hu2 HO
                    replace hC1 : (Kd.int .u8).C w (if c = (g + 1) then (some ad) else Option.map (fun x => x.add ((g + 1) * 1)) (some ad)) piece.length piece := hC1
                    have _ := True.intro
                    generalize (if c = (g + 1) then (some ad) else Option.map (fun x => x.add ((g + 1) * 1)) (some ad)) = A1 at hcut hC1
                    have HQ : Aside0 (∀ k : Nat, Calls Tryd.prog 21 #[.slice A1 piece.length (c - (g + 1))] ((w.drewN k).alloc (.cells #[.int .u8 92, .int .u8 60] 5 (2, 3))) fun e w' => ∃ v, e = .returned v ∧ (Kd.int .u8).R 5 w' w.heap.size (fun _ => True) v (quoteV piece) ∧ Below w.heap.size w w' ∧ (Kd.int .u8).C w' (some ⟨w.heap.size, 0, none⟩) 2 [92, 60]) := ⟨fun k => by
                      have hb0 : Below w.heap.size w ((w.drewN k).alloc (.cells #[.int .u8 92, .int .u8 60] 5 (2, 3))) := below_alloc (pw_below_drewN (Below.refl _ _) _) _
                      refine (rquote_calls (Kd.C_below hC1 hb0) hu2 (by omega) (by omega)).mono ?_
                      rintro e w' ⟨v, rfl, h1, h2⟩
                      exact ⟨v, rfl, Kd.R_lower h1 hb0.size, below_step hb0 h2, Kd.C_below (u8_C (xs := [92, 60]) (fr := (2, 3)) (blk_new (w.drewN k) _) (by decide)) h2⟩⟩
                    have hql := quoteV_len piece
                    have hpl : 0 < piece.length ∧ piece.length ≤ 1000000000000 := by omega
                    clear hl1
                    generalize quoteV piece = q at HQ hql HO
                    unfold finU at HO
                    obtain ⟨L, hL⟩ : ∃ L, [92, 60] ++ q ++ [92, 62] = L := ⟨_, rfl⟩
                    have hLl : L.length = q.length + 4 := by rw [← hL]; simp
                    rw [hL] at HO
                    have kd := fun (w_ : World) (k_ : Nat) (C_ : Array Value) (n_ c_ : Nat) => conv_drewN w_ k_ C_ n_ c_
                    have kc := fun (w_ : World) (C_ : Array Value) (n_ c_ : Nat) => Lib.run_convert_bytes_const (P := Tryd.prog) w_ 22 5 C_ n_ c_ Tryd.underlying22 Tryd.underlying5
                    by_cases hbig : L.length > 256
                    · rw [if_pos hbig] at HO
                      subst HO
                      have z1 : (256 < (L.length : Int)) = True := eq_true (by omega)
                      clear hbig HV hLl
                      go_wp2_with (first
                        | (go_at_call 27; (with_reducible refine (HC.out _).mono ?_); rintro e w' ⟨rfl, ⟨nd2, rfl⟩⟩)
                        | (go_at_call 21; (with_reducible refine (HQ.out _).mono ?_); rintro e w2 ⟨vq, rfl, hq1, hq2, hq3⟩; have H2 := Aside0.mk (And.intro hq1 (And.intro hq2 hq3)); clear hq1 hq2 hq3; obtain ⟨Aq, cq, eq⟩ := Kd.R_slice H2.out.1; subst eq)
                        | (at_builtin; refine append_grow (w0 := w) w.heap.size rfl (.tmp 79) (.tmp 84) 22 5 rfl Tryd.underlying22 infoB ⟨w.heap.size, 0, none⟩ [92, 60] q Aq 2 cq rfl rfl rfl H2.out.2.2 (Kd.R_reads' H2.out.1).2.2 (by omega) H2.out.2.1 H2.out.2.1.size (by simp only [List.length_cons, List.length_nil]; omega) ?_; intro v8 w8 hq1 hq2; have H8 := Aside0.mk (And.intro hq1 hq2); clear hq1 hq2)
                        | (at_builtin; refine Kd.R_append_row (Value.int .u8) (0 : Int) (h1 := fun _ => rfl) (w0 := w) w.heap.size rfl (.tmp 86) (.tmp 87) 22 5 (.int .u8 0) 1 rfl Tryd.underlying22 infoB rfl (by decide) v8 ([92, 60] ++ q) [92, 62] (some ⟨w8.heap.size, 0, none⟩) 2 2 (fun _ => True) rfl rfl (fun _ _ => trivial) (Kd.R_alloc H8.out.1 (.cells #[.int .u8 92, .int .u8 62] 5)) (u8_C (xs := [92, 62]) (fr := (0, 0)) (blk_new w8 _) (by decide)) (H8.out.2.alloc H8.out.2.size _) (Nat.le_trans H8.out.2.size (by simp only [World.size_alloc]; omega)) (by simp only [List.length_append, List.length_cons, List.length_nil]; omega) ?_; intro v9 w9 hq1 hq2 _ _; have H9 := Aside0.mk (And.intro (show (Kd.int .u8).R 5 w9 w.heap.size (fun _ => True) v9 L from by rw [← hL]; exact hq1) hq2); clear hq1 hq2; obtain ⟨A9, c9, e9⟩ := Kd.R_slice H9.out.1; subst e9))
                      exact bodyPost_ret (v := .tuple #[.slice none 0 0, .int .i64 1]) (by simp [results, Tryd.results14, go_sem]) rfl ⟨_, rfl, H9.out.2, Kd.R_nil _ _ _ _ _⟩
                    · rw [if_neg hbig] at HO
                      subst HO
                      have z1 : (256 < (L.length : Int)) = False := eq_false (by omega)
                      clear hbig HV hLl
                      go_wp2_with (first
                        | (go_at_call 27; (with_reducible refine (HC.out _).mono ?_); rintro e w' ⟨rfl, ⟨nd2, rfl⟩⟩)
                        | (go_at_call 21; (with_reducible refine (HQ.out _).mono ?_); rintro e w2 ⟨vq, rfl, hq1, hq2, hq3⟩; have H2 := Aside0.mk (And.intro hq1 (And.intro hq2 hq3)); clear hq1 hq2 hq3; obtain ⟨Aq, cq, eq⟩ := Kd.R_slice H2.out.1; subst eq)
                        | (at_builtin; refine append_grow (w0 := w) w.heap.size rfl (.tmp 79) (.tmp 84) 22 5 rfl Tryd.underlying22 infoB ⟨w.heap.size, 0, none⟩ [92, 60] q Aq 2 cq rfl rfl rfl H2.out.2.2 (Kd.R_reads' H2.out.1).2.2 (by omega) H2.out.2.1 H2.out.2.1.size (by simp only [List.length_cons, List.length_nil]; omega) ?_; intro v8 w8 hq1 hq2; have H8 := Aside0.mk (And.intro hq1 hq2); clear hq1 hq2)
                        | (at_builtin; refine Kd.R_append_row (Value.int .u8) (0 : Int) (h1 := fun _ => rfl) (w0 := w) w.heap.size rfl (.tmp 86) (.tmp 87) 22 5 (.int .u8 0) 1 rfl Tryd.underlying22 infoB rfl (by decide) v8 ([92, 60] ++ q) [92, 62] (some ⟨w8.heap.size, 0, none⟩) 2 2 (fun _ => True) rfl rfl (fun _ _ => trivial) (Kd.R_alloc H8.out.1 (.cells #[.int .u8 92, .int .u8 62] 5)) (u8_C (xs := [92, 62]) (fr := (0, 0)) (blk_new w8 _) (by decide)) (H8.out.2.alloc H8.out.2.size _) (Nat.le_trans H8.out.2.size (by simp only [World.size_alloc]; omega)) (by simp only [List.length_append, List.length_cons, List.length_nil]; omega) ?_; intro v9 w9 hq1 hq2 _ _; have H9 := Aside0.mk (And.intro (show (Kd.int .u8).R 5 w9 w.heap.size (fun _ => True) v9 L from by rw [← hL]; exact hq1) hq2); clear hq1 hq2; obtain ⟨A9, c9, e9⟩ := Kd.R_slice H9.out.1; subst e9))
                      exact bodyPost_ret (v := .tuple #[.slice A9 L.length c9, .int .i64 0]) (by simp [results, Tryd.results14, go_sem]) rfl ⟨_, rfl, H9.out.2, H9.out.1⟩
      · have hw : isW t (a : Int) = false := by rw [hwr]; exact beq_eq_false_iff_ne.2 hr2
        rw [if_neg (by rw [hw]; decide), if_neg h3] at hgr
        have y2 : (r = 2) = False := eq_false hr2
        have y3 : (r == 2) = false := beq_eq_false_iff_ne.2 hr2
        have y4 : (r != 2) = true := bne_iff_ne.2 hr2
        go_wp2_with (go_at_call 27; (with_reducible refine (HC.out _).mono ?_); rintro e w' ⟨rfl, ⟨nd2, rfl⟩⟩)
        go_roundg d
        case measure => omega
        case rel => exact ⟨a + 1, _, by omega, by omega, by omega, by go_num, rfl, hgr⟩
    · rw [if_neg hlt] at hgr
      have hae : a = t.length := by omega
      subst hgr
      subst hae
      have HV2 := HV.out
      simp only at HV2
      subst HV2
      go_wp2
      exact bodyPost_ret (v := .tuple #[.slice none 0 0, .int .i64 120]) (by simp [results, Tryd.results14, go_sem]) rfl ⟨_, rfl, pw_below_drewN (Below.refl _ _) _, Kd.R_nil _ _ _ _ _⟩
end Go.Proofs.YtffpkldphkmjmaaDoor.PT
end
section
namespace Go.Proofs.YtffpkldphkmjmaaDoor.PT
open Go.RowKit Go.Proofs.YtffpkldphkmjmaaDoorW.PrintWords Go.Proofs.YtffpkldphkmjmaaDoorW.PrintMore
set_option linter.unusedVariables false
theorem eqiH (d : Nat) (a c : Int) (w : World) : (Op.equalIn (d + 1) 3 (.int .i64 a) (.int .i64 c)).run Tryd.prog w = .ok (a == c) w := by
  simp only [Op.equalIn, Sem.run_bind, run_underlying Tryd.underlying3, Result.andThen_ok]
  simp
/-- '==' of two targets. -/
theorem eqT (x y : Int × Int × Int) (w : World) : (Op.equalIn 10000 27 (tgt x) (tgt y)).run Tryd.prog w = .ok (x == y) w := by
  have h := eqA_of (P := Tryd.prog) (d := 9999) (xs := #[.int .i64 x.1, .int .i64 x.2.1, .int .i64 x.2.2]) (ys := #[.int .i64 y.1, .int .i64 y.2.1, .int .i64 y.2.2]) (w := w) Tryd.underlying27 (by kernel_rfl)
    (eqf_cons (by rfl) (show (part 3 _ 0).run Tryd.prog w = .ok (.int .i64 x.1) w by kernel_rfl) (show (part 3 _ 0).run Tryd.prog w = .ok (.int .i64 y.1) w by kernel_rfl) (eqiH 9998 x.1 y.1 w)
      (eqf_cons (by rfl) (show (part 3 _ 1).run Tryd.prog w = .ok (.int .i64 x.2.1) w by kernel_rfl) (show (part 3 _ 1).run Tryd.prog w = .ok (.int .i64 y.2.1) w by kernel_rfl) (eqiH 9998 x.2.1 y.2.1 w)
        (eqf_last (by rfl) (show (part 3 _ 2).run Tryd.prog w = .ok (.int .i64 x.2.2) w by kernel_rfl) (show (part 3 _ 2).run Tryd.prog w = .ok (.int .i64 y.2.2) w by kernel_rfl) (eqiH 9998 x.2.2 y.2.2 w))))
  rw [show (x == y) = ((x.1 == y.1) && ((x.2.1 == y.2.1) && (x.2.2 == y.2.2))) from rfl]
  exact h
def tx : List Int := [97, 98, 32, 99, 97, 98]
def ab : List Int := [97, 98]
theorem val_ab : (compileV ab).2 = (0, 0) ∧ ((compileV ab).1.map fun pl => huntV 6 (hitsV tx pl) 4 1 false) = some ((4, 0, 1), 0) := by decide +kernel
theorem val_un : underV tx 4 = ([92, 60, 99, 97, 98, 92, 62], 0) := by decide +kernel
theorem awake_ab (w : World) : Calls Tryd.prog 16 #[.slice (some ⟨w.heap.size, 0, none⟩) 2 2] (w.alloc (.cells #[.int .u8 97, .int .u8 98] 5 (2, 3))) fun e w' => ∃ v, e = .returned (.tuple #[v, .int .i64 0, .int .i64 0]) ∧ Below w.heap.size w w' ∧ ∃ pl base, PatO w' base v (some pl) ∧ huntV 6 (hitsV tx pl) 4 1 false = ((4, 0, 1), 0) := by
  have h2 := compile_calls (w := w.alloc (.cells #[.int .u8 97, .int .u8 98] 5 (2, 3))) (c := 2) (u8_C (xs := ab) (fr := (2, 3)) (heap_alloc_new w _) (by decide)) (u8_of ab (by decide))
  have hv := val_ab
  generalize compileV ab = r at h2 hv
  obtain ⟨r1, r2, r3⟩ := r
  obtain ⟨hv1, hv2⟩ := hv
  simp only [Prod.mk.injEq] at hv1
  obtain ⟨rfl, rfl⟩ := hv1
  cases r1 with
  | none => cases hv2
  | some pl =>
    simp only [Option.map_some, Option.some.injEq] at hv2
    exact h2.mono fun e w' ⟨v, h3, h4, h5⟩ => ⟨v, h3, below_step (below_alloc (Below.refl _ _) _) h4, pl, _, h5, hv2⟩
theorem awake_next (w : World) {v : Value} {pl : List PTh} {base : Nat} (h : PatO w base v (some pl)) (hv : huntV 6 (hitsV tx pl) 4 1 false = ((4, 0, 1), 0)) : Calls Tryd.prog 10 #[.slice (some ⟨w.heap.size, 0, none⟩) 6 6, .int .i64 4, .int .i64 1, v, .bool false] (w.alloc (.cells #[.int .u8 97, .int .u8 98, .int .u8 32, .int .u8 99, .int .u8 97, .int .u8 98] 5 (6, 7))) fun e w' => e = .returned (.tuple #[.agg #[.int .i64 4, .int .i64 0, .int .i64 1], .int .i64 0]) ∧ Below w.heap.size w w' := by
  have h2 := hunt_calls (c := 6) (p := 4) (count := 1) (back := false) (u8_C (xs := tx) (fr := (6, 7)) (heap_alloc_new w _) (by decide)) (u8_of tx (by decide)) (by decide) (by decide) (PatO_below h (below_alloc (Below.refl _ _) _))
  rw [show tx.length = 6 from rfl, hv] at h2
  exact h2.mono fun e w' ⟨h3, h4⟩ => ⟨h3, below_step (below_alloc (Below.refl _ _) _) h4⟩
theorem awake_under (w : World) : Calls Tryd.prog 15 #[.slice (some ⟨w.heap.size, 0, none⟩) 6 6, .int .i64 4] (w.alloc (.cells #[.int .u8 97, .int .u8 98, .int .u8 32, .int .u8 99, .int .u8 97, .int .u8 98] 5 (6, 7))) fun e w' => ∃ v, e = .returned (.tuple #[v, .int .i64 0]) ∧ Below w.heap.size w w' ∧ ∃ A c, v = .slice A 7 c ∧ (Kd.int .u8).C w' A 7 [92, 60, 99, 97, 98, 92, 62] := by
  have h2 := under_calls (w := w.alloc (.cells #[.int .u8 97, .int .u8 98, .int .u8 32, .int .u8 99, .int .u8 97, .int .u8 98] 5 (6, 7))) (c := 6) (p := 4) (u8_C (xs := tx) (fr := (6, 7)) (heap_alloc_new w _) (by decide)) (u8_of tx (by decide)) (by decide) (by decide)
  rw [val_un] at h2
  refine h2.mono fun e w' h => ?_
  obtain ⟨v, h3, h4, h5⟩ := h
  obtain ⟨A, c, rfl⟩ := Kd.R_slice h5
  exact ⟨_, h3, below_step (below_alloc (Below.refl _ _) _) h4, A, c, rfl, (Kd.R_reads' h5).2.2⟩
theorem str7 {w : World} {A : Option Addr} {c : Nat} (h : (Kd.int .u8).C w A 7 [92, 60, 99, 97, 98, 92, 62]) : (convert 22 9 (.slice A 7 c)).run Tryd.prog w = .ok (.string ⟨#[92, 60, 99, 97, 98, 92, 62]⟩) w := by
  have h2 := Kd.C_string (P := Tryd.prog) (c := c) Tryd.underlying22 Tryd.underlying5 Tryd.underlying9 h
  rw [show strOfNums [92, 60, 99, 97, 98, 92, 62] = ⟨#[92, 60, 99, 97, 98, 92, 62]⟩ from by decide] at h2
  exact h2
set_option maxHeartbeats 2000000 in
set_option maxRecDepth 100000 in
theorem awake_calls {w : World} :
    Calls Tryd.prog 9 #[] w fun e w' => e = .returned (.bool true) ∧ Below w.heap.size w w' := by
  have kc := fun (w_ : World) (C_ : Array Value) (n_ c_ : Nat) => Lib.run_convert_bytes_const (P := Tryd.prog) w_ 22 5 C_ n_ c_ Tryd.underlying22 Tryd.underlying5
  have HC1 := Aside0.mk (awake_ab w)
  have kc1 : ∀ (w_ : World) (o_ : Obj) (C_ : Array Value) (n_ c_ : Nat), (convert 22 22 (.slice (some ⟨w_.heap.size + 1, 0, none⟩) n_ c_)).run Tryd.prog ((w_.alloc o_).alloc (.cells C_ 5)) = .ok (.slice (some ⟨w_.heap.size + 1, 0, none⟩) n_ c_) ((w_.alloc o_).alloc (.cells C_ 5 (C_.size, C_.size + 1))) := fun w_ o_ C_ n_ c_ => by
    have h := kc (w_.alloc o_) C_ n_ c_
    rw [World.size_alloc] at h
    exact h
  have HC3 : ∀ (w1 : World) (o_ : Obj), Aside0 (Calls Tryd.prog 15 #[.slice (some ⟨w1.heap.size + 1, 0, none⟩) 6 6, .int .i64 4] ((w1.alloc o_).alloc (.cells #[.int .u8 97, .int .u8 98, .int .u8 32, .int .u8 99, .int .u8 97, .int .u8 98] 5 (6, 7))) fun e w' => ∃ v, e = .returned (.tuple #[v, .int .i64 0]) ∧ Below (w1.alloc o_).heap.size (w1.alloc o_) w' ∧ ∃ A c, v = .slice A 7 c ∧ (Kd.int .u8).C w' A 7 [92, 60, 99, 97, 98, 92, 62]) := fun w1 o_ => ⟨by
    have h := awake_under (w1.alloc o_)
    rw [World.size_alloc] at h ⊢
    exact h⟩
  have heq : ∀ W : World, (Op.equalIn 10000 27 (.agg #[.int .i64 4, .int .i64 0, .int .i64 1]) (.agg #[.int .i64 4, .int .i64 0, .int .i64 1])).run Tryd.prog W = .ok true W := fun W => eqT (4, 0, 1) (4, 0, 1) W
  go_enter Tryd.func9, Tryd.ntmps9
  go_wp2_with (first
    | (go_at_call 16; (with_reducible refine HC1.out.mono ?_); rintro e w1 ⟨v1, rfl, hx, pl, base, hp, hv⟩; have H1 := Aside0.mk (And.intro hx (And.intro hp hv)); clear hx hp hv)
    | (go_at_call 10; (with_reducible refine (awake_next _ H1.out.2.1 H1.out.2.2).mono ?_); rintro e w2 ⟨rfl, hx⟩; have H2 := Aside0.mk hx; clear hx)
    | (go_at_call 15; (with_reducible refine (HC3 _ _).out.mono ?_); rintro e w3 ⟨v3, rfl, hx, A3, c3, e3, hc⟩; subst e3; have hcv := str7 (c := c3) hc; have BK := blk_below (blk_new w2 (.cells #[.int .i64 4, .int .i64 0, .int .i64 1] 27)) hx; have c0 := (blk_cell BK 0).trans rfl; have c1 := (blk_cell BK 1).trans rfl; have c2 := (blk_cell BK 2).trans rfl; clear BK; have H3 := Aside0.mk hx; clear hx hc))
  exact bodyPost_ret (v := .bool true) (by simp [results, Tryd.results9, go_sem]) rfl ⟨rfl, below_step (below_step H1.out.1 H2.out) (below_step (below_alloc (Below.refl _ _) (.cells #[.int .i64 4, .int .i64 0, .int .i64 1] 27)) H3.out)⟩
end Go.Proofs.YtffpkldphkmjmaaDoor.PT
end
