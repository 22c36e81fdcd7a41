/-
  Texts of one proof in one file (wip/some.py): XS, OC4, WalkObjectSelects.
  Conditions: none.
-/
import Derived.Test.YtcochbkdgjgaeaaDoorXO
import Derived.Test.YtcochbkdgjgaeaaDoorX0
import Derived.Test.YtcochbkdgjgaeaaDoorOC3
import Derived.Lib.Hide
import Derived.Test.YtcochbkdgjgaeaaDoorX25
import Derived.Test.YtcochbkdgjgaeaaDoorX24
section
namespace Go.Proofs.YtcochbkdgjgaeaaDoor.XO
open Go.RowKit Go.Proofs.YtcochbkdgjgaeaaDoorW.PrintWords Go.Proofs.YtcochbkdgjgaeaaDoor.X
def okS27 (x : S27) : Prop := okI64 x.f0 ∧ okI64 x.f1 ∧ okStr x.f2
def szS27 (x : S27) : Nat := (szOne x.f0 + (szOne x.f1 + szStr x.f2)) + 1
end Go.Proofs.YtcochbkdgjgaeaaDoor.XO
end
section
namespace Go.Proofs.YtcochbkdgjgaeaaDoor.OC4
open Go.RowKit Go.Proofs.YtcochbkdgjgaeaaDoorW.PrintWords Go.Proofs.YtcochbkdgjgaeaaDoorW.PrintLast Go.Proofs.YtcochbkdgjgaeaaDoorW.PrintMore Go.Proofs.YtcochbkdgjgaeaaDoor.X Go.Proofs.YtcochbkdgjgaeaaDoor.XL Go.Proofs.YtcochbkdgjgaeaaDoor.XO Go.Proofs.YtcochbkdgjgaeaaDoor.LN Go.Proofs.YtcochbkdgjgaeaaDoor.OB Go.Proofs.YtcochbkdgjgaeaaDoor.OB2 Go.Proofs.YtcochbkdgjgaeaaDoor.OVB Go.Proofs.YtcochbkdgjgaeaaDoor.OVX Go.Proofs.YtcochbkdgjgaeaaDoor.OVQ Go.Proofs.YtcochbkdgjgaeaaDoor.OVW Go.Proofs.YtcochbkdgjgaeaaDoor.OVS Go.Proofs.YtcochbkdgjgaeaaDoor.OR Go.Proofs.YtcochbkdgjgaeaaDoor.OR1 Go.Proofs.YtcochbkdgjgaeaaDoor.OR2 Go.Proofs.YtcochbkdgjgaeaaDoor.OC1 Go.Proofs.YtcochbkdgjgaeaaDoor.OC2 Go.Proofs.YtcochbkdgjgaeaaDoor.OC3
set_option linter.unusedVariables false
set_option linter.unusedSimpArgs false
theorem rv_sel (v : Int × Int × Bool) : ∃ r1 r2 r4 : Int, rV v = (r1, r2, false, r4) ∧ ((r4 = 0 ∧ (selW 1 v).1 = r1 ∧ (selW 1 v).2.1 = r2 ∧ (selW 1 v).2.2.1 = 1) ∨ (¬ r4 = 0 ∧ (selW 1 v).1 = 0 ∧ (selW 1 v).2.1 = 0 ∧ (selW 1 v).2.2.1 = 0)) ∧ (selW 1 v).2.2.2 = r4 := by
 unfold rV selW
 by_cases h : v.2.2 = true
 ·rw [if_pos h, if_pos h]; exact ⟨_, _, _, rfl, .inl ⟨rfl, rfl, rfl, rfl⟩, rfl⟩
 ·rw [if_neg h, if_neg h]; exact ⟨_, _, _, rfl, .inr ⟨by decide, rfl, rfl, rfl⟩, rfl⟩
theorem rT_rV {L : List S76} {o : Option (Nat × Nat)} : rT L o = rV (outV L o) := by
 cases o with
 | none => rfl
 | some x => rfl
set_option maxHeartbeats 4000000 in
theorem around_none {L : List S76} {p n : Int} (hh : Ev (fun k => quoinref13_holding.f k (L.map c48) p) (-1)) (A0 : Option Addr) (c0 : Nat) (w : World) (hr0 : Kd.C k48 w A0 L.length (L.map c48)) (hc0 : L.length ≤ c0) :
  Calls Tryd.prog 21 #[.slice A0 L.length c0, .int .i64 p, .int .i64 n] w fun e w' => e = .returned (.tuple #[.agg #[.int .i64 0, .int .i64 0, .bool false], .int .i64 130]) ∧ Below w.heap.size w w' := by
 have hlm : (L.map c48).length = L.length := List.length_map _
 have HB0 := Aside0.mk (below_alloc (Below.refl w.heap.size w) (.cells #[.int .i64 0, .int .i64 0, .bool false] 48))
 have HH : Aside0 (∀ W : World, Below w.heap.size w W → Calls Tryd.prog 37 #[.slice A0 L.length c0, .int .i64 p] W fun e w' => e = .returned (.int .i64 (-1)) ∧ Below W.heap.size W w') := by
  obtain ⟨k, h⟩ := hh
  refine ⟨fun W hW => ?_⟩
  have h3 := quoinref13_holding.calls k A0 c0 (L.map c48) p (-1) W (by rw [hlm]; exact Kd.C_below hr0 hW) (by rw [hlm]; exact hc0) (h k (Nat.le_refl _))
  rw [hlm] at h3
  refine h3.mono ?_
  rintro e w' ⟨he, hx⟩
  exact ⟨he, hx.below⟩
 have BX := Aside0.mk (blk_new w (.cells #[.int .i64 0, .int .i64 0, .bool false] 48))
 clear hh hr0 hlm
 go_enter Tryd.func21, Tryd.ntmps21
 go_wp2_with (go_at_call 37; (with_reducible refine (HH.out _ HB0.out).mono ?_); rintro e w1 ⟨rfl, hx⟩; have H1 := Aside0.mk (below_step HB0.out hx); have BK := Aside0.mk (blk_below BX.out hx); clear hx; have c0_ := (blk_cell BK.out 0).trans rfl; have c1_ := (blk_cell BK.out 1).trans rfl; have c2_ := (blk_cell BK.out 2).trans rfl; have f0_ := blk_frozen BK.out 0; have f1_ := blk_frozen BK.out 1; have f2_ := blk_frozen BK.out 2)
 exact bodyPost_ret (results_ct rfl _ _ w.heap.size 48 #[.int .i64 0, .int .i64 0, .bool false] (0, 0) _ rfl (by refine blk_put (cs := #[.int .i64 0, .int .i64 0, .bool false]) ?_ 2 _ rfl; refine blk_put (cs := #[.int .i64 0, .int .i64 0, .bool false]) ?_ 1 _ rfl; refine blk_put (cs := #[.int .i64 0, .int .i64 0, .bool false]) ?_ 0 _ rfl; exact BK.out) Tryd.underlying48 rfl (by kernel_rfl)) rfl ⟨rfl, below_set (below_set (below_set H1.out (Nat.le_refl _)) (Nat.le_refl _)) (Nat.le_refl _)⟩
section
variable {t : List Int} (hu : u8s t = true) (hl : t.length ≤ 1048576)
include hu hl
/-- What both accounts come to. -/
def Both (t : List Int) (a c : Int) (key : ByteArray) : Prop := ∃ r : A4, RC t a c key r ∧ Ev (fun k => object_Select.f k t a c key) r
theorem both_b {p c : Nat} (hp : p ≤ t.length) (hc : c + 1 ≤ 9999) {key : ByteArray} (around : Bool) (hs : (key.size : Int) = 2) (h0 : bt key 0 = if around = true then 97 else 105) {x op cl : Int} (hk : BKey x op cl) (hke : Ev (fun k => quoinref13_kept.f k x) (op, cl)) (hop : op ≠ 0) (h1 : bt key 1 = x) : Both t (p : Int) ((c + 1 : Nat) : Int) key := by
 refine ⟨_, fun A0 c0 W hr0 hc0 => ?_, Select_b hu hl hp hc hk around hs h0 h1⟩
 have hE := rbracketed_ev hl hk.ne (p := p) hc around
 obtain ⟨r1, r2, r4, e, hv, hE4⟩ := rv_sel (brkV around (nthP op cl t p c))
 rw [e] at hE
 obtain ⟨k, h⟩ := hE
 exact rsel_b hp hc hs around h0 h1 hke A0 c0 W hr0 hc0 (fronts hu hl hp A0 c0 W hr0 hc0) hv hE4 hop hk.no (fun W' hW => quoinref13_bracketed.calls k A0 c0 t _ _ op cl around r1 r2 false r4 W' (Kd.C_below hr0 hW) hc0 (h k (Nat.le_refl _)))
theorem both_q {p c : Nat} (hp : p ≤ t.length) (hc : c + 1 ≤ 9999) {key : ByteArray} (around : Bool) (hs : (key.size : Int) = 2) (h0 : bt key 0 = if around = true then 97 else 105) {x : Int} (h1 : bt key 1 = x) (hx : x = 34 ∨ x = 39 ∨ x = 96) : Both t (p : Int) ((c + 1 : Nat) : Int) key := by
 refine ⟨_, fun A0 c0 W hr0 hc0 => ?_, Select_q hu hl hp hc around hs h0 h1 hx⟩
 have hb := beg_le t p
 have hf := fin_ge t p
 have hfl := fin_le hp
 have hE := rquoted_ev hl (s := beg t p) (e := fin t p) (p := p) (by omega) hfl x around
 obtain ⟨r1, r2, r4, e, hv, hE4⟩ := rv_sel (quoV t (beg t p) (fin t p) around (fp p (lineQ t x (beg t p) (fin t p))))
 rw [e] at hE
 obtain ⟨k, h⟩ := hE
 exact rsel_q hp hc hs around h0 h1 (kept_no (by omega)) A0 c0 W hr0 hc0 (fronts hu hl hp A0 c0 W hr0 hc0) hv hE4 hx (fun W' hW => quoinref13_quoted.calls k A0 c0 t _ _ _ x around r1 r2 false r4 W' (Kd.C_below hr0 hW) hc0 (h k (Nat.le_refl _)))
theorem both_w {p c : Nat} (hp : p ≤ t.length) (hc : c + 1 ≤ 9999) {key : ByteArray} (around : Bool) (hs : (key.size : Int) = 2) (h0 : bt key 0 = if around = true then 97 else 105) (big : Bool) (h1 : bt key 1 = if big = true then 87 else 119) : Both t (p : Int) ((c + 1 : Nat) : Int) key := by
 refine ⟨_, fun A0 c0 W hr0 hc0 => ?_, Select_w hu hl hp hc around hs h0 big h1⟩
 have hb := beg_le t p
 have hf := fin_ge t p
 have hfl := fin_le hp
 have hch := lineL_chain (t := t) (big := big) (s := beg t p) (e := fin t p) (by omega)
 have hll := lineL_len (t := t) (big := big) (s := beg t p) (e := fin t p)
 have hw := rwords_ev hl (big := big) (s := beg t p) (e := fin t p) (by omega) hfl
 generalize lineL t big (beg t p) (fin t p) = L at hch hll hw ⊢
 obtain ⟨kw, hkw⟩ := hw
 have key2 : ∃ o, wordsV L p (c + 1) around = outV L o ∧ ∀ r1 r2 r4, rT L o = (r1, r2, false, r4) → ∀ (A : Option Addr) (n : Nat) (W : World), Kd.C k48 W A L.length (L.map c48) → L.length ≤ n → Calls Tryd.prog (if around = true then 21 else 22) #[.slice A L.length n, .int .i64 (p : Int), .int .i64 ((c + 1 : Nat) : Int)] W fun e w' => e = .returned (.tuple #[.agg #[.int .i64 r1, .int .i64 r2, .bool false], .int .i64 r4]) ∧ Below W.heap.size W w' := by
  unfold wordsV
  rcases hold_ev (p := p) hch (by omega) (-1) with ⟨h2, _, h3⟩ | ⟨i, hi, h2, h3⟩
  ·refine ⟨none, by rw [h2]; rfl, fun r1 r2 r4 hr A n W hC hn => ?_⟩
   have hr : ((0 : Int), (0 : Int), false, (130 : Int)) = (r1, r2, false, r4) := hr
   simp only [Prod.mk.injEq, true_and] at hr
   obtain ⟨rfl, rfl, rfl⟩ := hr
   cases around with
   | true => exact around_none h3 A n W hC hn
   | false => exact inner_calls (none_ev h3).1 A n W hC hn
  ·refine ⟨takenV L i (c + 1) around, by rw [h2, if_neg (by omega), Int.toNat_natCast], fun r1 r2 r4 hr A n W hC hn => ?_⟩
   cases around with
   | true =>
    refine around_calls (by omega) (p : Int) (by omega) hc hi h3 ?_ A n W hC hn
    rw [show takenV L i (c + 1) true = (tk L i (c + 1) i).map (fun m => (fst L i m, m)) from if_pos rfl] at hr
    exact hr
   | false =>
    have hI := inner_ev (c := c + 1) (by omega) hi (by omega) hc h3
    rw [hr] at hI
    exact inner_calls hI A n W hC hn
 obtain ⟨o, ho, hcall⟩ := key2
 rw [ho]
 obtain ⟨r1, r2, r4, e, hv, hE4⟩ := rv_sel (outV L o)
 have hx : (if big = true then (87 : Int) else 119) = 119 ∨ (if big = true then (87 : Int) else 119) = 87 := by cases big <;> decide
 have hbg : ((if big = true then (87 : Int) else 119) == 87) = big := by cases big <;> rfl
 refine rsel_w hp hc hs around h0 h1 (kept_no (by cases big <;> decide)) A0 c0 W hr0 hc0 (fronts hu hl hp A0 c0 W hr0 hc0) hv hE4 (L := L) hx (fun W' hW => ?_) (hcall r1 r2 r4 (by rw [rT_rV]; exact e))
 rw [hbg]
 exact quoinref13_words.calls kw A0 c0 t _ _ big _ W' (Kd.C_below hr0 hW) hc0 (hkw kw (Nat.le_refl _))
theorem both_p {p c : Nat} (hp : p ≤ t.length) (hc : c + 1 ≤ 9999) {key : ByteArray} (around : Bool) (hs : (key.size : Int) = 2) (h0 : bt key 0 = if around = true then 97 else 105) (h1 : bt key 1 = 112) : Both t (p : Int) ((c + 1 : Nat) : Int) key := by
 obtain ⟨L, i, line, hL, hi, hline, hfk, hE⟩ := par_ev hu hl hp (c := c + 1) (by omega) hc around
 refine ⟨_, fun A0 c0 W hr0 hc0 => ?_, Select_p hu hp hc around hs h0 h1 hE⟩
 have hlen := splitR_len t
 have hcl := cnt_le 10 t
 have hlL := Ch_len hL
 have hhold : Ev (fun k => quoinref13_holding.f k (L.map c48) (line : Int)) (i : Int) := by
  have hin : line < (splitR t).length := by
   have hcm := cnt_mono (t := t) hp (Nat.le_refl _)
   rw [List.take_length] at hcm
   omega
  obtain ⟨A, x, B, e1, e2, e3⟩ := Ch_at hL (Nat.zero_le line) (by omega)
  rcases hold_ev (p := line) hL (by omega) 0 with ⟨h2, h4, h3⟩ | ⟨j, hj, h2, h3⟩
  ·exact absurd ⟨e2, e3⟩ (h4 x (by rw [e1]; simp))
  ·rw [hfk] at h2
   rw [h2]
   exact h3
 have hF := fronts hu hl hp A0 c0 W hr0 hc0
 rw [hline] at hF
 exact rsel_p hp hc hs around h0 h1 (kept_no (by decide)) A0 c0 W hr0 hc0 hF rfl (fun W' hW => paragraph_calls hu hl hL hi hhold (by omega) hc around rfl A0 c0 W' (Kd.C_below hr0 hW) hc0)
omit hu hl in
theorem index_all : ∀ n : Fin 256, (n.val ≠ 40 ∧ n.val ≠ 41 ∧ n.val ≠ 98 ∧ n.val ≠ 91 ∧ n.val ≠ 93 ∧ n.val ≠ 123 ∧ n.val ≠ 125 ∧ n.val ≠ 66) → strings_IndexByte.f (⟨#[40, 41, 98, 91, 93, 123, 125, 66]⟩ : ByteArray) ((n.val : Nat) : Int) = some (-1) := by decide +kernel
omit hu hl in
/-- A byte that is no bracket's key. -/
theorem index_no {x : Int} (hr : 0 ≤ x ∧ x ≤ 255) (h : x ≠ 40 ∧ x ≠ 41 ∧ x ≠ 98 ∧ x ≠ 91 ∧ x ≠ 93 ∧ x ≠ 123 ∧ x ≠ 125 ∧ x ≠ 66) : strings_IndexByte.f (⟨#[40, 41, 98, 91, 93, 123, 125, 66]⟩ : ByteArray) x = some (-1) := by
 obtain ⟨n, rfl⟩ : ∃ n : Nat, x = (n : Int) := ⟨x.toNat, by omega⟩
 exact index_all ⟨n, by omega⟩ (by simp only; omega)
theorem both_no {p c : Nat} (hp : p ≤ t.length) (hc : c + 1 ≤ 9999) {key : ByteArray} (around : Bool) (hs : (key.size : Int) = 2) (h0 : bt key 0 = if around = true then 97 else 105) {x : Int} (h1 : bt key 1 = x) (hx : x ≠ 40 ∧ x ≠ 41 ∧ x ≠ 98 ∧ x ≠ 91 ∧ x ≠ 93 ∧ x ≠ 123 ∧ x ≠ 125 ∧ x ≠ 66)
  (hy : x ≠ 119 ∧ x ≠ 87 ∧ x ≠ 112 ∧ x ≠ 34 ∧ x ≠ 39 ∧ x ≠ 96) : Both t (p : Int) ((c + 1 : Nat) : Int) key := by
 obtain ⟨n1, n2, n3, n4, n5, n6⟩ := hy
 have m1 : (x == 87) = false := beq_eq_false_iff_ne.2 n2
 have m2 : (x == 96) = false := beq_eq_false_iff_ne.2 n6
 refine ⟨(0, 0, 0, 2), fun A0 c0 W hr0 hc0 => rsel_no hp hc hs around h0 h1 (kept_no hx) A0 c0 W hr0 hc0 (fronts hu hl hp A0 c0 W hr0 hc0) ⟨rfl, rfl, rfl, rfl⟩ rfl ⟨n1, n2, n3, n4, n5, n6⟩, ?_⟩
 refine into hu hp hc around hs h0 ?_
 rw [h1, m1]
 refine Ev.neg n1 (Ev.step (fun _ => object_Select.j1.eq_2 ..) (Ev.neg Bool.false_ne_true (Ev.neg n3 (Ev.neg n4 (Ev.neg n5 ?_)))))
 rw [m2]
 exact Ev.step (fun _ => object_Select.j2.eq_2 ..) (Ev.neg Bool.false_ne_true (Ev.cbind (index_no (by rw [← h1]; exact bt_range key 1) hx) (Ev.neg (by decide) (Ev.now _))))
/-- Every Select is the document's. -/
theorem both (a c : Int) (key : ByteArray) : Both t a c key := by
 -- what the guards refuse
 have bad : ¬ (0 ≤ a ∧ a ≤ (t.length : Int) ∧ 1 ≤ c ∧ c ≤ 9999 ∧ (key.size : Int) = 2 ∧ (bt key 0 = 105 ∨ bt key 0 = 97)) → Both t a c key := by
  intro hb
  refine ⟨(0, 0, 0, 2), ?_, ?_⟩
  ·exact rbad hb
  ·refine Ev.cbind (Of_eq hu a) ?_
   by_cases g1 : 0 ≤ a ∧ a ≤ (t.length : Int)
   ·have e1 : (if 0 ≤ a ∧ a ≤ (t.length : Int) then (cnt 10 (t.take a.toNat), (0 : Int)) else (0, 2)) = (cnt 10 (t.take a.toNat), 0) := if_pos g1
    rw [e1]
    refine Ev.pos rfl ?_
    by_cases g3 : c < 1
    ·exact Ev.pos g3 bad_obj
    refine Ev.neg g3 ?_
    by_cases g4 : c > 9999
    ·exact Ev.pos g4 bad_obj
    refine Ev.neg g4 ?_
    by_cases g5 : (key.size : Int) = 2
    ·refine Ev.pos g5 (Ev.pos (by omega) (Ev.neg (fun h => hb ⟨by omega, by omega, by omega, by omega, g5, .inl h⟩) ?_))
     rw [show (bt key 0 != 97) = true from bne_iff_ne.2 (fun h => hb ⟨by omega, by omega, by omega, by omega, g5, .inr h⟩)]
     exact bad_obj
    ·exact Ev.neg g5 bad_obj
   ·have e1 : (if 0 ≤ a ∧ a ≤ (t.length : Int) then (cnt 10 (t.take a.toNat), (0 : Int)) else (0, 2)) = (0, 2) := if_neg g1
    rw [e1]
    exact Ev.neg (by decide) bad_obj
 by_cases hg : 0 ≤ a ∧ a ≤ (t.length : Int) ∧ 1 ≤ c ∧ c ≤ 9999 ∧ (key.size : Int) = 2 ∧ (bt key 0 = 105 ∨ bt key 0 = 97)
 ·obtain ⟨g1, g2, g3, g4, g5, g6⟩ := hg
  obtain ⟨p, rfl⟩ : ∃ p : Nat, a = (p : Int) := ⟨a.toNat, by omega⟩
  obtain ⟨d, rfl⟩ : ∃ d : Nat, c = ((d + 1 : Nat) : Int) := ⟨c.toNat - 1, by omega⟩
  have hp : p ≤ t.length := by omega
  have hc : d + 1 ≤ 9999 := by omega
  obtain ⟨around, h0⟩ : ∃ around : Bool, bt key 0 = if around = true then 97 else 105 := by
   rcases g6 with h | h
   ·exact ⟨false, h⟩
   ·exact ⟨true, h⟩
  obtain ⟨x, h1⟩ : ∃ x, bt key 1 = x := ⟨_, rfl⟩
  by_cases e1 : x = 119
  ·exact both_w hu hl hp hc around g5 h0 false (by rw [h1, e1]; rfl)
  by_cases e2 : x = 87
  ·exact both_w hu hl hp hc around g5 h0 true (by rw [h1, e2]; rfl)
  by_cases e3 : x = 112
  ·exact both_p hu hl hp hc around g5 h0 (by rw [h1, e3])
  by_cases e4 : x = 34 ∨ x = 39 ∨ x = 96
  ·exact both_q hu hl hp hc around g5 h0 h1 e4
  by_cases k1 : x = 40
  ·subst k1; exact both_b hu hl hp hc around g5 h0 key_40 (kept_at (by decide +kernel)) (by decide) h1
  by_cases k2 : x = 41
  ·subst k2; exact both_b hu hl hp hc around g5 h0 key_41 (kept_at (by decide +kernel)) (by decide) h1
  by_cases k3 : x = 98
  ·subst k3; exact both_b hu hl hp hc around g5 h0 key_98 (kept_at (by decide +kernel)) (by decide) h1
  by_cases k4 : x = 91
  ·subst k4; exact both_b hu hl hp hc around g5 h0 key_91 (kept_at (by decide +kernel)) (by decide) h1
  by_cases k5 : x = 93
  ·subst k5; exact both_b hu hl hp hc around g5 h0 key_93 (kept_at (by decide +kernel)) (by decide) h1
  by_cases k6 : x = 123
  ·subst k6; exact both_b hu hl hp hc around g5 h0 key_123 (kept_at (by decide +kernel)) (by decide) h1
  by_cases k7 : x = 125
  ·subst k7; exact both_b hu hl hp hc around g5 h0 key_125 (kept_at (by decide +kernel)) (by decide) h1
  by_cases k8 : x = 66
  ·subst k8; exact both_b hu hl hp hc around g5 h0 key_66 (kept_at (by decide +kernel)) (by decide) h1
  exact both_no hu hl hp hc around g5 h0 h1 ⟨k1, k2, k3, k4, k5, k6, k7, k8⟩ ⟨e1, e2, e3, fun h => e4 (.inl h), fun h => e4 (.inr (.inl h)), fun h => e4 (.inr (.inr h))⟩
 ·exact bad hg
end
end Go.Proofs.YtcochbkdgjgaeaaDoor.OC4
end
section
namespace Go.Proofs.YtcochbkdgjgaeaaDoor.WalkObjectSelects
open Go.RowKit Go.Proofs.YtcochbkdgjgaeaaDoorW.PrintWords Go.Proofs.YtcochbkdgjgaeaaDoorW.PrintLast Go.Proofs.YtcochbkdgjgaeaaDoorW.PrintMore Go.Proofs.YtcochbkdgjgaeaaDoor.X Go.Proofs.YtcochbkdgjgaeaaDoor.XL Go.Proofs.YtcochbkdgjgaeaaDoor.XO Go.Proofs.YtcochbkdgjgaeaaDoor.LN Go.Proofs.YtcochbkdgjgaeaaDoor.OC3 Go.Proofs.YtcochbkdgjgaeaaDoor.OC4
set_option linter.unusedVariables false
set_option linter.unusedSimpArgs false
theorem awake_ev : Ev (fun k => quoinlaw13_awake.f k) true := Ev.of quoinlaw13_awake.mono (k := 60) (by decide +kernel)
theorem infoB : (Tryd.prog.info? 5).map (fun i => (i.zero, i.size, i.bytes)) = some (some (.int .u8 0), 1, 1) := by kernel_rfl
theorem empty_R (w : World) : (Kd.int .u8).R 5 (w.alloc (.cells #[] 5)) w.heap.size (fun _ => True) (.slice (some ⟨w.heap.size, 0, none⟩) 0 0) [] := Kd.R_of_own (enc := Value.int .u8) (h1 := fun _ => rfl) ⟨rfl, .inr ⟨w.heap.size, 0, #[], rfl, Nat.le_refl _, heap_alloc_new w _, Nat.le_refl _, by simp [maxLen], rfl, rfl⟩⟩ (fun _ _ => trivial)
theorem u8_C {w : World} {b : Nat} {xs : List Int} {fr : Nat × Nat} (h : w.heap[b]? = some (.cells (xs.map (Value.int .u8)).toArray 5 fr)) (hl : xs.length ≤ 281474976710656) : Kd.C (Kd.int .u8) w (some ⟨b, 0, none⟩) xs.length xs := by
 refine Kd.C_of_reads (enc := Value.int .u8) (d := (0 : Int)) (h1 := fun _ => rfl) ⟨rfl, by omega, fun _ => ⟨_, rfl, fun j hj => ?_⟩⟩
 have h1 : w.cell? ⟨b, j, none⟩ = some (.int .u8 (xs.getD j 0)) := (cell_of_row w b j _ _ _ h).trans (by rw [List.getD_eq_getElem?_getD]; simp [hj])
 cases j with
 | zero => simpa [Addr.add] using h1
 | succ j => simpa [Addr.add] using h1
/-- A row that isn't empty begins its block. -/
theorem R_head {e base : Nat} {ok : Nat → Prop} {w : World} {v : Value} {xs : List Int} (h : (Kd.int .u8).R e w base ok v xs) (hn : 0 < xs.length) : ∃ g c, v = .slice (some ⟨g, 0, none⟩) xs.length c := by
 have ho := Kd.own_of_R h
 rcases ho.2 with ⟨_, h0⟩ | ⟨g, cap, cur, hv, _⟩
 ·omega
 ·exact ⟨g, cap, hv⟩
/-- A cut that goes beyond the length. -/
theorem cut_room {P : Program} (t e : TypeId) (kh : IntKind) {i : TypeInfo} (ht : P.underlying t = some (.slice e)) (hi : P.info? e = some i) (A : Option Addr) (n c : Nat) (j : Int) (h0 : 0 ≤ j) (hc : j ≤ c) :
  ∀ W : World, (Instr.slice t (.slice A n c) none (some (.int kh j)) none).run P W = .ok (.slice A j.toNat c) W := by
 intro W
 have hel : P.elem t = e := by simp [Program.elem, ht]
 have hu : P.underlying t = some (.slice (P.elem t)) := by rw [hel]; exact ht
 have ha : (A.map fun x => x.add 0) = A := by cases A <;> simp [Addr.add]
 rw [run_slice_h W t A n c hu kh j h0 (by omega), hel]
 simp [sizeOf, typeInfo, hi, sliced, Result.andThen, ha]
theorem byte_in {w : World} {g n : Nat} {xs : List Int} (h : (Kd.int .u8).C w (some ⟨g, 0, none⟩) n xs) {i : Nat} (hi : i < n) : w.cell? ⟨g, i, none⟩ = some (.int .u8 (xs.getD i 0)) := by
 obtain ⟨ad, c, ea, hc, hk, hcc⟩ := Kd.C_get h 0 (i : Int) (by omega) (by omega)
 obtain rfl := Option.some.inj ea
 rw [Int.toNat_natCast] at hk hcc
 have hk : c = [.int .u8 (xs.getD i 0)] := hk
 subst hk
 have h2 := hcc 0 _ rfl
 have e : (Kd.int .u8).sz = 1 := rfl
 rw [e, Nat.mul_one, Nat.add_zero] at h2
 cases i with
 | zero => simpa [Addr.add] using h2
 | succ i => simpa [Addr.add] using h2
set_option maxHeartbeats 4000000 in
/-- What is lent: the text in a row of its own, with two marked bytes behind. -/
theorem lent_calls (A0 : Option Addr) (c0 : Nat) (l0 : List Int) (w : World) (hl0 : l0.length ≤ 1048576) (hr0 : Kd.C (Kd.int .u8) w A0 l0.length l0) (hc0 : l0.length ≤ c0) :
  Calls Tryd.prog 8 #[.slice A0 l0.length c0] w fun e w' => ∃ g c, e = .returned (.slice (some ⟨g, 0, none⟩) l0.length c) ∧ Aside0 (l0.length + 2 ≤ c) ∧ Aside0 ((Kd.int .u8).C w' (some ⟨g, 0, none⟩) (l0.length + 2) (l0 ++ [77, 78])) ∧ Below w.heap.size w w' := by
 have HR0 := Aside0.mk hr0
 clear hr0
 go_enter Tryd.func8, Tryd.ntmps8
 go_wp2_with (first
  | (at_builtin; refine Kd.R_append_row (Value.int .u8) (0 : Int) (h1 := fun _ => rfl) (w0 := w) w.heap.size rfl (.tmp 3) (.tmp 4) 22 5 (.int .u8 0) 1 rfl Tryd.underlying22 infoB rfl (by decide) (.slice (some ⟨w.heap.size, 0, none⟩) 0 0) [] l0 A0 l0.length c0 (fun _ => True) rfl rfl (fun _ _ => trivial) (empty_R w) (Kd.C_alloc HR0.out (.cells #[] 5)) (below_alloc (Below.refl w.heap.size w) (.cells #[] 5)) (by simp only [World.size_alloc]; omega) (by simp only [List.length_nil]; omega) ?_; intro v3 w3 hR hB _ _; have H3 := Aside0.mk (And.intro hR hB); clear hR hB)
  | (at_builtin; refine Kd.R_append_row (Value.int .u8) (0 : Int) (h1 := fun _ => rfl) (w0 := w) w.heap.size rfl (.tmp 5) (.tmp 6) 22 5 (.int .u8 0) 1 rfl Tryd.underlying22 infoB rfl (by decide) v3 ([] ++ l0) [77, 78] (some ⟨w3.heap.size, 0, none⟩) 2 2 (fun _ => True) rfl rfl (fun _ _ => trivial) (Kd.R_alloc H3.out.1 (.cells #[.int .u8 77, .int .u8 78] 5)) (u8_C (xs := [77, 78]) (fr := (0, 0)) (blk_new w3 _) (by decide)) (H3.out.2.alloc H3.out.2.size _) (by have h := H3.out.2.size; simp only [World.size_alloc]; omega) (by simp only [List.nil_append]; omega) ?_; intro v4 w4 hR hB _ _; have H4 := Aside0.mk (And.intro hR hB); clear hR hB; refine Hid.out ?_))
 have hLe : [] ++ l0 ++ [77, 78] = l0 ++ [77, 78] := by simp
 rw [hLe] at H4
 clear hLe
 obtain ⟨gr, cr, er⟩ := R_head H4.out.1 (by simp)
 have hLl : (l0 ++ [77, 78] : List Int).length = l0.length + 2 := by simp
 rw [hLl] at er
 subst er
 have hcr : l0.length + 2 ≤ cr := by have h := (Kd.R_reads' H4.out.1).2.1; exact h
 obtain ⟨i0, hi0, hsz⟩ : ∃ i, Tryd.prog.info? 5 = some i ∧ i.size = 1 := ⟨_, rfl, rfl⟩
 have hcut := cut_to (P := Tryd.prog) 22 5 .i64 Tryd.underlying22 hi0 (some ⟨gr, 0, none⟩) (l0.length + 2) cr (l0.length : Int) (by omega) (by omega) hcr
 rw [Int.toNat_natCast] at hcut
 have HL := Aside0.mk hLl
 clear hi0 hsz hLl
 refine Lib.hid ?_
 go_wp2
 go_ret
 exact ⟨gr, cr, rfl, ⟨hcr⟩, ⟨by have h := (Kd.R_reads' H4.out.1).2.2; rw [HL.out] at h; exact h⟩, H4.out.2⟩
set_option maxHeartbeats 4000000 in
/-- What was lent is whole. -/
theorem whole_calls (A0 : Option Addr) (c0 g c : Nat) (l0 : List Int) (w : World) (hl0 : l0.length ≤ 1048576) (hr0 : Kd.C (Kd.int .u8) w A0 l0.length l0) (hc0 : l0.length ≤ c0) (hc : l0.length + 2 ≤ c) (hr1 : (Kd.int .u8).C w (some ⟨g, 0, none⟩) (l0.length + 2) (l0 ++ [77, 78])) :
  Calls Tryd.prog 11 #[.slice (some ⟨g, 0, none⟩) l0.length c, .slice A0 l0.length c0] w fun e w' => e = .returned (.bool true) ∧ Below w.heap.size w w' := by
 obtain ⟨i0, hi0, hsz⟩ : ∃ i, Tryd.prog.info? 5 = some i ∧ i.size = 1 := ⟨_, rfl, rfl⟩
 have hcut := cut_room (P := Tryd.prog) 22 5 .i64 Tryd.underlying22 hi0 (some ⟨g, 0, none⟩) l0.length c ((l0.length : Int) + 2) (by omega) (by omega)
 rw [show ((l0.length : Int) + 2).toNat = l0.length + 2 from by omega] at hcut
 have hLl : (l0 ++ [77, 78] : List Int).length = l0.length + 2 := by simp
 have hC := Kd.C_take (m := l0.length) (by rw [hLl]; exact hr1) (by omega)
 rw [List.take_append_of_le_length (Nat.le_refl _), List.take_length] at hC
 have k1 := Kd.C_string (P := Tryd.prog) (c := c) Tryd.underlying22 Tryd.underlying5 Tryd.underlying9 hC
 have k2 := Kd.C_string (P := Tryd.prog) (c := c0) Tryd.underlying22 Tryd.underlying5 Tryd.underlying9 hr0
 have q1 := byte_in hr1 (i := l0.length) (by omega)
 have q2 := byte_in hr1 (i := l0.length + 1) (by omega)
 rw [show (l0 ++ [77, 78] : List Int).getD l0.length 0 = 77 from by rw [List.getD_eq_getElem?_getD, List.getElem?_append_right (Nat.le_refl _), Nat.sub_self]; rfl] at q1
 rw [show (l0 ++ [77, 78] : List Int).getD (l0.length + 1) 0 = 78 from by rw [List.getD_eq_getElem?_getD, List.getElem?_append_right (by omega), show l0.length + 1 - l0.length = 1 from by omega]; rfl] at q2
 have q3 : (0 ≤ (l0.length : Int)) = True := eq_true (by omega)
 have q4 : ((l0.length : Int) < (l0.length : Int) + 2) = True := eq_true (by omega)
 have q5 : ((l0.length : Int) + 1 < (l0.length : Int) + 2) = True := eq_true (by omega)
 have q6 : (0 ≤ (l0.length : Int) + 1) = True := eq_true (by omega)
 clear hi0 hsz hLl hC hr0 hr1
 go_enter Tryd.func11, Tryd.ntmps11
 go_wp2
 go_ret
 exact ⟨rfl, Below.refl _ _⟩
theorem eqiH (d : Nat) (x y : Int) (w : World) : (Op.equalIn (d + 1) 3 (.int .i64 x) (.int .i64 y)).run Tryd.prog w = .ok (x == y) w := by
 simp only [Op.equalIn, Sem.run_bind, run_underlying Tryd.underlying3, Result.andThen_ok]
 simp
theorem eqT (x y z : Int) (w : World) : (Op.equalIn 10000 29 (.agg #[.int .i64 x, .int .i64 y, .int .i64 z]) (.agg #[.int .i64 x, .int .i64 y, .int .i64 z])).run Tryd.prog w = .ok true w := by
 have h := eqA_of (P := Tryd.prog) (d := 9999) (xs := #[.int .i64 x, .int .i64 y, .int .i64 z]) (ys := #[.int .i64 x, .int .i64 y, .int .i64 z]) (w := w) Tryd.underlying29 (by kernel_rfl)
  (eqf_cons (by rfl) (show (part 3 _ 0).run Tryd.prog w = .ok (.int .i64 x) w by kernel_rfl) (show (part 3 _ 0).run Tryd.prog w = .ok (.int .i64 x) w by kernel_rfl) (eqiH 9998 x x w)
   (eqf_cons (by rfl) (show (part 3 _ 1).run Tryd.prog w = .ok (.int .i64 y) w by kernel_rfl) (show (part 3 _ 1).run Tryd.prog w = .ok (.int .i64 y) w by kernel_rfl) (eqiH 9998 y y w)
    (eqf_last (by rfl) (show (part 3 _ 2).run Tryd.prog w = .ok (.int .i64 z) w by kernel_rfl) (show (part 3 _ 2).run Tryd.prog w = .ok (.int .i64 z) w by kernel_rfl) (eqiH 9998 z z w))))
 rw [beq_self_eq_true, beq_self_eq_true, beq_self_eq_true] at h
 exact h
theorem cut2 {w : World} {g : Nat} {l0 : List Int} (h : (Kd.int .u8).C w (some ⟨g, 0, none⟩) (l0.length + 2) (l0 ++ [77, 78])) : (Kd.int .u8).C w (some ⟨g, 0, none⟩) l0.length l0 := by
 have hLl : (l0 ++ [77, 78] : List Int).length = l0.length + 2 := by simp
 have hC := Kd.C_take (m := l0.length) (by rw [hLl]; exact h) (by omega)
 rw [List.take_append_of_le_length (Nat.le_refl _), List.take_length] at hC
 exact hC
/-- One Select twice: both answers are one. -/
theorem two_calls {l0 : List Int} (hu : u8s l0 = true) (hl : l0.length ≤ 1048576) (a c : Int) (key : ByteArray) : ∃ r1 r2 r3 r4 : Int,
  (∀ (W : World) (A : Option Addr) (n : Nat), Kd.C (Kd.int .u8) W A l0.length l0 → l0.length ≤ n → Calls Tryd.prog 9 #[.slice A l0.length n, .int .i64 a, .int .i64 c, .string key] W fun e w' => e = .returned (.tuple #[.agg #[.int .i64 r1, .int .i64 r2, .int .i64 r3], .int .i64 r4]) ∧ Below W.heap.size W w') ∧
  (∀ (W : World) (A : Option Addr) (n : Nat), Kd.C (Kd.int .u8) W A l0.length l0 → l0.length ≤ n → Calls Tryd.prog 10 #[.slice A l0.length n, .int .i64 a, .int .i64 c, .string key] W fun e w' => e = .returned (.tuple #[.agg #[.int .i64 r1, .int .i64 r2, .int .i64 r3], .int .i64 r4]) ∧ Below W.heap.size W w') := by
 obtain ⟨⟨r1, r2, r3, r4⟩, hRC, ⟨k2, h2⟩⟩ := both hu hl a c key
 exact ⟨r1, r2, r3, r4, fun W A n hC hn => hRC A n W hC hn, fun W A n hC hn => object_Select.calls k2 A n l0 a c key r1 r2 r3 r4 W hC hn (h2 k2 (Nat.le_refl _))⟩
set_option maxHeartbeats 8000000 in
set_option maxRecDepth 100000 in
theorem walk (A0 : Option Addr) (c0 : Nat) (l0 : List Int) (A1 : Option Addr) (c1 : Nat) (l1 : List (S27)) (w : World) (hr0 : Kd.C (Kd.int .u8) w A0 l0.length l0) (hc0 : l0.length ≤ c0) (hr1 : Kd.C k27 w A1 l1.length l1) (hc1 : l1.length ≤ c1) (o0 : (okSl 1 okU8) l0) (o1 : (okSl 32 okS27) l1) (hb : ((szSl szOne) l0 + (szSl szS27) l1 ≤ 1048576)) :
  Calls Tryd.prog 3 #[.slice A0 l0.length c0, .slice A1 l1.length c1] w fun e w' => e = .returned (.bool true) ∧ Below w.heap.size w w' := by
 have hl0 : l0.length ≤ 1048576 := by have h1 := szSl_length (szOne (α := Int)) (fun _ => Nat.le_refl _) l0; omega
 have hl1 : l1.length ≤ 1048576 := by have h1 := szSl_length szS27 (fun a => by unfold szS27; omega) l1; omega
 have hu : u8s l0 = true := u8s_ok o0
 have HA : Aside0 (∀ W : World, Calls Tryd.prog 7 #[] W fun e w' => e = .returned (.bool true) ∧ Below W.heap.size W w') := by
  obtain ⟨k, h⟩ := awake_ev
  exact ⟨fun W => quoinlaw13_awake.calls k true W (h k (Nat.le_refl _))⟩
 have HT := Aside0.mk (fun a c key => two_calls hu hl0 a c key)
 have HC := Aside0.mk (And.intro hr0 hr1)
 clear hr0 hr1 o0 o1 hb hu
 by_cases hbig : 16384 < l0.length ∨ 1024 < l1.length
 ·have hcase : (16384 < (l0.length : Int)) = True ∨ ((16384 < (l0.length : Int)) = False ∧ (1024 < (l1.length : Int)) = True) := by
   by_cases h1 : 16384 < l0.length
   ·exact .inl (eq_true (by omega))
   ·exact .inr ⟨eq_false (by omega), eq_true (by omega)⟩
  clear hbig
  rcases hcase with g1 | ⟨g1, g2⟩
  ·go_enter Tryd.func3, Tryd.ntmps3
   go_wp2_with (go_at_call 7; (with_reducible refine (HA.out _).mono ?_); rintro e w1 ⟨rfl, hx⟩; have H1 := Aside0.mk hx; clear hx)
   go_ret
   exact ⟨rfl, H1.out⟩
  ·go_enter Tryd.func3, Tryd.ntmps3
   go_wp2_with (go_at_call 7; (with_reducible refine (HA.out _).mono ?_); rintro e w1 ⟨rfl, hx⟩; have H1 := Aside0.mk hx; clear hx)
   go_ret
   exact ⟨rfl, H1.out⟩
 ·have g1 : (16384 < (l0.length : Int)) = False := eq_false (by omega)
  have g2 : (1024 < (l1.length : Int)) = False := eq_false (by omega)
  clear hbig
  go_enter Tryd.func3, Tryd.ntmps3
  go_wp2_with (first
   | (go_at_call 7; (with_reducible refine (HA.out _).mono ?_); rintro e w1 ⟨rfl, hx⟩; have H1 := Aside0.mk hx; clear hx)
   | (go_at_call 8; (with_reducible refine (lent_calls A0 c0 l0 _ hl0 (Kd.C_below HC.out.1 H1.out) hc0).mono ?_); rintro e w2 ⟨g, c, rfl, hc, hC, hx⟩; have HL := Aside0.mk (And.intro hc.out hC.out); have H2 := Aside0.mk (below_step H1.out hx); clear hc hC hx))
  go_loopg [26] l1.length (fun k v26 wl => ∃ i : Nat, i + k = l1.length ∧ v26 = .int .i64 (i : Int) ∧ Aside0 (Below w2.heap.size w2 wl))
  case atStart => exact ⟨0, by omega, rfl, ⟨Below.refl _ _⟩⟩
  case round =>
   obtain ⟨i, hi, rfl, HW⟩ := hrel
   have HCL := Aside0.mk (Kd.C_below HL.out.2 HW.out)
   have HC0 := Aside0.mk (Kd.C_below HC.out.1 (below_step H2.out HW.out))
   cases gk with
   | zero =>
    obtain rfl : i = l1.length := by omega
    have q1 : ((l1.length : Int) < (l1.length : Int)) = False := eq_false (by omega)
    go_wp2_with (go_at_call 11; (with_reducible refine (whole_calls A0 c0 g c l0 _ hl0 HC0.out hc0 HL.out.1 HCL.out).mono ?_); rintro e w3 ⟨rfl, hx⟩; have H3 := Aside0.mk (below_step (below_step H2.out HW.out) hx); clear hx)
    go_ret
    exact ⟨rfl, H3.out⟩
   | succ k =>
    have q1 : ((i : Int) < (l1.length : Int)) = True := eq_true (by omega)
    have q2 : (0 ≤ (i : Int)) = True := eq_true (by omega)
    obtain ⟨ad, rfl, hx0, hx1, hx2⟩ := at_T27 (Kd.C_below HC.out.2 (below_step H2.out HW.out)) (i : Int) (by omega) (by omega)
    rw [Int.toNat_natCast] at hx0 hx1 hx2
    generalize rd_T27 l1 (i : Int) = x at hx0 hx1 hx2
    obtain ⟨r1, r2, r3, r4, hT1, hT2⟩ := HT.out x.f0 x.f1 x.f2
    have HT1 := Aside0.mk hT1
    have HT2 := Aside0.mk hT2
    have HBK := Aside0.mk (below_alloc (Below.refl wr.heap.size wr) (.cells #[.int .i64 x.f0, .int .i64 x.f1, .string x.f2] 27))
    have BKx := Aside0.mk (blk_new wr (.cells #[.int .i64 x.f0, .int .i64 x.f1, .string x.f2] 27))
    have heq := eqT r1 r2 r3
    clear hT1 hT2
    have HN := Aside0.mk (show l0.length ≤ c by have := HL.out.1; omega)
    go_wp2_with (first
     | (go_at_call 9; (with_reducible refine (HT1.out _ A0 c0 (Kd.C_below HC0.out HBK.out) hc0).mono ?_); rintro e w3 ⟨rfl, hx⟩; have H3 := Aside0.mk (below_alloc (below_step HBK.out hx) (.cells #[.int .i64 r1, .int .i64 r2, .int .i64 r3] 29)); have BX3 := Aside0.mk (blk_alloc (blk_below BKx.out hx) (.cells #[.int .i64 r1, .int .i64 r2, .int .i64 r3] 29)); have BR3 := Aside0.mk (blk_new w3 (.cells #[.int .i64 r1, .int .i64 r2, .int .i64 r3] 29)); clear hx; have y0 := (blk_cell BX3.out 0).trans rfl; have y1 := (blk_cell BX3.out 1).trans rfl; have y2 := (blk_cell BX3.out 2).trans rfl)
     | (go_at_call 10; (with_reducible refine (HT2.out _ (some ⟨g, 0, none⟩) c (cut2 (Kd.C_below HCL.out H3.out)) HN.out).mono ?_); rintro e w4 ⟨rfl, hx⟩; have H4 := Aside0.mk (below_alloc (below_step H3.out hx) (.cells #[.int .i64 r1, .int .i64 r2, .int .i64 r3] 29)); have BR4 := Aside0.mk (blk_alloc (blk_below BR3.out hx) (.cells #[.int .i64 r1, .int .i64 r2, .int .i64 r3] 29)); have BS4 := Aside0.mk (blk_new w4 (.cells #[.int .i64 r1, .int .i64 r2, .int .i64 r3] 29)); clear hx; have z0 := (blk_cell BR4.out 0).trans rfl; have z1 := (blk_cell BR4.out 1).trans rfl; have z2 := (blk_cell BR4.out 2).trans rfl; have v0 := (blk_cell BS4.out 0).trans rfl; have v1 := (blk_cell BS4.out 1).trans rfl; have v2 := (blk_cell BS4.out 2).trans rfl))
    go_roundg k
    case measure => omega
    case rel => exact ⟨i + 1, by omega, by go_num, ⟨below_step HW.out H4.out⟩⟩
end Go.Proofs.YtcochbkdgjgaeaaDoor.WalkObjectSelects
end
