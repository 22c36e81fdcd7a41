/-
 The second account's Select by hand; object.Select is the document's.
 Conditions: the text has at most 1048576 bytes.
-/
import Derived.Test.YtcochbkdgjgaeaaDoorSAB
import Derived.Test.YtcochbkdgjgaeaaDoorSAA
import Derived.Test.YtcochbkdgjgaeaaDoorX28
import Derived.Test.YtcochbkdgjgaeaaDoorX29
import Derived.Test.YtcochbkdgjgaeaaDoorX30
import Derived.Test.YtcochbkdgjgaeaaDoorX31
import Derived.Test.YtcochbkdgjgaeaaDoorX35
import Derived.Test.YtcochbkdgjgaeaaDoorX44
import Derived.Test.YtcochbkdgjgaeaaDoorX46
import Derived.Test.YtcochbkdgjgaeaaDoorX38
import Derived.Test.YtcochbkdgjgaeaaDoorX24
import Derived.Lib.Hide
namespace Go.Proofs.YtcochbkdgjgaeaaDoor.OC3
open Go.RowKit Go.Proofs.YtcochbkdgjgaeaaDoorW.PrintWords Go.Proofs.YtcochbkdgjgaeaaDoorW.PrintLast Go.Proofs.YtcochbkdgjgaeaaDoorW.PrintMore Go.Proofs.YtcochbkdgjgaeaaDoor.X Go.Proofs.YtcochbkdgjgaeaaDoor.XL Go.Proofs.YtcochbkdgjgaeaaDoor.XO Go.Proofs.YtcochbkdgjgaeaaDoor.LN Go.Proofs.YtcochbkdgjgaeaaDoor.OB Go.Proofs.YtcochbkdgjgaeaaDoor.OB2 Go.Proofs.YtcochbkdgjgaeaaDoor.OVB Go.Proofs.YtcochbkdgjgaeaaDoor.OVX Go.Proofs.YtcochbkdgjgaeaaDoor.OVQ Go.Proofs.YtcochbkdgjgaeaaDoor.OVW Go.Proofs.YtcochbkdgjgaeaaDoor.OVS Go.Proofs.YtcochbkdgjgaeaaDoor.OR Go.Proofs.YtcochbkdgjgaeaaDoor.OR1 Go.Proofs.YtcochbkdgjgaeaaDoor.OR2 Go.Proofs.YtcochbkdgjgaeaaDoor.OC1 Go.Proofs.YtcochbkdgjgaeaaDoor.OC2
set_option linter.unusedVariables false
set_option linter.unusedSimpArgs false
abbrev A4 := Int × Int × Int × Int
/-- What is refused. -/
theorem bad_obj {t : List Int} {a c line : Int} {key : ByteArray} : Ev (fun k => object_Select.j0 k t a c key line true) (0, 0, 0, 2) := Ev.step (fun _ => object_Select.j0.eq_2 ..) (Ev.pos rfl (Ev.now _))
/-- The keys' brackets. -/
theorem kept_no {x : Int} (h : x ≠ 40 ∧ x ≠ 41 ∧ x ≠ 98 ∧ x ≠ 91 ∧ x ≠ 93 ∧ x ≠ 123 ∧ x ≠ 125 ∧ x ≠ 66) : Ev (fun k => quoinref13_kept.f k x) (0, 0) := by
 obtain ⟨h1, h2, h3, h4, h5, h6, h7, h8⟩ := h
 have e3 : (x == 98) = false := beq_eq_false_iff_ne.2 h3
 have e5 : (x == 93) = false := beq_eq_false_iff_ne.2 h5
 refine Ev.neg h1 (Ev.neg h2 ?_)
 rw [e3]
 refine Ev.step (fun _ => quoinref13_kept.j0.eq_2 ..) (Ev.neg Bool.false_ne_true (Ev.neg h4 ?_))
 rw [e5]
 exact Ev.step (fun _ => quoinref13_kept.j1.eq_2 ..) (Ev.neg Bool.false_ne_true (Ev.neg h6 (Ev.neg h7 (Ev.neg h8 (Ev.now _)))))
theorem kept_at {x : Int} {r : Int × Int} (h : quoinref13_kept.f 5 x = some r) : Ev (fun k => quoinref13_kept.f k x) r := Ev.of (quoinref13_kept.mono _) (k := 5) h
/-- What the calls ahead of the choice come to. -/
def Fronts (t : List Int) (A0 : Option Addr) (c0 : Nat) (w : World) (p ln sb fe : Int) : Prop :=
 (∀ W : World, Below w.heap.size w W → Calls Tryd.prog 16 #[.slice A0 t.length c0, .int .i64 p] W fun e w' => e = .returned (.tuple #[.int .i64 ln, .int .i64 0]) ∧ Below W.heap.size W w') ∧
 (∀ W : World, Below w.heap.size w W → Calls Tryd.prog 17 #[.slice A0 t.length c0, .int .i64 ln] W fun e w' => e = .returned (.tuple #[.int .i64 sb, .int .i64 0]) ∧ Below W.heap.size W w') ∧
 (∀ W : World, Below w.heap.size w W → Calls Tryd.prog 18 #[.slice A0 t.length c0, .int .i64 ln] W fun e w' => e = .returned (.tuple #[.int .i64 fe, .int .i64 0]) ∧ Below W.heap.size W w')
theorem fronts {t : List Int} (hu : u8s t = true) (hl : t.length ≤ 1048576) {p : Nat} (hp : p ≤ t.length) (A0 : Option Addr) (c0 : Nat) (w : World) (hr0 : Kd.C (Kd.int .u8) w A0 t.length t) (hc0 : t.length ≤ c0) : Fronts t A0 c0 w (p : Int) (cnt 10 (t.take p)) (beg t p : Int) (fin t p : Int) := by
 have hcl := cnt_le 10 t
 have hcm := cnt_mono (t := t) hp (Nat.le_refl _)
 rw [List.take_length] at hcm
 have hof : Ev (fun k => quoinref05_Of.f k t (p : Int)) (cnt 10 (t.take p), 0) := by
  have h1 := refOf_ev (t := t) (by omega) (p : Int)
  rw [show ofR t (p : Int) = (cnt 10 (t.take p), 0) from by unfold ofR; rw [if_pos ⟨by omega, by omega⟩, Int.toNat_natCast]] at h1
  exact h1
 have hsg : startR t (cnt 10 (t.take p)) = ((beg t p : Int), 0) := Ev.unique (Start_ev hu (by omega) _ (by omega)) (Start_of hu (by omega) hp)
 have heg : endR t (cnt 10 (t.take p)) = ((fin t p : Int), 0) := Ev.unique (End_ev hu (by omega) _ (by omega)) (End_of hu (by omega) hp)
 have hen := refEnd_ev (t := t) (by omega) (cnt 10 (t.take p)) (by omega)
 rw [heg] at hen
 refine ⟨fun W hW => ?_, fun W hW => ?_, fun W hW => ?_⟩
 ·obtain ⟨k, h⟩ := hof
  refine (quoinref05_Of.calls k A0 c0 t _ _ _ W (Kd.C_below hr0 hW) hc0 (h k (Nat.le_refl _))).mono ?_
  rintro e w' ⟨he, hx⟩
  exact ⟨he, hx.below⟩
 ·have h := start_calls hl (a := cnt 10 (t.take p)) (by omega) A0 c0 W (Kd.C_below hr0 hW) hc0
  rw [hsg] at h
  exact h
 ·obtain ⟨k, h⟩ := hen
  refine (quoinref05_End.calls k A0 c0 t _ _ _ W (Kd.C_below hr0 hW) hc0 (h k (Nat.le_refl _))).mono ?_
  rintro e w' ⟨he, hx⟩
  exact ⟨he, hx.below⟩
theorem kept_calls {x op cl : Int} (h : Ev (fun k => quoinref13_kept.f k x) (op, cl)) (W : World) : Calls Tryd.prog 19 #[.int .u8 x] W fun e w' => e = .returned (.tuple #[.int .u8 op, .int .u8 cl]) ∧ Below W.heap.size W w' := by
 obtain ⟨k, h⟩ := h
 refine (quoinref13_kept.calls k x op cl W (h k (Nat.le_refl _))).mono ?_
 rintro e w' ⟨he, hx⟩
 exact ⟨he, hx.below⟩
/-- The second account's answer. -/
def RC (t : List Int) (a c : Int) (key : ByteArray) (r : A4) : Prop := ∀ (A0 : Option Addr) (c0 : Nat) (W : World), Kd.C (Kd.int .u8) W A0 t.length t → t.length ≤ c0 → Calls Tryd.prog 9 #[.slice A0 t.length c0, .int .i64 a, .int .i64 c, .string key] W fun e w' => e = .returned (.tuple #[.agg #[.int .i64 r.1, .int .i64 r.2.1, .int .i64 r.2.2.1], .int .i64 r.2.2.2]) ∧ Below W.heap.size W w'
set_option maxHeartbeats 8000000 in
set_option maxRecDepth 100000 in
theorem rbad {t : List Int} {a c : Int} {key : ByteArray} (hb : ¬ (0 ≤ a ∧ a ≤ (t.length : Int) ∧ 1 ≤ c ∧ c ≤ 9999 ∧ (key.size : Int) = 2 ∧ (bt key 0 = 105 ∨ bt key 0 = 97))) : RC t a c key (0, 0, 0, 2) := by
 intro A0 c0 w hr0 hc0
 have HB0 := Aside0.mk (below_alloc (Below.refl w.heap.size w) (.cells #[.int .i64 0, .int .i64 0, .int .i64 0] 29))
 have BX := Aside0.mk (blk_new w (.cells #[.int .i64 0, .int .i64 0, .int .i64 0] 29))
 clear hr0
 have hx0 : ∀ h : 0 < key.size, ((key[0]'h).toNat : Int) = bt key 0 := bt_at key 0
 generalize bt key 0 = b0 at hb hx0
 have hcase : (a < 0) = True ∨ ((a < 0) = False ∧ ((t.length : Int) < a) = True) ∨ ((a < 0) = False ∧ ((t.length : Int) < a) = False ∧ (c < 1) = True) ∨ ((a < 0) = False ∧ ((t.length : Int) < a) = False ∧ (c < 1) = False ∧ (9999 < c) = True) ∨ ((a < 0) = False ∧ ((t.length : Int) < a) = False ∧ (c < 1) = False ∧ (9999 < c) = False ∧ ((key.size : Int) != 2) = true) ∨ ((a < 0) = False ∧ ((t.length : Int) < a) = False ∧ (c < 1) = False ∧ (9999 < c) = False ∧ ((key.size : Int) != 2) = false ∧ (0 < key.size) = True ∧ (b0 != 105) = true ∧ (b0 != 97) = true) := by
  by_cases h1 : a < 0
  ·exact .inl (eq_true h1)
  by_cases h2 : (t.length : Int) < a
  ·exact .inr (.inl ⟨eq_false h1, eq_true h2⟩)
  by_cases h3 : c < 1
  ·exact .inr (.inr (.inl ⟨eq_false h1, eq_false h2, eq_true h3⟩))
  by_cases h4 : 9999 < c
  ·exact .inr (.inr (.inr (.inl ⟨eq_false h1, eq_false h2, eq_false h3, eq_true h4⟩)))
  by_cases h5 : (key.size : Int) = 2
  ·exact .inr (.inr (.inr (.inr (.inr ⟨eq_false h1, eq_false h2, eq_false h3, eq_false h4, bne_eq_false_iff_eq.2 h5, eq_true (by omega), bne_iff_ne.2 (fun h => hb ⟨by omega, by omega, by omega, by omega, h5, .inl h⟩), bne_iff_ne.2 (fun h => hb ⟨by omega, by omega, by omega, by omega, h5, .inr h⟩)⟩))))
  ·exact .inr (.inr (.inr (.inr (.inl ⟨eq_false h1, eq_false h2, eq_false h3, eq_false h4, bne_iff_ne.2 h5⟩))))
 clear hb
 rcases hcase with g1 | ⟨g1, g2⟩ | ⟨g1, g2, g3⟩ | ⟨g1, g2, g3, g4⟩ | ⟨g1, g2, g3, g4, g5⟩ | ⟨g1, g2, g3, g4, g5, g6, g7, g8⟩
 ·skip
  go_enter Tryd.func9, Tryd.ntmps9
  go_wp2_with fail
  exact bodyPost_ret (results_ct rfl _ _ w.heap.size 29 #[.int .i64 0, .int .i64 0, .int .i64 0] (0, 0) _ rfl BX.out Tryd.underlying29 rfl (by kernel_rfl)) rfl ⟨rfl, HB0.out⟩
 ·skip
  go_enter Tryd.func9, Tryd.ntmps9
  go_wp2_with fail
  exact bodyPost_ret (results_ct rfl _ _ w.heap.size 29 #[.int .i64 0, .int .i64 0, .int .i64 0] (0, 0) _ rfl BX.out Tryd.underlying29 rfl (by kernel_rfl)) rfl ⟨rfl, HB0.out⟩
 ·skip
  go_enter Tryd.func9, Tryd.ntmps9
  go_wp2_with fail
  exact bodyPost_ret (results_ct rfl _ _ w.heap.size 29 #[.int .i64 0, .int .i64 0, .int .i64 0] (0, 0) _ rfl BX.out Tryd.underlying29 rfl (by kernel_rfl)) rfl ⟨rfl, HB0.out⟩
 ·skip
  go_enter Tryd.func9, Tryd.ntmps9
  go_wp2_with fail
  exact bodyPost_ret (results_ct rfl _ _ w.heap.size 29 #[.int .i64 0, .int .i64 0, .int .i64 0] (0, 0) _ rfl BX.out Tryd.underlying29 rfl (by kernel_rfl)) rfl ⟨rfl, HB0.out⟩
 ·skip
  go_enter Tryd.func9, Tryd.ntmps9
  go_wp2_with fail
  exact bodyPost_ret (results_ct rfl _ _ w.heap.size 29 #[.int .i64 0, .int .i64 0, .int .i64 0] (0, 0) _ rfl BX.out Tryd.underlying29 rfl (by kernel_rfl)) rfl ⟨rfl, HB0.out⟩
 ·skip
  go_enter Tryd.func9, Tryd.ntmps9
  go_wp2_with fail
  exact bodyPost_ret (results_ct rfl _ _ w.heap.size 29 #[.int .i64 0, .int .i64 0, .int .i64 0] (0, 0) _ rfl BX.out Tryd.underlying29 rfl (by kernel_rfl)) rfl ⟨rfl, HB0.out⟩
set_option maxHeartbeats 8000000 in
set_option maxRecDepth 100000 in
theorem rsel_b {t : List Int} {p c : Nat} {ln sb fe : Int} {key : ByteArray} (hp : p ≤ t.length) (hc : c + 1 ≤ 9999) (hs : (key.size : Int) = 2) (around : Bool) (h0 : bt key 0 = if around = true then 97 else 105) {x op cl : Int} (hx : bt key 1 = x) (hke : Ev (fun k => quoinref13_kept.f k x) (op, cl))
  (A0 : Option Addr) (c0 : Nat) (w : World) (hr0 : Kd.C (Kd.int .u8) w A0 t.length t) (hc0 : t.length ≤ c0) (hF : Fronts t A0 c0 w (p : Int) ln sb fe) {F T K E r1 r2 r4 : Int} (hv : (r4 = 0 ∧ F = r1 ∧ T = r2 ∧ K = 1) ∨ (¬ r4 = 0 ∧ F = 0 ∧ T = 0 ∧ K = 0)) (hE : E = r4) (hop : op ≠ 0) (hno : x ≠ 119 ∧ x ≠ 87 ∧ x ≠ 112 ∧ x ≠ 34 ∧ x ≠ 39 ∧ x ≠ 96) (hb : ∀ W : World, Below w.heap.size w W → Calls Tryd.prog 25 #[.slice A0 t.length c0, .int .i64 (p : Int), .int .i64 ((c + 1 : Nat) : Int), .int .u8 op, .int .u8 cl, .bool around] W fun e w' => e = .returned (.tuple #[.agg #[.int .i64 r1, .int .i64 r2, .bool false], .int .i64 r4]) ∧ Below W.heap.size W w') :
  Calls Tryd.prog 9 #[.slice A0 t.length c0, .int .i64 (p : Int), .int .i64 ((c + 1 : Nat) : Int), .string key] w fun e w' => e = .returned (.tuple #[.agg #[.int .i64 F, .int .i64 T, .int .i64 K], .int .i64 E]) ∧ Below w.heap.size w w' := by
 have HB0 := Aside0.mk (below_alloc (Below.refl w.heap.size w) (.cells #[.int .i64 0, .int .i64 0, .int .i64 0] 29))
 have BX := Aside0.mk (blk_new w (.cells #[.int .i64 0, .int .i64 0, .int .i64 0] 29))
 have HF1 := Aside0.mk hF.1
 have HF2 := Aside0.mk hF.2.1
 have HF3 := Aside0.mk hF.2.2
 have HK := Aside0.mk (fun W => kept_calls hke W)
 have HC0 := Aside0.mk hr0
 have hx0 : ∀ h : 0 < key.size, ((key[0]'h).toNat : Int) = bt key 0 := bt_at key 0
 have hx1 : ∀ h : 1 < key.size, ((key[1]'h).toNat : Int) = bt key 1 := bt_at key 1
 rw [h0] at hx0
 rw [hx] at hx1
 have g1 : ((p : Int) < 0) = False := eq_false (by omega)
 have g2 : (t.length < p) = False := eq_false (by omega)
 have g3 : (((c + 1 : Nat) : Int) < 1) = False := eq_false (by omega)
 have g4 : (9999 < ((c + 1 : Nat) : Int)) = False := eq_false (by omega)
 have g5 : ((key.size : Int) != 2) = false := bne_eq_false_iff_eq.2 hs
 have g6 : (0 < key.size) = True := eq_true (by omega)
 have g7 : (1 < key.size) = True := eq_true (by omega)
 have g8 : (1 < (key.size : Int)) = True := eq_true (by omega)
 generalize hn1_ : ((c + 1 : Nat) : Int) = n1 at g3 g4 hb ⊢
 have HN1 := Aside0.mk hn1_
 clear hF hke hr0 h0 hx hs hn1_
 have HV := Aside0.mk hv
 subst hE
 clear hv
 have HA := Aside0.mk hb
 clear hb
 obtain ⟨n1_, n2_, n3_, n4_, n5_, n6_⟩ := hno
 have e1 : (x == 119) = false := beq_eq_false_iff_ne.2 n1_
 have e2 : (x == 87) = false := beq_eq_false_iff_ne.2 n2_
 have e3 : (x == 112) = false := beq_eq_false_iff_ne.2 n3_
 have e4 : (x == 34) = false := beq_eq_false_iff_ne.2 n4_
 have e5 : (x == 39) = false := beq_eq_false_iff_ne.2 n5_
 have e6 : (x == 96) = false := beq_eq_false_iff_ne.2 n6_
 have e7 : (op != 0) = true := bne_iff_ne.2 hop
 clear n1_ n2_ n3_ n4_ n5_ n6_ hop
 cases around with
 | true =>
  simp only [Bool.false_eq_true, if_true, if_false] at hx0
  go_enter Tryd.func9, Tryd.ntmps9
  go_wp2_with (first
   | (go_at_call 16; (with_reducible refine (HF1.out _ HB0.out).mono ?_); rintro e w1 ⟨rfl, hx⟩; have H1 := Aside0.mk (below_step HB0.out hx); have BK1 := Aside0.mk (blk_below BX.out hx); clear hx)
   | (go_at_call 17; (with_reducible refine (HF2.out _ H1.out).mono ?_); rintro e w2 ⟨rfl, hx⟩; have H2 := Aside0.mk (below_step H1.out hx); have BK2 := Aside0.mk (blk_below BK1.out hx); clear hx)
   | (go_at_call 18; (with_reducible refine (HF3.out _ H2.out).mono ?_); rintro e w3 ⟨rfl, hx⟩; have H3 := Aside0.mk (below_step H2.out hx); have BK3 := Aside0.mk (blk_below BK2.out hx); clear hx)
   | (go_at_call 19; (with_reducible refine (HK.out _).mono ?_); rintro e w4 ⟨rfl, hx⟩; have hn := Aside0.mk (show w.heap.size < w4.heap.size from blk_lt (blk_below BK3.out hx)); have H4 := Aside0.mk (below_alloc (below_step H3.out hx) (.cells #[.int .i64 0, .int .i64 0, .bool false] 48)); have BK4 := Aside0.mk (blk_alloc (blk_below BK3.out hx) (.cells #[.int .i64 0, .int .i64 0, .bool false] 48)); have BR4 := Aside0.mk (blk_new w4 (.cells #[.int .i64 0, .int .i64 0, .bool false] 48)); clear hx)
   | (go_at_call 25; (with_reducible refine (HA.out _ H4.out).mono ?_); rintro e w9 ⟨rfl, hx⟩; have H9 := Aside0.mk (below_set (j := 2) (v := .bool false) (below_set (j := 1) (v := .int .i64 r2) (below_set (j := 0) (v := .int .i64 r1) (below_step H4.out hx) (Nat.le_of_lt hn.out)) (Nat.le_of_lt hn.out)) (Nat.le_of_lt hn.out)); have BJ := Aside0.mk (blk_below BR4.out hx); have BL := Aside0.mk (blk_below BK4.out hx); have BR9 := Aside0.mk (blk_put (cs' := #[.int .i64 r1, .int .i64 r2, .bool false]) (blk_put (cs' := #[.int .i64 r1, .int .i64 r2, .bool false]) (blk_put (cs' := #[.int .i64 r1, .int .i64 0, .bool false]) BJ.out 0 (.int .i64 r1) rfl) 1 (.int .i64 r2) rfl) 2 (.bool false) rfl); have BK9 := Aside0.mk (blk_far (blk_far (blk_far BL.out (p := ⟨w4.heap.size, 0, none⟩) (Nat.ne_of_lt hn.out) (.int .i64 r1)) (p := ⟨w4.heap.size, 1, none⟩) (Nat.ne_of_lt hn.out) (.int .i64 r2)) (p := ⟨w4.heap.size, 2, none⟩) (Nat.ne_of_lt hn.out) (.bool false)); clear hx; have hn1 := Nat.ne_of_lt hn.out; have hn2 := Nat.ne_of_gt hn.out; have u0_ := (blk_cell BJ.out 0).trans rfl; have u1_ := (blk_cell BJ.out 1).trans rfl; have u2_ := (blk_cell BJ.out 2).trans rfl; have v0_ := blk_frozen BJ.out 0; have v1_ := blk_frozen BJ.out 1; have v2_ := blk_frozen BJ.out 2; have c0_ := (blk_cell BK9.out 0).trans rfl; have c1_ := (blk_cell BK9.out 1).trans rfl; have c2_ := (blk_cell BK9.out 2).trans rfl; have f0_ := blk_frozen BK9.out 0; have f1_ := blk_frozen BK9.out 1; have f2_ := blk_frozen BK9.out 2; have x0_ := (blk_cell BR9.out 0).trans rfl; have x1_ := (blk_cell BR9.out 1).trans rfl))
  all_goals first
   | (obtain ⟨hE, rfl, rfl, rfl⟩ : E = 0 ∧ F = r1 ∧ T = r2 ∧ K = 1 := HV.out.elim (fun h => h) (fun h => absurd (bne_eq_false_iff_eq.1 (by assumption)) h.1); subst hE; exact bodyPost_ret (results_ct rfl _ _ w.heap.size 29 #[.int .i64 F, .int .i64 T, .int .i64 1] (0, 0) _ rfl (by refine blk_put (cs := #[.int .i64 F, .int .i64 T, .int .i64 0]) ?_ 2 _ rfl; refine blk_put (cs := #[.int .i64 F, .int .i64 0, .int .i64 0]) ?_ 1 _ rfl; refine blk_put (cs := #[.int .i64 0, .int .i64 0, .int .i64 0]) ?_ 0 _ rfl; exact BK9.out) Tryd.underlying29 rfl (by kernel_rfl)) rfl ⟨rfl, below_set (below_set (below_set H9.out (Nat.le_refl _)) (Nat.le_refl _)) (Nat.le_refl _)⟩)
   | (obtain ⟨hE, rfl, rfl, rfl⟩ : ¬ E = 0 ∧ F = 0 ∧ T = 0 ∧ K = 0 := HV.out.elim (fun h => absurd h.1 (bne_iff_ne.1 (by assumption))) (fun h => h); exact bodyPost_ret (results_ct rfl _ _ w.heap.size 29 #[.int .i64 0, .int .i64 0, .int .i64 0] (0, 0) _ rfl (by refine blk_put (cs := #[.int .i64 0, .int .i64 0, .int .i64 0]) ?_ 2 _ rfl; refine blk_put (cs := #[.int .i64 0, .int .i64 0, .int .i64 0]) ?_ 1 _ rfl; refine blk_put (cs := #[.int .i64 0, .int .i64 0, .int .i64 0]) ?_ 0 _ rfl; exact BK9.out) Tryd.underlying29 rfl (by kernel_rfl)) rfl ⟨rfl, below_set (below_set (below_set H9.out (Nat.le_refl _)) (Nat.le_refl _)) (Nat.le_refl _)⟩)
 | false =>
  simp only [Bool.false_eq_true, if_true, if_false] at hx0
  go_enter Tryd.func9, Tryd.ntmps9
  go_wp2_with (first
   | (go_at_call 16; (with_reducible refine (HF1.out _ HB0.out).mono ?_); rintro e w1 ⟨rfl, hx⟩; have H1 := Aside0.mk (below_step HB0.out hx); have BK1 := Aside0.mk (blk_below BX.out hx); clear hx)
   | (go_at_call 17; (with_reducible refine (HF2.out _ H1.out).mono ?_); rintro e w2 ⟨rfl, hx⟩; have H2 := Aside0.mk (below_step H1.out hx); have BK2 := Aside0.mk (blk_below BK1.out hx); clear hx)
   | (go_at_call 18; (with_reducible refine (HF3.out _ H2.out).mono ?_); rintro e w3 ⟨rfl, hx⟩; have H3 := Aside0.mk (below_step H2.out hx); have BK3 := Aside0.mk (blk_below BK2.out hx); clear hx)
   | (go_at_call 19; (with_reducible refine (HK.out _).mono ?_); rintro e w4 ⟨rfl, hx⟩; have hn := Aside0.mk (show w.heap.size < w4.heap.size from blk_lt (blk_below BK3.out hx)); have H4 := Aside0.mk (below_alloc (below_step H3.out hx) (.cells #[.int .i64 0, .int .i64 0, .bool false] 48)); have BK4 := Aside0.mk (blk_alloc (blk_below BK3.out hx) (.cells #[.int .i64 0, .int .i64 0, .bool false] 48)); have BR4 := Aside0.mk (blk_new w4 (.cells #[.int .i64 0, .int .i64 0, .bool false] 48)); clear hx)
   | (go_at_call 25; (with_reducible refine (HA.out _ H4.out).mono ?_); rintro e w9 ⟨rfl, hx⟩; have H9 := Aside0.mk (below_set (j := 2) (v := .bool false) (below_set (j := 1) (v := .int .i64 r2) (below_set (j := 0) (v := .int .i64 r1) (below_step H4.out hx) (Nat.le_of_lt hn.out)) (Nat.le_of_lt hn.out)) (Nat.le_of_lt hn.out)); have BJ := Aside0.mk (blk_below BR4.out hx); have BL := Aside0.mk (blk_below BK4.out hx); have BR9 := Aside0.mk (blk_put (cs' := #[.int .i64 r1, .int .i64 r2, .bool false]) (blk_put (cs' := #[.int .i64 r1, .int .i64 r2, .bool false]) (blk_put (cs' := #[.int .i64 r1, .int .i64 0, .bool false]) BJ.out 0 (.int .i64 r1) rfl) 1 (.int .i64 r2) rfl) 2 (.bool false) rfl); have BK9 := Aside0.mk (blk_far (blk_far (blk_far BL.out (p := ⟨w4.heap.size, 0, none⟩) (Nat.ne_of_lt hn.out) (.int .i64 r1)) (p := ⟨w4.heap.size, 1, none⟩) (Nat.ne_of_lt hn.out) (.int .i64 r2)) (p := ⟨w4.heap.size, 2, none⟩) (Nat.ne_of_lt hn.out) (.bool false)); clear hx; have hn1 := Nat.ne_of_lt hn.out; have hn2 := Nat.ne_of_gt hn.out; have u0_ := (blk_cell BJ.out 0).trans rfl; have u1_ := (blk_cell BJ.out 1).trans rfl; have u2_ := (blk_cell BJ.out 2).trans rfl; have v0_ := blk_frozen BJ.out 0; have v1_ := blk_frozen BJ.out 1; have v2_ := blk_frozen BJ.out 2; have c0_ := (blk_cell BK9.out 0).trans rfl; have c1_ := (blk_cell BK9.out 1).trans rfl; have c2_ := (blk_cell BK9.out 2).trans rfl; have f0_ := blk_frozen BK9.out 0; have f1_ := blk_frozen BK9.out 1; have f2_ := blk_frozen BK9.out 2; have x0_ := (blk_cell BR9.out 0).trans rfl; have x1_ := (blk_cell BR9.out 1).trans rfl))
  all_goals first
   | (obtain ⟨hE, rfl, rfl, rfl⟩ : E = 0 ∧ F = r1 ∧ T = r2 ∧ K = 1 := HV.out.elim (fun h => h) (fun h => absurd (bne_eq_false_iff_eq.1 (by assumption)) h.1); subst hE; exact bodyPost_ret (results_ct rfl _ _ w.heap.size 29 #[.int .i64 F, .int .i64 T, .int .i64 1] (0, 0) _ rfl (by refine blk_put (cs := #[.int .i64 F, .int .i64 T, .int .i64 0]) ?_ 2 _ rfl; refine blk_put (cs := #[.int .i64 F, .int .i64 0, .int .i64 0]) ?_ 1 _ rfl; refine blk_put (cs := #[.int .i64 0, .int .i64 0, .int .i64 0]) ?_ 0 _ rfl; exact BK9.out) Tryd.underlying29 rfl (by kernel_rfl)) rfl ⟨rfl, below_set (below_set (below_set H9.out (Nat.le_refl _)) (Nat.le_refl _)) (Nat.le_refl _)⟩)
   | (obtain ⟨hE, rfl, rfl, rfl⟩ : ¬ E = 0 ∧ F = 0 ∧ T = 0 ∧ K = 0 := HV.out.elim (fun h => absurd h.1 (bne_iff_ne.1 (by assumption))) (fun h => h); exact bodyPost_ret (results_ct rfl _ _ w.heap.size 29 #[.int .i64 0, .int .i64 0, .int .i64 0] (0, 0) _ rfl (by refine blk_put (cs := #[.int .i64 0, .int .i64 0, .int .i64 0]) ?_ 2 _ rfl; refine blk_put (cs := #[.int .i64 0, .int .i64 0, .int .i64 0]) ?_ 1 _ rfl; refine blk_put (cs := #[.int .i64 0, .int .i64 0, .int .i64 0]) ?_ 0 _ rfl; exact BK9.out) Tryd.underlying29 rfl (by kernel_rfl)) rfl ⟨rfl, below_set (below_set (below_set H9.out (Nat.le_refl _)) (Nat.le_refl _)) (Nat.le_refl _)⟩)
set_option maxHeartbeats 8000000 in
set_option maxRecDepth 100000 in
theorem rsel_q {t : List Int} {p c : Nat} {ln sb fe : Int} {key : ByteArray} (hp : p ≤ t.length) (hc : c + 1 ≤ 9999) (hs : (key.size : Int) = 2) (around : Bool) (h0 : bt key 0 = if around = true then 97 else 105) {x op cl : Int} (hx : bt key 1 = x) (hke : Ev (fun k => quoinref13_kept.f k x) (op, cl))
  (A0 : Option Addr) (c0 : Nat) (w : World) (hr0 : Kd.C (Kd.int .u8) w A0 t.length t) (hc0 : t.length ≤ c0) (hF : Fronts t A0 c0 w (p : Int) ln sb fe) {F T K E r1 r2 r4 : Int} (hv : (r4 = 0 ∧ F = r1 ∧ T = r2 ∧ K = 1) ∨ (¬ r4 = 0 ∧ F = 0 ∧ T = 0 ∧ K = 0)) (hE : E = r4) (hq : x = 34 ∨ x = 39 ∨ x = 96) (hb : ∀ W : World, Below w.heap.size w W → Calls Tryd.prog 24 #[.slice A0 t.length c0, .int .i64 (p : Int), .int .i64 sb, .int .i64 fe, .int .u8 x, .bool around] W fun e w' => e = .returned (.tuple #[.agg #[.int .i64 r1, .int .i64 r2, .bool false], .int .i64 r4]) ∧ Below W.heap.size W w') :
  Calls Tryd.prog 9 #[.slice A0 t.length c0, .int .i64 (p : Int), .int .i64 ((c + 1 : Nat) : Int), .string key] w fun e w' => e = .returned (.tuple #[.agg #[.int .i64 F, .int .i64 T, .int .i64 K], .int .i64 E]) ∧ Below w.heap.size w w' := by
 have HB0 := Aside0.mk (below_alloc (Below.refl w.heap.size w) (.cells #[.int .i64 0, .int .i64 0, .int .i64 0] 29))
 have BX := Aside0.mk (blk_new w (.cells #[.int .i64 0, .int .i64 0, .int .i64 0] 29))
 have HF1 := Aside0.mk hF.1
 have HF2 := Aside0.mk hF.2.1
 have HF3 := Aside0.mk hF.2.2
 have HK := Aside0.mk (fun W => kept_calls hke W)
 have HC0 := Aside0.mk hr0
 have hx0 : ∀ h : 0 < key.size, ((key[0]'h).toNat : Int) = bt key 0 := bt_at key 0
 have hx1 : ∀ h : 1 < key.size, ((key[1]'h).toNat : Int) = bt key 1 := bt_at key 1
 rw [h0] at hx0
 rw [hx] at hx1
 have g1 : ((p : Int) < 0) = False := eq_false (by omega)
 have g2 : (t.length < p) = False := eq_false (by omega)
 have g3 : (((c + 1 : Nat) : Int) < 1) = False := eq_false (by omega)
 have g4 : (9999 < ((c + 1 : Nat) : Int)) = False := eq_false (by omega)
 have g5 : ((key.size : Int) != 2) = false := bne_eq_false_iff_eq.2 hs
 have g6 : (0 < key.size) = True := eq_true (by omega)
 have g7 : (1 < key.size) = True := eq_true (by omega)
 have g8 : (1 < (key.size : Int)) = True := eq_true (by omega)
 generalize hn1_ : ((c + 1 : Nat) : Int) = n1 at g3 g4 hv ⊢
 have HN1 := Aside0.mk hn1_
 clear hF hke hr0 h0 hx hs hn1_
 have HV := Aside0.mk hv
 subst hE
 clear hv
 have HA := Aside0.mk hb
 clear hb
 have e1 : (x == 119) = false := beq_eq_false_iff_ne.2 (by omega)
 have e2 : (x == 87) = false := beq_eq_false_iff_ne.2 (by omega)
 have e3 : (x == 112) = false := beq_eq_false_iff_ne.2 (by omega)
 have e4 : ((x == 34) = true) ∨ ((x == 34) = false ∧ (x == 39) = true) ∨ ((x == 34) = false ∧ (x == 39) = false ∧ (x == 96) = true) := by
  rcases hq with rfl | rfl | rfl <;> decide
 clear hq
 cases around with
 | true =>
  simp only [Bool.false_eq_true, if_true, if_false] at hx0
  rcases e4 with e4 | ⟨e4, e5⟩ | ⟨e4, e5, e6⟩
  all_goals
   go_enter Tryd.func9, Tryd.ntmps9
   go_wp2_with (first
    | (go_at_call 16; (with_reducible refine (HF1.out _ HB0.out).mono ?_); rintro e w1 ⟨rfl, hx⟩; have H1 := Aside0.mk (below_step HB0.out hx); have BK1 := Aside0.mk (blk_below BX.out hx); clear hx)
    | (go_at_call 17; (with_reducible refine (HF2.out _ H1.out).mono ?_); rintro e w2 ⟨rfl, hx⟩; have H2 := Aside0.mk (below_step H1.out hx); have BK2 := Aside0.mk (blk_below BK1.out hx); clear hx)
    | (go_at_call 18; (with_reducible refine (HF3.out _ H2.out).mono ?_); rintro e w3 ⟨rfl, hx⟩; have H3 := Aside0.mk (below_step H2.out hx); have BK3 := Aside0.mk (blk_below BK2.out hx); clear hx)
    | (go_at_call 19; (with_reducible refine (HK.out _).mono ?_); rintro e w4 ⟨rfl, hx⟩; have hn := Aside0.mk (show w.heap.size < w4.heap.size from blk_lt (blk_below BK3.out hx)); have H4 := Aside0.mk (below_alloc (below_step H3.out hx) (.cells #[.int .i64 0, .int .i64 0, .bool false] 48)); have BK4 := Aside0.mk (blk_alloc (blk_below BK3.out hx) (.cells #[.int .i64 0, .int .i64 0, .bool false] 48)); have BR4 := Aside0.mk (blk_new w4 (.cells #[.int .i64 0, .int .i64 0, .bool false] 48)); clear hx)
    | (go_at_call 24; (with_reducible refine (HA.out _ H4.out).mono ?_); rintro e w9 ⟨rfl, hx⟩; have H9 := Aside0.mk (below_set (j := 2) (v := .bool false) (below_set (j := 1) (v := .int .i64 r2) (below_set (j := 0) (v := .int .i64 r1) (below_step H4.out hx) (Nat.le_of_lt hn.out)) (Nat.le_of_lt hn.out)) (Nat.le_of_lt hn.out)); have BJ := Aside0.mk (blk_below BR4.out hx); have BL := Aside0.mk (blk_below BK4.out hx); have BR9 := Aside0.mk (blk_put (cs' := #[.int .i64 r1, .int .i64 r2, .bool false]) (blk_put (cs' := #[.int .i64 r1, .int .i64 r2, .bool false]) (blk_put (cs' := #[.int .i64 r1, .int .i64 0, .bool false]) BJ.out 0 (.int .i64 r1) rfl) 1 (.int .i64 r2) rfl) 2 (.bool false) rfl); have BK9 := Aside0.mk (blk_far (blk_far (blk_far BL.out (p := ⟨w4.heap.size, 0, none⟩) (Nat.ne_of_lt hn.out) (.int .i64 r1)) (p := ⟨w4.heap.size, 1, none⟩) (Nat.ne_of_lt hn.out) (.int .i64 r2)) (p := ⟨w4.heap.size, 2, none⟩) (Nat.ne_of_lt hn.out) (.bool false)); clear hx; have hn1 := Nat.ne_of_lt hn.out; have hn2 := Nat.ne_of_gt hn.out; have u0_ := (blk_cell BJ.out 0).trans rfl; have u1_ := (blk_cell BJ.out 1).trans rfl; have u2_ := (blk_cell BJ.out 2).trans rfl; have v0_ := blk_frozen BJ.out 0; have v1_ := blk_frozen BJ.out 1; have v2_ := blk_frozen BJ.out 2; have c0_ := (blk_cell BK9.out 0).trans rfl; have c1_ := (blk_cell BK9.out 1).trans rfl; have c2_ := (blk_cell BK9.out 2).trans rfl; have f0_ := blk_frozen BK9.out 0; have f1_ := blk_frozen BK9.out 1; have f2_ := blk_frozen BK9.out 2; have x0_ := (blk_cell BR9.out 0).trans rfl; have x1_ := (blk_cell BR9.out 1).trans rfl))
   all_goals first
    | (obtain ⟨hE, rfl, rfl, rfl⟩ : E = 0 ∧ F = r1 ∧ T = r2 ∧ K = 1 := HV.out.elim (fun h => h) (fun h => absurd (bne_eq_false_iff_eq.1 (by assumption)) h.1); subst hE; exact bodyPost_ret (results_ct rfl _ _ w.heap.size 29 #[.int .i64 F, .int .i64 T, .int .i64 1] (0, 0) _ rfl (by refine blk_put (cs := #[.int .i64 F, .int .i64 T, .int .i64 0]) ?_ 2 _ rfl; refine blk_put (cs := #[.int .i64 F, .int .i64 0, .int .i64 0]) ?_ 1 _ rfl; refine blk_put (cs := #[.int .i64 0, .int .i64 0, .int .i64 0]) ?_ 0 _ rfl; exact BK9.out) Tryd.underlying29 rfl (by kernel_rfl)) rfl ⟨rfl, below_set (below_set (below_set H9.out (Nat.le_refl _)) (Nat.le_refl _)) (Nat.le_refl _)⟩)
    | (obtain ⟨hE, rfl, rfl, rfl⟩ : ¬ E = 0 ∧ F = 0 ∧ T = 0 ∧ K = 0 := HV.out.elim (fun h => absurd h.1 (bne_iff_ne.1 (by assumption))) (fun h => h); exact bodyPost_ret (results_ct rfl _ _ w.heap.size 29 #[.int .i64 0, .int .i64 0, .int .i64 0] (0, 0) _ rfl (by refine blk_put (cs := #[.int .i64 0, .int .i64 0, .int .i64 0]) ?_ 2 _ rfl; refine blk_put (cs := #[.int .i64 0, .int .i64 0, .int .i64 0]) ?_ 1 _ rfl; refine blk_put (cs := #[.int .i64 0, .int .i64 0, .int .i64 0]) ?_ 0 _ rfl; exact BK9.out) Tryd.underlying29 rfl (by kernel_rfl)) rfl ⟨rfl, below_set (below_set (below_set H9.out (Nat.le_refl _)) (Nat.le_refl _)) (Nat.le_refl _)⟩)
 | false =>
  simp only [Bool.false_eq_true, if_true, if_false] at hx0
  rcases e4 with e4 | ⟨e4, e5⟩ | ⟨e4, e5, e6⟩
  all_goals
   go_enter Tryd.func9, Tryd.ntmps9
   go_wp2_with (first
    | (go_at_call 16; (with_reducible refine (HF1.out _ HB0.out).mono ?_); rintro e w1 ⟨rfl, hx⟩; have H1 := Aside0.mk (below_step HB0.out hx); have BK1 := Aside0.mk (blk_below BX.out hx); clear hx)
    | (go_at_call 17; (with_reducible refine (HF2.out _ H1.out).mono ?_); rintro e w2 ⟨rfl, hx⟩; have H2 := Aside0.mk (below_step H1.out hx); have BK2 := Aside0.mk (blk_below BK1.out hx); clear hx)
    | (go_at_call 18; (with_reducible refine (HF3.out _ H2.out).mono ?_); rintro e w3 ⟨rfl, hx⟩; have H3 := Aside0.mk (below_step H2.out hx); have BK3 := Aside0.mk (blk_below BK2.out hx); clear hx)
    | (go_at_call 19; (with_reducible refine (HK.out _).mono ?_); rintro e w4 ⟨rfl, hx⟩; have hn := Aside0.mk (show w.heap.size < w4.heap.size from blk_lt (blk_below BK3.out hx)); have H4 := Aside0.mk (below_alloc (below_step H3.out hx) (.cells #[.int .i64 0, .int .i64 0, .bool false] 48)); have BK4 := Aside0.mk (blk_alloc (blk_below BK3.out hx) (.cells #[.int .i64 0, .int .i64 0, .bool false] 48)); have BR4 := Aside0.mk (blk_new w4 (.cells #[.int .i64 0, .int .i64 0, .bool false] 48)); clear hx)
    | (go_at_call 24; (with_reducible refine (HA.out _ H4.out).mono ?_); rintro e w9 ⟨rfl, hx⟩; have H9 := Aside0.mk (below_set (j := 2) (v := .bool false) (below_set (j := 1) (v := .int .i64 r2) (below_set (j := 0) (v := .int .i64 r1) (below_step H4.out hx) (Nat.le_of_lt hn.out)) (Nat.le_of_lt hn.out)) (Nat.le_of_lt hn.out)); have BJ := Aside0.mk (blk_below BR4.out hx); have BL := Aside0.mk (blk_below BK4.out hx); have BR9 := Aside0.mk (blk_put (cs' := #[.int .i64 r1, .int .i64 r2, .bool false]) (blk_put (cs' := #[.int .i64 r1, .int .i64 r2, .bool false]) (blk_put (cs' := #[.int .i64 r1, .int .i64 0, .bool false]) BJ.out 0 (.int .i64 r1) rfl) 1 (.int .i64 r2) rfl) 2 (.bool false) rfl); have BK9 := Aside0.mk (blk_far (blk_far (blk_far BL.out (p := ⟨w4.heap.size, 0, none⟩) (Nat.ne_of_lt hn.out) (.int .i64 r1)) (p := ⟨w4.heap.size, 1, none⟩) (Nat.ne_of_lt hn.out) (.int .i64 r2)) (p := ⟨w4.heap.size, 2, none⟩) (Nat.ne_of_lt hn.out) (.bool false)); clear hx; have hn1 := Nat.ne_of_lt hn.out; have hn2 := Nat.ne_of_gt hn.out; have u0_ := (blk_cell BJ.out 0).trans rfl; have u1_ := (blk_cell BJ.out 1).trans rfl; have u2_ := (blk_cell BJ.out 2).trans rfl; have v0_ := blk_frozen BJ.out 0; have v1_ := blk_frozen BJ.out 1; have v2_ := blk_frozen BJ.out 2; have c0_ := (blk_cell BK9.out 0).trans rfl; have c1_ := (blk_cell BK9.out 1).trans rfl; have c2_ := (blk_cell BK9.out 2).trans rfl; have f0_ := blk_frozen BK9.out 0; have f1_ := blk_frozen BK9.out 1; have f2_ := blk_frozen BK9.out 2; have x0_ := (blk_cell BR9.out 0).trans rfl; have x1_ := (blk_cell BR9.out 1).trans rfl))
   all_goals first
    | (obtain ⟨hE, rfl, rfl, rfl⟩ : E = 0 ∧ F = r1 ∧ T = r2 ∧ K = 1 := HV.out.elim (fun h => h) (fun h => absurd (bne_eq_false_iff_eq.1 (by assumption)) h.1); subst hE; exact bodyPost_ret (results_ct rfl _ _ w.heap.size 29 #[.int .i64 F, .int .i64 T, .int .i64 1] (0, 0) _ rfl (by refine blk_put (cs := #[.int .i64 F, .int .i64 T, .int .i64 0]) ?_ 2 _ rfl; refine blk_put (cs := #[.int .i64 F, .int .i64 0, .int .i64 0]) ?_ 1 _ rfl; refine blk_put (cs := #[.int .i64 0, .int .i64 0, .int .i64 0]) ?_ 0 _ rfl; exact BK9.out) Tryd.underlying29 rfl (by kernel_rfl)) rfl ⟨rfl, below_set (below_set (below_set H9.out (Nat.le_refl _)) (Nat.le_refl _)) (Nat.le_refl _)⟩)
    | (obtain ⟨hE, rfl, rfl, rfl⟩ : ¬ E = 0 ∧ F = 0 ∧ T = 0 ∧ K = 0 := HV.out.elim (fun h => absurd h.1 (bne_iff_ne.1 (by assumption))) (fun h => h); exact bodyPost_ret (results_ct rfl _ _ w.heap.size 29 #[.int .i64 0, .int .i64 0, .int .i64 0] (0, 0) _ rfl (by refine blk_put (cs := #[.int .i64 0, .int .i64 0, .int .i64 0]) ?_ 2 _ rfl; refine blk_put (cs := #[.int .i64 0, .int .i64 0, .int .i64 0]) ?_ 1 _ rfl; refine blk_put (cs := #[.int .i64 0, .int .i64 0, .int .i64 0]) ?_ 0 _ rfl; exact BK9.out) Tryd.underlying29 rfl (by kernel_rfl)) rfl ⟨rfl, below_set (below_set (below_set H9.out (Nat.le_refl _)) (Nat.le_refl _)) (Nat.le_refl _)⟩)
set_option maxHeartbeats 8000000 in
set_option maxRecDepth 100000 in
theorem rsel_p {t : List Int} {p c : Nat} {ln sb fe : Int} {key : ByteArray} (hp : p ≤ t.length) (hc : c + 1 ≤ 9999) (hs : (key.size : Int) = 2) (around : Bool) (h0 : bt key 0 = if around = true then 97 else 105) {x op cl : Int} (hx : bt key 1 = x) (hke : Ev (fun k => quoinref13_kept.f k x) (op, cl))
  (A0 : Option Addr) (c0 : Nat) (w : World) (hr0 : Kd.C (Kd.int .u8) w A0 t.length t) (hc0 : t.length ≤ c0) (hF : Fronts t A0 c0 w (p : Int) ln sb fe) {F T K E : Int} (hxp : x = 112) (hb : ∀ W : World, Below w.heap.size w W → Calls Tryd.prog 23 #[.slice A0 t.length c0, .int .i64 ln, .int .i64 ((c + 1 : Nat) : Int), .bool around] W fun e w' => e = .returned (.tuple #[.agg #[.int .i64 F, .int .i64 T, .int .i64 K], .int .i64 E]) ∧ Below W.heap.size W w') :
  Calls Tryd.prog 9 #[.slice A0 t.length c0, .int .i64 (p : Int), .int .i64 ((c + 1 : Nat) : Int), .string key] w fun e w' => e = .returned (.tuple #[.agg #[.int .i64 F, .int .i64 T, .int .i64 K], .int .i64 E]) ∧ Below w.heap.size w w' := by
 have HB0 := Aside0.mk (below_alloc (Below.refl w.heap.size w) (.cells #[.int .i64 0, .int .i64 0, .int .i64 0] 29))
 have BX := Aside0.mk (blk_new w (.cells #[.int .i64 0, .int .i64 0, .int .i64 0] 29))
 have HF1 := Aside0.mk hF.1
 have HF2 := Aside0.mk hF.2.1
 have HF3 := Aside0.mk hF.2.2
 have HK := Aside0.mk (fun W => kept_calls hke W)
 have HC0 := Aside0.mk hr0
 have hx0 : ∀ h : 0 < key.size, ((key[0]'h).toNat : Int) = bt key 0 := bt_at key 0
 have hx1 : ∀ h : 1 < key.size, ((key[1]'h).toNat : Int) = bt key 1 := bt_at key 1
 rw [h0] at hx0
 rw [hx] at hx1
 have g1 : ((p : Int) < 0) = False := eq_false (by omega)
 have g2 : (t.length < p) = False := eq_false (by omega)
 have g3 : (((c + 1 : Nat) : Int) < 1) = False := eq_false (by omega)
 have g4 : (9999 < ((c + 1 : Nat) : Int)) = False := eq_false (by omega)
 have g5 : ((key.size : Int) != 2) = false := bne_eq_false_iff_eq.2 hs
 have g6 : (0 < key.size) = True := eq_true (by omega)
 have g7 : (1 < key.size) = True := eq_true (by omega)
 have g8 : (1 < (key.size : Int)) = True := eq_true (by omega)
 generalize hn1_ : ((c + 1 : Nat) : Int) = n1 at g3 g4 hb ⊢
 have HN1 := Aside0.mk hn1_
 clear hF hke hr0 h0 hx hs hn1_
 have HA := Aside0.mk hb
 clear hb
 subst hxp
 cases around with
 | true =>
  simp only [Bool.false_eq_true, if_true, if_false] at hx0
  go_enter Tryd.func9, Tryd.ntmps9
  go_wp2_with (first
   | (go_at_call 16; (with_reducible refine (HF1.out _ HB0.out).mono ?_); rintro e w1 ⟨rfl, hx⟩; have H1 := Aside0.mk (below_step HB0.out hx); have BK1 := Aside0.mk (blk_below BX.out hx); clear hx)
   | (go_at_call 17; (with_reducible refine (HF2.out _ H1.out).mono ?_); rintro e w2 ⟨rfl, hx⟩; have H2 := Aside0.mk (below_step H1.out hx); have BK2 := Aside0.mk (blk_below BK1.out hx); clear hx)
   | (go_at_call 18; (with_reducible refine (HF3.out _ H2.out).mono ?_); rintro e w3 ⟨rfl, hx⟩; have H3 := Aside0.mk (below_step H2.out hx); have BK3 := Aside0.mk (blk_below BK2.out hx); clear hx)
   | (go_at_call 19; (with_reducible refine (HK.out _).mono ?_); rintro e w4 ⟨rfl, hx⟩; have hn := Aside0.mk (show w.heap.size < w4.heap.size from blk_lt (blk_below BK3.out hx)); have H4 := Aside0.mk (below_alloc (below_step H3.out hx) (.cells #[.int .i64 0, .int .i64 0, .bool false] 48)); have BK4 := Aside0.mk (blk_alloc (blk_below BK3.out hx) (.cells #[.int .i64 0, .int .i64 0, .bool false] 48)); have BR4 := Aside0.mk (blk_new w4 (.cells #[.int .i64 0, .int .i64 0, .bool false] 48)); clear hx)
   | (go_at_call 23; (with_reducible refine (HA.out _ H4.out).mono ?_); rintro e w9 ⟨rfl, hx⟩; have H9 := Aside0.mk (below_step H4.out hx); have BK9 := Aside0.mk (blk_below BK4.out hx); clear hx; have c0_ := (blk_cell BK9.out 0).trans rfl; have c1_ := (blk_cell BK9.out 1).trans rfl; have c2_ := (blk_cell BK9.out 2).trans rfl; have f0_ := blk_frozen BK9.out 0; have f1_ := blk_frozen BK9.out 1; have f2_ := blk_frozen BK9.out 2))
  exact bodyPost_ret (results_ct rfl _ _ w.heap.size 29 #[.int .i64 F, .int .i64 T, .int .i64 K] (0, 0) _ rfl (by refine blk_put (cs := #[.int .i64 F, .int .i64 T, .int .i64 0]) ?_ 2 _ rfl; refine blk_put (cs := #[.int .i64 F, .int .i64 0, .int .i64 0]) ?_ 1 _ rfl; refine blk_put (cs := #[.int .i64 0, .int .i64 0, .int .i64 0]) ?_ 0 _ rfl; exact BK9.out) Tryd.underlying29 rfl (by kernel_rfl)) rfl ⟨rfl, below_set (below_set (below_set H9.out (Nat.le_refl _)) (Nat.le_refl _)) (Nat.le_refl _)⟩
 | false =>
  simp only [Bool.false_eq_true, if_true, if_false] at hx0
  go_enter Tryd.func9, Tryd.ntmps9
  go_wp2_with (first
   | (go_at_call 16; (with_reducible refine (HF1.out _ HB0.out).mono ?_); rintro e w1 ⟨rfl, hx⟩; have H1 := Aside0.mk (below_step HB0.out hx); have BK1 := Aside0.mk (blk_below BX.out hx); clear hx)
   | (go_at_call 17; (with_reducible refine (HF2.out _ H1.out).mono ?_); rintro e w2 ⟨rfl, hx⟩; have H2 := Aside0.mk (below_step H1.out hx); have BK2 := Aside0.mk (blk_below BK1.out hx); clear hx)
   | (go_at_call 18; (with_reducible refine (HF3.out _ H2.out).mono ?_); rintro e w3 ⟨rfl, hx⟩; have H3 := Aside0.mk (below_step H2.out hx); have BK3 := Aside0.mk (blk_below BK2.out hx); clear hx)
   | (go_at_call 19; (with_reducible refine (HK.out _).mono ?_); rintro e w4 ⟨rfl, hx⟩; have hn := Aside0.mk (show w.heap.size < w4.heap.size from blk_lt (blk_below BK3.out hx)); have H4 := Aside0.mk (below_alloc (below_step H3.out hx) (.cells #[.int .i64 0, .int .i64 0, .bool false] 48)); have BK4 := Aside0.mk (blk_alloc (blk_below BK3.out hx) (.cells #[.int .i64 0, .int .i64 0, .bool false] 48)); have BR4 := Aside0.mk (blk_new w4 (.cells #[.int .i64 0, .int .i64 0, .bool false] 48)); clear hx)
   | (go_at_call 23; (with_reducible refine (HA.out _ H4.out).mono ?_); rintro e w9 ⟨rfl, hx⟩; have H9 := Aside0.mk (below_step H4.out hx); have BK9 := Aside0.mk (blk_below BK4.out hx); clear hx; have c0_ := (blk_cell BK9.out 0).trans rfl; have c1_ := (blk_cell BK9.out 1).trans rfl; have c2_ := (blk_cell BK9.out 2).trans rfl; have f0_ := blk_frozen BK9.out 0; have f1_ := blk_frozen BK9.out 1; have f2_ := blk_frozen BK9.out 2))
  exact bodyPost_ret (results_ct rfl _ _ w.heap.size 29 #[.int .i64 F, .int .i64 T, .int .i64 K] (0, 0) _ rfl (by refine blk_put (cs := #[.int .i64 F, .int .i64 T, .int .i64 0]) ?_ 2 _ rfl; refine blk_put (cs := #[.int .i64 F, .int .i64 0, .int .i64 0]) ?_ 1 _ rfl; refine blk_put (cs := #[.int .i64 0, .int .i64 0, .int .i64 0]) ?_ 0 _ rfl; exact BK9.out) Tryd.underlying29 rfl (by kernel_rfl)) rfl ⟨rfl, below_set (below_set (below_set H9.out (Nat.le_refl _)) (Nat.le_refl _)) (Nat.le_refl _)⟩
set_option maxHeartbeats 8000000 in
set_option maxRecDepth 100000 in
theorem rsel_no {t : List Int} {p c : Nat} {ln sb fe : Int} {key : ByteArray} (hp : p ≤ t.length) (hc : c + 1 ≤ 9999) (hs : (key.size : Int) = 2) (around : Bool) (h0 : bt key 0 = if around = true then 97 else 105) {x op cl : Int} (hx : bt key 1 = x) (hke : Ev (fun k => quoinref13_kept.f k x) (op, cl))
  (A0 : Option Addr) (c0 : Nat) (w : World) (hr0 : Kd.C (Kd.int .u8) w A0 t.length t) (hc0 : t.length ≤ c0) (hF : Fronts t A0 c0 w (p : Int) ln sb fe) {F T K E : Int} (hv : F = 0 ∧ T = 0 ∧ K = 0 ∧ E = 2) (hop : op = 0) (hno : x ≠ 119 ∧ x ≠ 87 ∧ x ≠ 112 ∧ x ≠ 34 ∧ x ≠ 39 ∧ x ≠ 96) :
  Calls Tryd.prog 9 #[.slice A0 t.length c0, .int .i64 (p : Int), .int .i64 ((c + 1 : Nat) : Int), .string key] w fun e w' => e = .returned (.tuple #[.agg #[.int .i64 F, .int .i64 T, .int .i64 K], .int .i64 E]) ∧ Below w.heap.size w w' := by
 have HB0 := Aside0.mk (below_alloc (Below.refl w.heap.size w) (.cells #[.int .i64 0, .int .i64 0, .int .i64 0] 29))
 have BX := Aside0.mk (blk_new w (.cells #[.int .i64 0, .int .i64 0, .int .i64 0] 29))
 have HF1 := Aside0.mk hF.1
 have HF2 := Aside0.mk hF.2.1
 have HF3 := Aside0.mk hF.2.2
 have HK := Aside0.mk (fun W => kept_calls hke W)
 have HC0 := Aside0.mk hr0
 have hx0 : ∀ h : 0 < key.size, ((key[0]'h).toNat : Int) = bt key 0 := bt_at key 0
 have hx1 : ∀ h : 1 < key.size, ((key[1]'h).toNat : Int) = bt key 1 := bt_at key 1
 rw [h0] at hx0
 rw [hx] at hx1
 have g1 : ((p : Int) < 0) = False := eq_false (by omega)
 have g2 : (t.length < p) = False := eq_false (by omega)
 have g3 : (((c + 1 : Nat) : Int) < 1) = False := eq_false (by omega)
 have g4 : (9999 < ((c + 1 : Nat) : Int)) = False := eq_false (by omega)
 have g5 : ((key.size : Int) != 2) = false := bne_eq_false_iff_eq.2 hs
 have g6 : (0 < key.size) = True := eq_true (by omega)
 have g7 : (1 < key.size) = True := eq_true (by omega)
 have g8 : (1 < (key.size : Int)) = True := eq_true (by omega)
 generalize hn1_ : ((c + 1 : Nat) : Int) = n1 at g3 g4  ⊢
 have HN1 := Aside0.mk hn1_
 clear hF hke hr0 h0 hx hs hn1_
 obtain ⟨rfl, rfl, rfl, rfl⟩ := hv
 subst hop
 obtain ⟨n1_, n2_, n3_, n4_, n5_, n6_⟩ := hno
 have e1 : (x == 119) = false := beq_eq_false_iff_ne.2 n1_
 have e2 : (x == 87) = false := beq_eq_false_iff_ne.2 n2_
 have e3 : (x == 112) = false := beq_eq_false_iff_ne.2 n3_
 have e4 : (x == 34) = false := beq_eq_false_iff_ne.2 n4_
 have e5 : (x == 39) = false := beq_eq_false_iff_ne.2 n5_
 have e6 : (x == 96) = false := beq_eq_false_iff_ne.2 n6_
 clear n1_ n2_ n3_ n4_ n5_ n6_
 cases around with
 | true =>
  simp only [Bool.false_eq_true, if_true, if_false] at hx0
  go_enter Tryd.func9, Tryd.ntmps9
  go_wp2_with (first
   | (go_at_call 16; (with_reducible refine (HF1.out _ HB0.out).mono ?_); rintro e w1 ⟨rfl, hx⟩; have H1 := Aside0.mk (below_step HB0.out hx); have BK1 := Aside0.mk (blk_below BX.out hx); clear hx)
   | (go_at_call 17; (with_reducible refine (HF2.out _ H1.out).mono ?_); rintro e w2 ⟨rfl, hx⟩; have H2 := Aside0.mk (below_step H1.out hx); have BK2 := Aside0.mk (blk_below BK1.out hx); clear hx)
   | (go_at_call 18; (with_reducible refine (HF3.out _ H2.out).mono ?_); rintro e w3 ⟨rfl, hx⟩; have H3 := Aside0.mk (below_step H2.out hx); have BK3 := Aside0.mk (blk_below BK2.out hx); clear hx)
   | (go_at_call 19; (with_reducible refine (HK.out _).mono ?_); rintro e w4 ⟨rfl, hx⟩; have hn := Aside0.mk (show w.heap.size < w4.heap.size from blk_lt (blk_below BK3.out hx)); have H4 := Aside0.mk (below_alloc (below_step H3.out hx) (.cells #[.int .i64 0, .int .i64 0, .bool false] 48)); have BK4 := Aside0.mk (blk_alloc (blk_below BK3.out hx) (.cells #[.int .i64 0, .int .i64 0, .bool false] 48)); have BR4 := Aside0.mk (blk_new w4 (.cells #[.int .i64 0, .int .i64 0, .bool false] 48)); clear hx; have c0_ := (blk_cell BK4.out 0).trans rfl; have c1_ := (blk_cell BK4.out 1).trans rfl; have c2_ := (blk_cell BK4.out 2).trans rfl; have f0_ := blk_frozen BK4.out 0; have f1_ := blk_frozen BK4.out 1; have f2_ := blk_frozen BK4.out 2))
  exact bodyPost_ret (results_ct rfl _ _ w.heap.size 29 #[.int .i64 0, .int .i64 0, .int .i64 0] (0, 0) _ rfl (by refine blk_put (cs := #[.int .i64 0, .int .i64 0, .int .i64 0]) ?_ 2 _ rfl; refine blk_put (cs := #[.int .i64 0, .int .i64 0, .int .i64 0]) ?_ 1 _ rfl; refine blk_put (cs := #[.int .i64 0, .int .i64 0, .int .i64 0]) ?_ 0 _ rfl; exact BK4.out) Tryd.underlying29 rfl (by kernel_rfl)) rfl ⟨rfl, below_set (below_set (below_set H4.out (Nat.le_refl _)) (Nat.le_refl _)) (Nat.le_refl _)⟩
 | false =>
  simp only [Bool.false_eq_true, if_true, if_false] at hx0
  go_enter Tryd.func9, Tryd.ntmps9
  go_wp2_with (first
   | (go_at_call 16; (with_reducible refine (HF1.out _ HB0.out).mono ?_); rintro e w1 ⟨rfl, hx⟩; have H1 := Aside0.mk (below_step HB0.out hx); have BK1 := Aside0.mk (blk_below BX.out hx); clear hx)
   | (go_at_call 17; (with_reducible refine (HF2.out _ H1.out).mono ?_); rintro e w2 ⟨rfl, hx⟩; have H2 := Aside0.mk (below_step H1.out hx); have BK2 := Aside0.mk (blk_below BK1.out hx); clear hx)
   | (go_at_call 18; (with_reducible refine (HF3.out _ H2.out).mono ?_); rintro e w3 ⟨rfl, hx⟩; have H3 := Aside0.mk (below_step H2.out hx); have BK3 := Aside0.mk (blk_below BK2.out hx); clear hx)
   | (go_at_call 19; (with_reducible refine (HK.out _).mono ?_); rintro e w4 ⟨rfl, hx⟩; have hn := Aside0.mk (show w.heap.size < w4.heap.size from blk_lt (blk_below BK3.out hx)); have H4 := Aside0.mk (below_alloc (below_step H3.out hx) (.cells #[.int .i64 0, .int .i64 0, .bool false] 48)); have BK4 := Aside0.mk (blk_alloc (blk_below BK3.out hx) (.cells #[.int .i64 0, .int .i64 0, .bool false] 48)); have BR4 := Aside0.mk (blk_new w4 (.cells #[.int .i64 0, .int .i64 0, .bool false] 48)); clear hx; have c0_ := (blk_cell BK4.out 0).trans rfl; have c1_ := (blk_cell BK4.out 1).trans rfl; have c2_ := (blk_cell BK4.out 2).trans rfl; have f0_ := blk_frozen BK4.out 0; have f1_ := blk_frozen BK4.out 1; have f2_ := blk_frozen BK4.out 2))
  exact bodyPost_ret (results_ct rfl _ _ w.heap.size 29 #[.int .i64 0, .int .i64 0, .int .i64 0] (0, 0) _ rfl (by refine blk_put (cs := #[.int .i64 0, .int .i64 0, .int .i64 0]) ?_ 2 _ rfl; refine blk_put (cs := #[.int .i64 0, .int .i64 0, .int .i64 0]) ?_ 1 _ rfl; refine blk_put (cs := #[.int .i64 0, .int .i64 0, .int .i64 0]) ?_ 0 _ rfl; exact BK4.out) Tryd.underlying29 rfl (by kernel_rfl)) rfl ⟨rfl, below_set (below_set (below_set H4.out (Nat.le_refl _)) (Nat.le_refl _)) (Nat.le_refl _)⟩
set_option maxHeartbeats 8000000 in
set_option maxRecDepth 100000 in
theorem rsel_w {t : List Int} {p c : Nat} {ln sb fe : Int} {key : ByteArray} (hp : p ≤ t.length) (hc : c + 1 ≤ 9999) (hs : (key.size : Int) = 2) (around : Bool) (h0 : bt key 0 = if around = true then 97 else 105) {x op cl : Int} (hx : bt key 1 = x) (hke : Ev (fun k => quoinref13_kept.f k x) (op, cl))
  (A0 : Option Addr) (c0 : Nat) (w : World) (hr0 : Kd.C (Kd.int .u8) w A0 t.length t) (hc0 : t.length ≤ c0) (hF : Fronts t A0 c0 w (p : Int) ln sb fe) {F T K E r1 r2 r4 : Int} (hv : (r4 = 0 ∧ F = r1 ∧ T = r2 ∧ K = 1) ∨ (¬ r4 = 0 ∧ F = 0 ∧ T = 0 ∧ K = 0)) (hE : E = r4) {L : List S76} (hq : x = 119 ∨ x = 87) (hwd : ∀ W : World, Below w.heap.size w W → Calls Tryd.prog 20 #[.slice A0 t.length c0, .int .i64 sb, .int .i64 fe, .bool (x == 87)] W fun e w' => ∃ v0_ : Value, e = .returned v0_ ∧ Kd.R k48 48 w' W.heap.size (fun _ => True) v0_ (L.map c48) ∧ Below W.heap.size W w') (hb : ∀ (A : Option Addr) (n : Nat) (W : World), Kd.C k48 W A L.length (L.map c48) → L.length ≤ n → Calls Tryd.prog (if around = true then 21 else 22) #[.slice A L.length n, .int .i64 (p : Int), .int .i64 ((c + 1 : Nat) : Int)] W fun e w' => e = .returned (.tuple #[.agg #[.int .i64 r1, .int .i64 r2, .bool false], .int .i64 r4]) ∧ Below W.heap.size W w') :
  Calls Tryd.prog 9 #[.slice A0 t.length c0, .int .i64 (p : Int), .int .i64 ((c + 1 : Nat) : Int), .string key] w fun e w' => e = .returned (.tuple #[.agg #[.int .i64 F, .int .i64 T, .int .i64 K], .int .i64 E]) ∧ Below w.heap.size w w' := by
 have HB0 := Aside0.mk (below_alloc (Below.refl w.heap.size w) (.cells #[.int .i64 0, .int .i64 0, .int .i64 0] 29))
 have BX := Aside0.mk (blk_new w (.cells #[.int .i64 0, .int .i64 0, .int .i64 0] 29))
 have HF1 := Aside0.mk hF.1
 have HF2 := Aside0.mk hF.2.1
 have HF3 := Aside0.mk hF.2.2
 have HK := Aside0.mk (fun W => kept_calls hke W)
 have HC0 := Aside0.mk hr0
 have hx0 : ∀ h : 0 < key.size, ((key[0]'h).toNat : Int) = bt key 0 := bt_at key 0
 have hx1 : ∀ h : 1 < key.size, ((key[1]'h).toNat : Int) = bt key 1 := bt_at key 1
 rw [h0] at hx0
 rw [hx] at hx1
 have g1 : ((p : Int) < 0) = False := eq_false (by omega)
 have g2 : (t.length < p) = False := eq_false (by omega)
 have g3 : (((c + 1 : Nat) : Int) < 1) = False := eq_false (by omega)
 have g4 : (9999 < ((c + 1 : Nat) : Int)) = False := eq_false (by omega)
 have g5 : ((key.size : Int) != 2) = false := bne_eq_false_iff_eq.2 hs
 have g6 : (0 < key.size) = True := eq_true (by omega)
 have g7 : (1 < key.size) = True := eq_true (by omega)
 have g8 : (1 < (key.size : Int)) = True := eq_true (by omega)
 generalize hn1_ : ((c + 1 : Nat) : Int) = n1 at g3 g4 hb ⊢
 have HN1 := Aside0.mk hn1_
 clear hF hke hr0 h0 hx hs hn1_
 have HV := Aside0.mk hv
 subst hE
 clear hv
 cases around with
 | true =>
  simp only [Bool.false_eq_true, if_true, if_false] at hx0
  simp only [Bool.false_eq_true, if_true, if_false] at hb
  have HA := Aside0.mk hb
  clear hb
  have HWD := Aside0.mk hwd
  clear hwd
  rcases hq with rfl | rfl
  all_goals
   simp only [show ((119 : Int) == 87) = false from rfl, show ((87 : Int) == 87) = true from rfl] at HWD
   go_enter Tryd.func9, Tryd.ntmps9
   go_wp2_with (first
    | (go_at_call 16; (with_reducible refine (HF1.out _ HB0.out).mono ?_); rintro e w1 ⟨rfl, hx⟩; have H1 := Aside0.mk (below_step HB0.out hx); have BK1 := Aside0.mk (blk_below BX.out hx); clear hx)
    | (go_at_call 17; (with_reducible refine (HF2.out _ H1.out).mono ?_); rintro e w2 ⟨rfl, hx⟩; have H2 := Aside0.mk (below_step H1.out hx); have BK2 := Aside0.mk (blk_below BK1.out hx); clear hx)
    | (go_at_call 18; (with_reducible refine (HF3.out _ H2.out).mono ?_); rintro e w3 ⟨rfl, hx⟩; have H3 := Aside0.mk (below_step H2.out hx); have BK3 := Aside0.mk (blk_below BK2.out hx); clear hx)
    | (go_at_call 19; (with_reducible refine (HK.out _).mono ?_); rintro e w4 ⟨rfl, hx⟩; have hn := Aside0.mk (show w.heap.size < w4.heap.size from blk_lt (blk_below BK3.out hx)); have H4 := Aside0.mk (below_alloc (below_step H3.out hx) (.cells #[.int .i64 0, .int .i64 0, .bool false] 48)); have BK4 := Aside0.mk (blk_alloc (blk_below BK3.out hx) (.cells #[.int .i64 0, .int .i64 0, .bool false] 48)); have BR4 := Aside0.mk (blk_new w4 (.cells #[.int .i64 0, .int .i64 0, .bool false] 48)); clear hx)
    | (go_at_call 20; (with_reducible refine (HWD.out _ H4.out).mono ?_); rintro e w5 ⟨v5, rfl, hR, hx⟩; obtain ⟨A1, c1, ev⟩ := Kd.R_slice hR; rw [List.length_map] at ev; subst ev; have H5 := Aside0.mk (below_step H4.out hx); have BK5 := Aside0.mk (blk_below BK4.out hx); have BR5 := Aside0.mk (blk_below BR4.out hx); have HL5 := Aside0.mk (And.intro (show Kd.C k48 w5 A1 L.length (L.map c48) from by have h := (Kd.R_reads' hR).2.2; first | exact h | (rw [List.length_map] at h; exact h)) (show L.length ≤ c1 from by have h := (Kd.R_reads' hR).2.1; first | exact h | (rw [List.length_map] at h; exact h))); clear hR hx)
    | (go_at_call 21; (with_reducible refine (HA.out _ _ _ HL5.out.1 HL5.out.2).mono ?_); rintro e w9 ⟨rfl, hx⟩; have H9 := Aside0.mk (below_set (j := 2) (v := .bool false) (below_set (j := 1) (v := .int .i64 r2) (below_set (j := 0) (v := .int .i64 r1) (below_step H5.out hx) (Nat.le_of_lt hn.out)) (Nat.le_of_lt hn.out)) (Nat.le_of_lt hn.out)); have BJ := Aside0.mk (blk_below BR5.out hx); have BL := Aside0.mk (blk_below BK5.out hx); have BR9 := Aside0.mk (blk_put (cs' := #[.int .i64 r1, .int .i64 r2, .bool false]) (blk_put (cs' := #[.int .i64 r1, .int .i64 r2, .bool false]) (blk_put (cs' := #[.int .i64 r1, .int .i64 0, .bool false]) BJ.out 0 (.int .i64 r1) rfl) 1 (.int .i64 r2) rfl) 2 (.bool false) rfl); have BK9 := Aside0.mk (blk_far (blk_far (blk_far BL.out (p := ⟨w4.heap.size, 0, none⟩) (Nat.ne_of_lt hn.out) (.int .i64 r1)) (p := ⟨w4.heap.size, 1, none⟩) (Nat.ne_of_lt hn.out) (.int .i64 r2)) (p := ⟨w4.heap.size, 2, none⟩) (Nat.ne_of_lt hn.out) (.bool false)); clear hx; have hn1 := Nat.ne_of_lt hn.out; have hn2 := Nat.ne_of_gt hn.out; have u0_ := (blk_cell BJ.out 0).trans rfl; have u1_ := (blk_cell BJ.out 1).trans rfl; have u2_ := (blk_cell BJ.out 2).trans rfl; have v0_ := blk_frozen BJ.out 0; have v1_ := blk_frozen BJ.out 1; have v2_ := blk_frozen BJ.out 2; have c0_ := (blk_cell BK9.out 0).trans rfl; have c1_ := (blk_cell BK9.out 1).trans rfl; have c2_ := (blk_cell BK9.out 2).trans rfl; have f0_ := blk_frozen BK9.out 0; have f1_ := blk_frozen BK9.out 1; have f2_ := blk_frozen BK9.out 2; have x0_ := (blk_cell BR9.out 0).trans rfl; have x1_ := (blk_cell BR9.out 1).trans rfl))
   all_goals first
    | (obtain ⟨hE, rfl, rfl, rfl⟩ : E = 0 ∧ F = r1 ∧ T = r2 ∧ K = 1 := HV.out.elim (fun h => h) (fun h => absurd (bne_eq_false_iff_eq.1 (by assumption)) h.1); subst hE; exact bodyPost_ret (results_ct rfl _ _ w.heap.size 29 #[.int .i64 F, .int .i64 T, .int .i64 1] (0, 0) _ rfl (by refine blk_put (cs := #[.int .i64 F, .int .i64 T, .int .i64 0]) ?_ 2 _ rfl; refine blk_put (cs := #[.int .i64 F, .int .i64 0, .int .i64 0]) ?_ 1 _ rfl; refine blk_put (cs := #[.int .i64 0, .int .i64 0, .int .i64 0]) ?_ 0 _ rfl; exact BK9.out) Tryd.underlying29 rfl (by kernel_rfl)) rfl ⟨rfl, below_set (below_set (below_set H9.out (Nat.le_refl _)) (Nat.le_refl _)) (Nat.le_refl _)⟩)
    | (obtain ⟨hE, rfl, rfl, rfl⟩ : ¬ E = 0 ∧ F = 0 ∧ T = 0 ∧ K = 0 := HV.out.elim (fun h => absurd h.1 (bne_iff_ne.1 (by assumption))) (fun h => h); exact bodyPost_ret (results_ct rfl _ _ w.heap.size 29 #[.int .i64 0, .int .i64 0, .int .i64 0] (0, 0) _ rfl (by refine blk_put (cs := #[.int .i64 0, .int .i64 0, .int .i64 0]) ?_ 2 _ rfl; refine blk_put (cs := #[.int .i64 0, .int .i64 0, .int .i64 0]) ?_ 1 _ rfl; refine blk_put (cs := #[.int .i64 0, .int .i64 0, .int .i64 0]) ?_ 0 _ rfl; exact BK9.out) Tryd.underlying29 rfl (by kernel_rfl)) rfl ⟨rfl, below_set (below_set (below_set H9.out (Nat.le_refl _)) (Nat.le_refl _)) (Nat.le_refl _)⟩)
 | false =>
  simp only [Bool.false_eq_true, if_true, if_false] at hx0
  simp only [Bool.false_eq_true, if_true, if_false] at hb
  have HA := Aside0.mk hb
  clear hb
  have HWD := Aside0.mk hwd
  clear hwd
  rcases hq with rfl | rfl
  all_goals
   simp only [show ((119 : Int) == 87) = false from rfl, show ((87 : Int) == 87) = true from rfl] at HWD
   go_enter Tryd.func9, Tryd.ntmps9
   go_wp2_with (first
    | (go_at_call 16; (with_reducible refine (HF1.out _ HB0.out).mono ?_); rintro e w1 ⟨rfl, hx⟩; have H1 := Aside0.mk (below_step HB0.out hx); have BK1 := Aside0.mk (blk_below BX.out hx); clear hx)
    | (go_at_call 17; (with_reducible refine (HF2.out _ H1.out).mono ?_); rintro e w2 ⟨rfl, hx⟩; have H2 := Aside0.mk (below_step H1.out hx); have BK2 := Aside0.mk (blk_below BK1.out hx); clear hx)
    | (go_at_call 18; (with_reducible refine (HF3.out _ H2.out).mono ?_); rintro e w3 ⟨rfl, hx⟩; have H3 := Aside0.mk (below_step H2.out hx); have BK3 := Aside0.mk (blk_below BK2.out hx); clear hx)
    | (go_at_call 19; (with_reducible refine (HK.out _).mono ?_); rintro e w4 ⟨rfl, hx⟩; have hn := Aside0.mk (show w.heap.size < w4.heap.size from blk_lt (blk_below BK3.out hx)); have H4 := Aside0.mk (below_alloc (below_step H3.out hx) (.cells #[.int .i64 0, .int .i64 0, .bool false] 48)); have BK4 := Aside0.mk (blk_alloc (blk_below BK3.out hx) (.cells #[.int .i64 0, .int .i64 0, .bool false] 48)); have BR4 := Aside0.mk (blk_new w4 (.cells #[.int .i64 0, .int .i64 0, .bool false] 48)); clear hx)
    | (go_at_call 20; (with_reducible refine (HWD.out _ H4.out).mono ?_); rintro e w5 ⟨v5, rfl, hR, hx⟩; obtain ⟨A1, c1, ev⟩ := Kd.R_slice hR; rw [List.length_map] at ev; subst ev; have H5 := Aside0.mk (below_step H4.out hx); have BK5 := Aside0.mk (blk_below BK4.out hx); have BR5 := Aside0.mk (blk_below BR4.out hx); have HL5 := Aside0.mk (And.intro (show Kd.C k48 w5 A1 L.length (L.map c48) from by have h := (Kd.R_reads' hR).2.2; first | exact h | (rw [List.length_map] at h; exact h)) (show L.length ≤ c1 from by have h := (Kd.R_reads' hR).2.1; first | exact h | (rw [List.length_map] at h; exact h))); clear hR hx)
    | (go_at_call 22; (with_reducible refine (HA.out _ _ _ HL5.out.1 HL5.out.2).mono ?_); rintro e w9 ⟨rfl, hx⟩; have H9 := Aside0.mk (below_set (j := 2) (v := .bool false) (below_set (j := 1) (v := .int .i64 r2) (below_set (j := 0) (v := .int .i64 r1) (below_step H5.out hx) (Nat.le_of_lt hn.out)) (Nat.le_of_lt hn.out)) (Nat.le_of_lt hn.out)); have BJ := Aside0.mk (blk_below BR5.out hx); have BL := Aside0.mk (blk_below BK5.out hx); have BR9 := Aside0.mk (blk_put (cs' := #[.int .i64 r1, .int .i64 r2, .bool false]) (blk_put (cs' := #[.int .i64 r1, .int .i64 r2, .bool false]) (blk_put (cs' := #[.int .i64 r1, .int .i64 0, .bool false]) BJ.out 0 (.int .i64 r1) rfl) 1 (.int .i64 r2) rfl) 2 (.bool false) rfl); have BK9 := Aside0.mk (blk_far (blk_far (blk_far BL.out (p := ⟨w4.heap.size, 0, none⟩) (Nat.ne_of_lt hn.out) (.int .i64 r1)) (p := ⟨w4.heap.size, 1, none⟩) (Nat.ne_of_lt hn.out) (.int .i64 r2)) (p := ⟨w4.heap.size, 2, none⟩) (Nat.ne_of_lt hn.out) (.bool false)); clear hx; have hn1 := Nat.ne_of_lt hn.out; have hn2 := Nat.ne_of_gt hn.out; have u0_ := (blk_cell BJ.out 0).trans rfl; have u1_ := (blk_cell BJ.out 1).trans rfl; have u2_ := (blk_cell BJ.out 2).trans rfl; have v0_ := blk_frozen BJ.out 0; have v1_ := blk_frozen BJ.out 1; have v2_ := blk_frozen BJ.out 2; have c0_ := (blk_cell BK9.out 0).trans rfl; have c1_ := (blk_cell BK9.out 1).trans rfl; have c2_ := (blk_cell BK9.out 2).trans rfl; have f0_ := blk_frozen BK9.out 0; have f1_ := blk_frozen BK9.out 1; have f2_ := blk_frozen BK9.out 2; have x0_ := (blk_cell BR9.out 0).trans rfl; have x1_ := (blk_cell BR9.out 1).trans rfl))
   all_goals first
    | (obtain ⟨hE, rfl, rfl, rfl⟩ : E = 0 ∧ F = r1 ∧ T = r2 ∧ K = 1 := HV.out.elim (fun h => h) (fun h => absurd (bne_eq_false_iff_eq.1 (by assumption)) h.1); subst hE; exact bodyPost_ret (results_ct rfl _ _ w.heap.size 29 #[.int .i64 F, .int .i64 T, .int .i64 1] (0, 0) _ rfl (by refine blk_put (cs := #[.int .i64 F, .int .i64 T, .int .i64 0]) ?_ 2 _ rfl; refine blk_put (cs := #[.int .i64 F, .int .i64 0, .int .i64 0]) ?_ 1 _ rfl; refine blk_put (cs := #[.int .i64 0, .int .i64 0, .int .i64 0]) ?_ 0 _ rfl; exact BK9.out) Tryd.underlying29 rfl (by kernel_rfl)) rfl ⟨rfl, below_set (below_set (below_set H9.out (Nat.le_refl _)) (Nat.le_refl _)) (Nat.le_refl _)⟩)
    | (obtain ⟨hE, rfl, rfl, rfl⟩ : ¬ E = 0 ∧ F = 0 ∧ T = 0 ∧ K = 0 := HV.out.elim (fun h => absurd h.1 (bne_iff_ne.1 (by assumption))) (fun h => h); exact bodyPost_ret (results_ct rfl _ _ w.heap.size 29 #[.int .i64 0, .int .i64 0, .int .i64 0] (0, 0) _ rfl (by refine blk_put (cs := #[.int .i64 0, .int .i64 0, .int .i64 0]) ?_ 2 _ rfl; refine blk_put (cs := #[.int .i64 0, .int .i64 0, .int .i64 0]) ?_ 1 _ rfl; refine blk_put (cs := #[.int .i64 0, .int .i64 0, .int .i64 0]) ?_ 0 _ rfl; exact BK9.out) Tryd.underlying29 rfl (by kernel_rfl)) rfl ⟨rfl, below_set (below_set (below_set H9.out (Nat.le_refl _)) (Nat.le_refl _)) (Nat.le_refl _)⟩)
end Go.Proofs.YtcochbkdgjgaeaaDoor.OC3
