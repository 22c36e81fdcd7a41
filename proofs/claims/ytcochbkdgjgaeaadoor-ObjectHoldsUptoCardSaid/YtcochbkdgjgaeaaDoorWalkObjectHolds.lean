/-
 ObjectHolds: the walk.
 Conditions: what comes in is of bulk at most 1048576.
-/
import Derived.Test.YtcochbkdgjgaeaaDoorHOA
import Derived.Test.YtcochbkdgjgaeaaDoorHOB
import Derived.Test.YtcochbkdgjgaeaaDoorX25
import Derived.Lib.Hide
import Derived.Deep.QuietTactic
import Derived.BigQuiet
import Derived.Lib.OthersKept
namespace Go.Proofs.YtcochbkdgjgaeaaDoor.WalkObjectHolds
open Go.RowKit Go.Proofs.YtcochbkdgjgaeaaDoorW.PrintWords Go.Proofs.YtcochbkdgjgaeaaDoorW.PrintLast Go.Proofs.YtcochbkdgjgaeaaDoorW.PrintMore Go.Proofs.YtcochbkdgjgaeaaDoor.X Go.Proofs.YtcochbkdgjgaeaaDoor.XL Go.Proofs.YtcochbkdgjgaeaaDoor.XO Go.Proofs.YtcochbkdgjgaeaaDoor.LN Go.Proofs.YtcochbkdgjgaeaaDoor.OVB Go.Proofs.YtcochbkdgjgaeaaDoor.OVX Go.Proofs.YtcochbkdgjgaeaaDoor.OVS Go.Proofs.YtcochbkdgjgaeaaDoor.OVH
set_option linter.unusedVariables false
set_option linter.unusedSimpArgs false
theorem awake_ev : Ev (fun k => quoinlaw13_awake.f k) true := Ev.of quoinlaw13_awake.mono (k := 60) (by decide +kernel)
theorem place_ok (a : Int) (ha : okI64 a) (b : Int) (hb : 0 < b) : ∃ m, quoinlaw13_place.f a b = some m ∧ 0 ≤ m ∧ m < b := by
 unfold quoinlaw13_place.f
 have h1 := ha.1
 have h2 := ha.2
 by_cases h : a < 0
 ·rw [if_pos h, if_neg (by omega)]
  have w1 : wrap64 (a + 1) = a + 1 := wrap64_id (by omega) (by omega)
  have w2 : wrap64 (-(a + 1)) = -(a + 1) := wrap64_id (by omega) (by omega)
  rw [w1, w2]
  refine ⟨_, rfl, ?_, ?_⟩
  ·exact Int.tmod_nonneg _ (by omega)
  ·exact Int.tmod_lt_of_pos _ hb
 ·rw [if_neg h, if_neg (by omega)]
  exact ⟨_, rfl, Int.tmod_nonneg _ (by omega), Int.tmod_lt_of_pos _ hb⟩
theorem u8_C {w : World} {b : Nat} {xs : List Int} {fr : Nat × Nat} (h : w.heap[b]? = some (.cells (xs.map (Value.int .u8)).toArray 5 fr)) (hl : xs.length ≤ 281474976710656) : Kd.C (Kd.int .u8) w (some ⟨b, 0, none⟩) xs.length xs := by
 refine Kd.C_of_reads (enc := Value.int .u8) (d := (0 : Int)) (h1 := fun _ => rfl) ⟨rfl, by omega, fun _ => ⟨_, rfl, fun j hj => ?_⟩⟩
 have h1 : w.cell? ⟨b, j, none⟩ = some (.int .u8 (xs.getD j 0)) := (cell_of_row w b j _ _ _ h).trans (by rw [List.getD_eq_getElem?_getD]; simp [hj])
 cases j with
 | zero => simpa [Addr.add] using h1
 | succ j => simpa [Addr.add] using h1
theorem byte_at {w : World} {A : Option Addr} {n : Nat} {xs : List Int} (h : (Kd.int .u8).C w A n xs) {i : Nat} (hi : i < n) : ∃ ad, A = some ad ∧ w.cell? (ad.add i) = some (.int .u8 (rd xs (i : Int))) := by
 obtain ⟨ad, c, rfl, hc, hk, hcc⟩ := Kd.C_get h 0 (i : Int) (by omega) (by omega)
 rw [Int.toNat_natCast] at hk hcc
 have hk : c = [.int .u8 (xs.getD i 0)] := hk
 subst hk
 refine ⟨ad, rfl, ?_⟩
 have h2 := hcc 0 _ rfl
 have e : (Kd.int .u8).sz = 1 := rfl
 rw [e, Nat.mul_one, Nat.add_zero] at h2
 rw [h2]
 unfold rd
 rw [Int.toNat_natCast]
theorem sel_calls {A0 : Option Addr} {c0 : Nat} {l0 : List Int} (hc0 : l0.length ≤ c0) {p c : Nat} {key : ByteArray} {r1 r2 r3 r4 : Int} (h : Ev (fun k => object_Select.f k l0 (p : Int) ((c + 1 : Nat) : Int) key) (r1, r2, r3, r4)) (W : World) (hr : Kd.C (Kd.int .u8) W A0 l0.length l0) :
  Calls Tryd.prog 10 #[.slice A0 l0.length c0, .int .i64 (p : Int), .int .i64 ((c : Int) + 1), .string key] W fun e w' => e = .returned (.tuple #[.agg #[.int .i64 r1, .int .i64 r2, .int .i64 r3], .int .i64 r4]) ∧ Below W.heap.size W w' := by
 obtain ⟨k, h1⟩ := h
 exact object_Select.calls k A0 c0 l0 _ _ key r1 r2 r3 r4 W hr hc0 (h1 k (Nat.le_refl _))
theorem lies_calls {A0 : Option Addr} {c0 : Nat} {l0 : List Int} (hc0 : l0.length ≤ c0) {a b c d x : Int} (h : Ev (fun k => quoinlaw13_lies.f k l0 a b c d x) true) (W : World) (hr : Kd.C (Kd.int .u8) W A0 l0.length l0) :
  Calls Tryd.prog 13 #[.slice A0 l0.length c0, .agg #[.int .i64 a, .int .i64 b, .int .i64 c], .int .i64 d, .int .i32 x] W fun e w' => e = .returned (.bool true) ∧ Below W.heap.size W w' := by
 obtain ⟨k, h1⟩ := h
 exact quoinlaw13_lies.calls k A0 c0 l0 a b c d x true W hr hc0 (h1 k (Nat.le_refl _))
theorem about_calls {a b x : Int} (h : Ev (fun k => quoinlaw13_about.f k a b x) true) (W : World) :
  Calls Tryd.prog 14 #[.int .u8 a, .int .u8 b, .int .u8 x] W fun e w' => e = .returned (.bool true) ∧ Drawn0 W w' := by
 obtain ⟨k, h1⟩ := h
 exact quoinlaw13_about.calls k a b x true W (h1 k (Nat.le_refl _))
set_option maxHeartbeats 16000000 in
set_option maxRecDepth 100000 in
theorem walk (A0 : Option Addr) (c0 : Nat) (l0 : List Int) (a1 : Int) (a2 : Int) (w : World) (hr0 : Kd.C (Kd.int .u8) w A0 l0.length l0) (hc0 : l0.length ≤ c0) (o0 : (okSl 1 okU8) l0) (o1 : okI64 a1) (o2 : okI64 a2) (hb : ((szSl szOne) l0 + szOne a1 + szOne a2 ≤ 1048576)) :
  Calls Tryd.prog 4 #[.slice A0 l0.length c0, .int .i64 a1, .int .i64 a2] w fun e w' => e = .returned (.bool true) ∧ Below w.heap.size w w' := by
 have hl0 : l0.length ≤ 1048576 := by have h1 := szSl_length (szOne (α := Int)) (fun _ => Nat.le_refl _) l0; omega
 have hu : u8s l0 = true := u8s_ok o0
 have HA : Aside0 (∀ W : World, Calls Tryd.prog 7 #[] W fun e w' => e = .returned (.bool true) ∧ Below W.heap.size W w') := by
  obtain ⟨k, h⟩ := awake_ev
  exact ⟨fun W => quoinlaw13_awake.calls k true W (h k (Nat.le_refl _))⟩
 obtain ⟨p', hp, hp0, hp1⟩ := place_ok a1 o1 ((l0.length : Int) + 1) (by omega)
 obtain ⟨p, rfl⟩ : ∃ p : Nat, p' = (p : Int) := ⟨p'.toNat, by omega⟩
 have hpl : p ≤ l0.length := by omega
 obtain ⟨c', hc, hc0', hc1⟩ := place_ok a2 o2 5 (by decide)
 obtain ⟨c, rfl⟩ : ∃ c : Nat, c' = (c : Int) := ⟨c'.toNat, by omega⟩
 have hcl : c ≤ 9 := by omega
 have HP1 : Aside0 (∀ W : World, Calls Tryd.prog 12 #[.int .i64 a1, .int .i64 ((l0.length : Int) + 1)] W fun e w' => e = .returned (.int .i64 (p : Int)) ∧ Drawn0 W w') := ⟨fun W => quoinlaw13_place.calls a1 _ _ W hp⟩
 have HP2 : Aside0 (∀ W : World, Calls Tryd.prog 12 #[.int .i64 a2, .int .i64 5] W fun e w' => e = .returned (.int .i64 (c : Int)) ∧ Drawn0 W w') := ⟨fun W => quoinlaw13_place.calls a2 _ _ W hc⟩
 clear hp hp0 hp1 hc hc0' hc1 o0 o1 o2 hb
 go_enter Tryd.func4, Tryd.ntmps4
 go_wp2_with (first
  | (go_at_call 7; (with_reducible refine (HA.out _).mono ?_); rintro e w1 ⟨rfl, hx⟩; have H1 := Aside0.mk hx; clear hx)
  | (go_at_call 12; (with_reducible refine (HP1.out _).mono ?_); rintro e w2 ⟨rfl, hx⟩; have H2 := Aside0.mk hx; clear hx)
  | (go_at_call 12; (with_reducible refine (HP2.out _).mono ?_); rintro e w3 ⟨rfl, hx⟩; have H3 := Aside0.mk hx; clear hx))
 have HB3 := Aside0.mk (below_step (below_step H1.out H2.out.below) H3.out.below)
 have hw3 : w.heap.size ≤ w3.heap.size := HB3.out.size
 have HC0 := Aside0.mk hr0
 clear hr0
 go_loopw [10] (fun _ wr => ∃ pos : Nat, pos ≤ 14 ∧ wr.heap[w3.heap.size]? = some (.stringIter ({ data := #[119, 87, 112, 34, 39, 96, 40, 41, 98, 91, 93, 123, 125, 66] } : ByteArray) pos) ∧ Below w.heap.size w wr) (fun _ wr => 14 - wr.iterPos w3.heap.size)
 case atStart => exact ⟨0, by decide, by have h := World.iter_heap w3 ({ data := #[119, 87, 112, 34, 39, 96, 40, 41, 98, 91, 93, 123, 125, 66] } : ByteArray) 0; simpa using h, below_alloc HB3.out _⟩
 case round =>
  obtain ⟨pos, hps, hk, hnx⟩ := hrel
  have hpos : pos = 0 ∨ pos = 1 ∨ pos = 2 ∨ pos = 3 ∨ pos = 4 ∨ pos = 5 ∨ pos = 6 ∨ pos = 7 ∨ pos = 8 ∨ pos = 9 ∨ pos = 10 ∨ pos = 11 ∨ pos = 12 ∨ pos = 13 ∨ pos = 14 := by omega
  rcases hpos with rfl | rfl | rfl | rfl | rfl | rfl | rfl | rfl | rfl | rfl | rfl | rfl | rfl | rfl | rfl
  ·as_aux_lemma =>
   have hnext : ∀ ty, (Instr.next (.pointer (some ⟨w3.heap.size, 0, none⟩)) true ty).run Tryd.prog wr = .ok (.tuple #[.bool true, .int .i64 0, .int .i32 119]) (wr.iterAt w3.heap.size ({ data := #[119, 87, 112, 34, 39, 96, 40, 41, 98, 91, 93, 123, 125, 66] } : ByteArray) 1) := fun ty => Lib.run_next_ascii_at wr w3.heap.size ({ data := #[119, 87, 112, 34, 39, 96, 40, 41, 98, 91, 93, 123, 125, 66] } : ByteArray) 0 ty hk (by decide) (by decide)
   have hk1 := Lib.iterAt_heap wr w3.heap.size ({ data := #[119, 87, 112, 34, 39, 96, 40, 41, 98, 91, 93, 123, 125, 66] } : ByteArray) 0 1 hk
   have hn1 : Below w.heap.size w (wr.iterAt w3.heap.size ({ data := #[119, 87, 112, 34, 39, 96, 40, 41, 98, 91, 93, 123, 125, 66] } : ByteArray) 1) := Lib.below_iterAt hnx hw3 ({ data := #[119, 87, 112, 34, 39, 96, 40, 41, 98, 91, 93, 123, 125, 66] } : ByteArray) 1
   have hmu : wr.iterPos w3.heap.size = 0 := by simp [World.iterPos, hk]
   generalize wr.iterAt w3.heap.size ({ data := #[119, 87, 112, 34, 39, 96, 40, 41, 98, 91, 93, 123, 125, 66] } : ByteArray) 1 = W1 at hnext hk1 hn1
   have HM := Aside0.mk hmu
   clear hmu hk hnx
   have HW0 := Aside0.mk (below_alloc hn1 (.cells #[.int .u8 119] 5))
   have HI0 := Aside0.mk (blk_alloc hk1 (.cells #[.int .u8 119] 5))
   have kc1 := Kd.C_string (P := Tryd.prog) (c := 1) Tryd.underlying22 Tryd.underlying5 Tryd.underlying9 (show Kd.C (Kd.int .u8) (W1.alloc (.cells #[.int .u8 119] 5)) (some ⟨W1.heap.size, 0, none⟩) 1 [119] from u8_C (xs := [119]) (fr := (0, 0)) (blk_new W1 (.cells #[.int .u8 119] 5)) (by decide))
   clear hk1 hn1
   obtain ⟨⟨iF, iT, iK, iE⟩, ⟨aF, aT, aK, aE⟩, hI, hA, hLI, hLA, hiE, haE, hrest⟩ := held_w hu hl0 hpl (c := c) (by omega) (ki := ({ data := #[105] } ++ strOfNums [119] : ByteArray)) (ka := ({ data := #[97] } ++ strOfNums [119] : ByteArray)) (x := 119) ⟨by decide +kernel, by decide +kernel, by decide +kernel, by decide +kernel, by decide +kernel, by decide +kernel⟩ (by decide)
   simp only at hI hA hLI hLA hiE haE hrest
   have HS1 := Aside0.mk (fun (W : World) (h : Below w.heap.size w W) => sel_calls hc0 hI W (Kd.C_below HC0.out h))
   have HS2 := Aside0.mk (fun (W : World) (h : Below w.heap.size w W) => sel_calls hc0 hA W (Kd.C_below HC0.out h))
   have HL1 := Aside0.mk (fun (W : World) (h : Below w.heap.size w W) => lies_calls hc0 hLI W (Kd.C_below HC0.out h))
   have HL2 := Aside0.mk (fun (W : World) (h : Below w.heap.size w W) => lies_calls hc0 hLA W (Kd.C_below HC0.out h))
   clear hI hA hLI hLA
   clear hrest
   rcases hiE with rfl | rfl
   ·rcases haE with rfl | rfl
    ·as_aux_lemma =>
     go_wp2_with (first
      | (go_at_call 10; (with_reducible refine (HS1.out _ HW0.out).mono ?_); rintro e w4 ⟨rfl, hx⟩; have HW4 := Aside0.mk (below_alloc (below_alloc (below_step HW0.out hx) (.cells #[.int .i64 iF, .int .i64 iT, .int .i64 iK] 29)) (.cells #[.int .u8 119] 5)); have HI4 := Aside0.mk (blk_alloc (blk_alloc (blk_below HI0.out hx) (.cells #[.int .i64 iF, .int .i64 iT, .int .i64 iK] 29)) (.cells #[.int .u8 119] 5)); have BN4 := Aside0.mk (blk_alloc (blk_new w4 (.cells #[.int .i64 iF, .int .i64 iT, .int .i64 iK] 29)) (.cells #[.int .u8 119] 5)); clear hx; have kc2 := Kd.C_string (P := Tryd.prog) (c := 1) Tryd.underlying22 Tryd.underlying5 Tryd.underlying9 (show Kd.C (Kd.int .u8) ((w4.alloc (.cells #[.int .i64 iF, .int .i64 iT, .int .i64 iK] 29)).alloc (.cells #[.int .u8 119] 5)) (some ⟨w4.heap.size + 1, 0, none⟩) 1 [119] from (by have h := u8_C (xs := [119]) (fr := (0, 0)) (blk_new (w4.alloc (.cells #[.int .i64 iF, .int .i64 iT, .int .i64 iK] 29)) (.cells #[.int .u8 119] 5)) (by decide); rw [World.size_alloc] at h; exact h)))
      | (go_at_call 10; (with_reducible refine (HS2.out _ HW4.out).mono ?_); rintro e w5 ⟨rfl, hx⟩; have HW5 := Aside0.mk (below_alloc (below_step HW4.out hx) (.cells #[.int .i64 aF, .int .i64 aT, .int .i64 aK] 29)); have HI5 := Aside0.mk (blk_alloc (blk_below HI4.out hx) (.cells #[.int .i64 aF, .int .i64 aT, .int .i64 aK] 29)); have BN5 := Aside0.mk (blk_new w5 (.cells #[.int .i64 aF, .int .i64 aT, .int .i64 aK] 29)); have BM5 := Aside0.mk (blk_alloc (blk_below BN4.out hx) (.cells #[.int .i64 aF, .int .i64 aT, .int .i64 aK] 29)); clear hx; have x0 := (blk_cell BM5.out 0).trans rfl; have x1 := (blk_cell BM5.out 1).trans rfl; have x2 := (blk_cell BM5.out 2).trans rfl)
      | (go_at_call 13; (with_reducible refine (HL1.out _ HW5.out).mono ?_); rintro e w6 ⟨rfl, hx⟩; have HW6 := Aside0.mk (below_step HW5.out hx); have HI6 := Aside0.mk (blk_below HI5.out hx); have BN6 := Aside0.mk (blk_below BN5.out hx); have BM6 := Aside0.mk (blk_below BM5.out hx); clear hx; have y0 := (blk_cell BN6.out 0).trans rfl; have y1 := (blk_cell BN6.out 1).trans rfl; have y2 := (blk_cell BN6.out 2).trans rfl)
      | (go_at_call 13; (with_reducible refine (HL2.out _ HW6.out).mono ?_); rintro e w7 ⟨rfl, hx⟩; have HW7 := Aside0.mk (below_step HW6.out hx); have HI7 := Aside0.mk (blk_below HI6.out hx); have BN7 := Aside0.mk (blk_below BN6.out hx); have BM7 := Aside0.mk (blk_below BM6.out hx); clear hx))
     go_roundw
     case rel => exact ⟨1, by decide, HI7.out, HW7.out⟩
     case measure =>
      have hm2 := HI7.out
      rw [HM.out, show World.iterPos _ w3.heap.size = 1 from by simp [World.iterPos, hm2]]
      decide
    ·as_aux_lemma =>
     go_wp2_with (first
      | (go_at_call 10; (with_reducible refine (HS1.out _ HW0.out).mono ?_); rintro e w4 ⟨rfl, hx⟩; have HW4 := Aside0.mk (below_alloc (below_alloc (below_step HW0.out hx) (.cells #[.int .i64 iF, .int .i64 iT, .int .i64 iK] 29)) (.cells #[.int .u8 119] 5)); have HI4 := Aside0.mk (blk_alloc (blk_alloc (blk_below HI0.out hx) (.cells #[.int .i64 iF, .int .i64 iT, .int .i64 iK] 29)) (.cells #[.int .u8 119] 5)); have BN4 := Aside0.mk (blk_alloc (blk_new w4 (.cells #[.int .i64 iF, .int .i64 iT, .int .i64 iK] 29)) (.cells #[.int .u8 119] 5)); clear hx; have kc2 := Kd.C_string (P := Tryd.prog) (c := 1) Tryd.underlying22 Tryd.underlying5 Tryd.underlying9 (show Kd.C (Kd.int .u8) ((w4.alloc (.cells #[.int .i64 iF, .int .i64 iT, .int .i64 iK] 29)).alloc (.cells #[.int .u8 119] 5)) (some ⟨w4.heap.size + 1, 0, none⟩) 1 [119] from (by have h := u8_C (xs := [119]) (fr := (0, 0)) (blk_new (w4.alloc (.cells #[.int .i64 iF, .int .i64 iT, .int .i64 iK] 29)) (.cells #[.int .u8 119] 5)) (by decide); rw [World.size_alloc] at h; exact h)))
      | (go_at_call 10; (with_reducible refine (HS2.out _ HW4.out).mono ?_); rintro e w5 ⟨rfl, hx⟩; have HW5 := Aside0.mk (below_alloc (below_step HW4.out hx) (.cells #[.int .i64 aF, .int .i64 aT, .int .i64 aK] 29)); have HI5 := Aside0.mk (blk_alloc (blk_below HI4.out hx) (.cells #[.int .i64 aF, .int .i64 aT, .int .i64 aK] 29)); have BN5 := Aside0.mk (blk_new w5 (.cells #[.int .i64 aF, .int .i64 aT, .int .i64 aK] 29)); have BM5 := Aside0.mk (blk_alloc (blk_below BN4.out hx) (.cells #[.int .i64 aF, .int .i64 aT, .int .i64 aK] 29)); clear hx; have x0 := (blk_cell BM5.out 0).trans rfl; have x1 := (blk_cell BM5.out 1).trans rfl; have x2 := (blk_cell BM5.out 2).trans rfl)
      | (go_at_call 13; (with_reducible refine (HL1.out _ HW5.out).mono ?_); rintro e w6 ⟨rfl, hx⟩; have HW6 := Aside0.mk (below_step HW5.out hx); have HI6 := Aside0.mk (blk_below HI5.out hx); have BN6 := Aside0.mk (blk_below BN5.out hx); have BM6 := Aside0.mk (blk_below BM5.out hx); clear hx; have y0 := (blk_cell BN6.out 0).trans rfl; have y1 := (blk_cell BN6.out 1).trans rfl; have y2 := (blk_cell BN6.out 2).trans rfl)
      | (go_at_call 13; (with_reducible refine (HL2.out _ HW6.out).mono ?_); rintro e w7 ⟨rfl, hx⟩; have HW7 := Aside0.mk (below_step HW6.out hx); have HI7 := Aside0.mk (blk_below HI6.out hx); have BN7 := Aside0.mk (blk_below BN6.out hx); have BM7 := Aside0.mk (blk_below BM6.out hx); clear hx))
     go_roundw
     case rel => exact ⟨1, by decide, HI7.out, HW7.out⟩
     case measure =>
      have hm2 := HI7.out
      rw [HM.out, show World.iterPos _ w3.heap.size = 1 from by simp [World.iterPos, hm2]]
      decide
   ·rcases haE with rfl | rfl
    ·as_aux_lemma =>
     go_wp2_with (first
      | (go_at_call 10; (with_reducible refine (HS1.out _ HW0.out).mono ?_); rintro e w4 ⟨rfl, hx⟩; have HW4 := Aside0.mk (below_alloc (below_alloc (below_step HW0.out hx) (.cells #[.int .i64 iF, .int .i64 iT, .int .i64 iK] 29)) (.cells #[.int .u8 119] 5)); have HI4 := Aside0.mk (blk_alloc (blk_alloc (blk_below HI0.out hx) (.cells #[.int .i64 iF, .int .i64 iT, .int .i64 iK] 29)) (.cells #[.int .u8 119] 5)); have BN4 := Aside0.mk (blk_alloc (blk_new w4 (.cells #[.int .i64 iF, .int .i64 iT, .int .i64 iK] 29)) (.cells #[.int .u8 119] 5)); clear hx; have kc2 := Kd.C_string (P := Tryd.prog) (c := 1) Tryd.underlying22 Tryd.underlying5 Tryd.underlying9 (show Kd.C (Kd.int .u8) ((w4.alloc (.cells #[.int .i64 iF, .int .i64 iT, .int .i64 iK] 29)).alloc (.cells #[.int .u8 119] 5)) (some ⟨w4.heap.size + 1, 0, none⟩) 1 [119] from (by have h := u8_C (xs := [119]) (fr := (0, 0)) (blk_new (w4.alloc (.cells #[.int .i64 iF, .int .i64 iT, .int .i64 iK] 29)) (.cells #[.int .u8 119] 5)) (by decide); rw [World.size_alloc] at h; exact h)))
      | (go_at_call 10; (with_reducible refine (HS2.out _ HW4.out).mono ?_); rintro e w5 ⟨rfl, hx⟩; have HW5 := Aside0.mk (below_alloc (below_step HW4.out hx) (.cells #[.int .i64 aF, .int .i64 aT, .int .i64 aK] 29)); have HI5 := Aside0.mk (blk_alloc (blk_below HI4.out hx) (.cells #[.int .i64 aF, .int .i64 aT, .int .i64 aK] 29)); have BN5 := Aside0.mk (blk_new w5 (.cells #[.int .i64 aF, .int .i64 aT, .int .i64 aK] 29)); have BM5 := Aside0.mk (blk_alloc (blk_below BN4.out hx) (.cells #[.int .i64 aF, .int .i64 aT, .int .i64 aK] 29)); clear hx; have x0 := (blk_cell BM5.out 0).trans rfl; have x1 := (blk_cell BM5.out 1).trans rfl; have x2 := (blk_cell BM5.out 2).trans rfl)
      | (go_at_call 13; (with_reducible refine (HL1.out _ HW5.out).mono ?_); rintro e w6 ⟨rfl, hx⟩; have HW6 := Aside0.mk (below_step HW5.out hx); have HI6 := Aside0.mk (blk_below HI5.out hx); have BN6 := Aside0.mk (blk_below BN5.out hx); have BM6 := Aside0.mk (blk_below BM5.out hx); clear hx; have y0 := (blk_cell BN6.out 0).trans rfl; have y1 := (blk_cell BN6.out 1).trans rfl; have y2 := (blk_cell BN6.out 2).trans rfl)
      | (go_at_call 13; (with_reducible refine (HL2.out _ HW6.out).mono ?_); rintro e w7 ⟨rfl, hx⟩; have HW7 := Aside0.mk (below_step HW6.out hx); have HI7 := Aside0.mk (blk_below HI6.out hx); have BN7 := Aside0.mk (blk_below BN6.out hx); have BM7 := Aside0.mk (blk_below BM6.out hx); clear hx))
     go_roundw
     case rel => exact ⟨1, by decide, HI7.out, HW7.out⟩
     case measure =>
      have hm2 := HI7.out
      rw [HM.out, show World.iterPos _ w3.heap.size = 1 from by simp [World.iterPos, hm2]]
      decide
    ·as_aux_lemma =>
     go_wp2_with (first
      | (go_at_call 10; (with_reducible refine (HS1.out _ HW0.out).mono ?_); rintro e w4 ⟨rfl, hx⟩; have HW4 := Aside0.mk (below_alloc (below_alloc (below_step HW0.out hx) (.cells #[.int .i64 iF, .int .i64 iT, .int .i64 iK] 29)) (.cells #[.int .u8 119] 5)); have HI4 := Aside0.mk (blk_alloc (blk_alloc (blk_below HI0.out hx) (.cells #[.int .i64 iF, .int .i64 iT, .int .i64 iK] 29)) (.cells #[.int .u8 119] 5)); have BN4 := Aside0.mk (blk_alloc (blk_new w4 (.cells #[.int .i64 iF, .int .i64 iT, .int .i64 iK] 29)) (.cells #[.int .u8 119] 5)); clear hx; have kc2 := Kd.C_string (P := Tryd.prog) (c := 1) Tryd.underlying22 Tryd.underlying5 Tryd.underlying9 (show Kd.C (Kd.int .u8) ((w4.alloc (.cells #[.int .i64 iF, .int .i64 iT, .int .i64 iK] 29)).alloc (.cells #[.int .u8 119] 5)) (some ⟨w4.heap.size + 1, 0, none⟩) 1 [119] from (by have h := u8_C (xs := [119]) (fr := (0, 0)) (blk_new (w4.alloc (.cells #[.int .i64 iF, .int .i64 iT, .int .i64 iK] 29)) (.cells #[.int .u8 119] 5)) (by decide); rw [World.size_alloc] at h; exact h)))
      | (go_at_call 10; (with_reducible refine (HS2.out _ HW4.out).mono ?_); rintro e w5 ⟨rfl, hx⟩; have HW5 := Aside0.mk (below_alloc (below_step HW4.out hx) (.cells #[.int .i64 aF, .int .i64 aT, .int .i64 aK] 29)); have HI5 := Aside0.mk (blk_alloc (blk_below HI4.out hx) (.cells #[.int .i64 aF, .int .i64 aT, .int .i64 aK] 29)); have BN5 := Aside0.mk (blk_new w5 (.cells #[.int .i64 aF, .int .i64 aT, .int .i64 aK] 29)); have BM5 := Aside0.mk (blk_alloc (blk_below BN4.out hx) (.cells #[.int .i64 aF, .int .i64 aT, .int .i64 aK] 29)); clear hx; have x0 := (blk_cell BM5.out 0).trans rfl; have x1 := (blk_cell BM5.out 1).trans rfl; have x2 := (blk_cell BM5.out 2).trans rfl)
      | (go_at_call 13; (with_reducible refine (HL1.out _ HW5.out).mono ?_); rintro e w6 ⟨rfl, hx⟩; have HW6 := Aside0.mk (below_step HW5.out hx); have HI6 := Aside0.mk (blk_below HI5.out hx); have BN6 := Aside0.mk (blk_below BN5.out hx); have BM6 := Aside0.mk (blk_below BM5.out hx); clear hx; have y0 := (blk_cell BN6.out 0).trans rfl; have y1 := (blk_cell BN6.out 1).trans rfl; have y2 := (blk_cell BN6.out 2).trans rfl)
      | (go_at_call 13; (with_reducible refine (HL2.out _ HW6.out).mono ?_); rintro e w7 ⟨rfl, hx⟩; have HW7 := Aside0.mk (below_step HW6.out hx); have HI7 := Aside0.mk (blk_below HI6.out hx); have BN7 := Aside0.mk (blk_below BN6.out hx); have BM7 := Aside0.mk (blk_below BM6.out hx); clear hx))
     go_roundw
     case rel => exact ⟨1, by decide, HI7.out, HW7.out⟩
     case measure =>
      have hm2 := HI7.out
      rw [HM.out, show World.iterPos _ w3.heap.size = 1 from by simp [World.iterPos, hm2]]
      decide
  ·as_aux_lemma =>
   have hnext : ∀ ty, (Instr.next (.pointer (some ⟨w3.heap.size, 0, none⟩)) true ty).run Tryd.prog wr = .ok (.tuple #[.bool true, .int .i64 1, .int .i32 87]) (wr.iterAt w3.heap.size ({ data := #[119, 87, 112, 34, 39, 96, 40, 41, 98, 91, 93, 123, 125, 66] } : ByteArray) 2) := fun ty => Lib.run_next_ascii_at wr w3.heap.size ({ data := #[119, 87, 112, 34, 39, 96, 40, 41, 98, 91, 93, 123, 125, 66] } : ByteArray) 1 ty hk (by decide) (by decide)
   have hk1 := Lib.iterAt_heap wr w3.heap.size ({ data := #[119, 87, 112, 34, 39, 96, 40, 41, 98, 91, 93, 123, 125, 66] } : ByteArray) 1 2 hk
   have hn1 : Below w.heap.size w (wr.iterAt w3.heap.size ({ data := #[119, 87, 112, 34, 39, 96, 40, 41, 98, 91, 93, 123, 125, 66] } : ByteArray) 2) := Lib.below_iterAt hnx hw3 ({ data := #[119, 87, 112, 34, 39, 96, 40, 41, 98, 91, 93, 123, 125, 66] } : ByteArray) 2
   have hmu : wr.iterPos w3.heap.size = 1 := by simp [World.iterPos, hk]
   generalize wr.iterAt w3.heap.size ({ data := #[119, 87, 112, 34, 39, 96, 40, 41, 98, 91, 93, 123, 125, 66] } : ByteArray) 2 = W1 at hnext hk1 hn1
   have HM := Aside0.mk hmu
   clear hmu hk hnx
   have HW0 := Aside0.mk (below_alloc hn1 (.cells #[.int .u8 87] 5))
   have HI0 := Aside0.mk (blk_alloc hk1 (.cells #[.int .u8 87] 5))
   have kc1 := Kd.C_string (P := Tryd.prog) (c := 1) Tryd.underlying22 Tryd.underlying5 Tryd.underlying9 (show Kd.C (Kd.int .u8) (W1.alloc (.cells #[.int .u8 87] 5)) (some ⟨W1.heap.size, 0, none⟩) 1 [87] from u8_C (xs := [87]) (fr := (0, 0)) (blk_new W1 (.cells #[.int .u8 87] 5)) (by decide))
   clear hk1 hn1
   obtain ⟨⟨iF, iT, iK, iE⟩, ⟨aF, aT, aK, aE⟩, hI, hA, hLI, hLA, hiE, haE, hrest⟩ := held_w hu hl0 hpl (c := c) (by omega) (ki := ({ data := #[105] } ++ strOfNums [87] : ByteArray)) (ka := ({ data := #[97] } ++ strOfNums [87] : ByteArray)) (x := 87) ⟨by decide +kernel, by decide +kernel, by decide +kernel, by decide +kernel, by decide +kernel, by decide +kernel⟩ (by decide)
   simp only at hI hA hLI hLA hiE haE hrest
   have HS1 := Aside0.mk (fun (W : World) (h : Below w.heap.size w W) => sel_calls hc0 hI W (Kd.C_below HC0.out h))
   have HS2 := Aside0.mk (fun (W : World) (h : Below w.heap.size w W) => sel_calls hc0 hA W (Kd.C_below HC0.out h))
   have HL1 := Aside0.mk (fun (W : World) (h : Below w.heap.size w W) => lies_calls hc0 hLI W (Kd.C_below HC0.out h))
   have HL2 := Aside0.mk (fun (W : World) (h : Below w.heap.size w W) => lies_calls hc0 hLA W (Kd.C_below HC0.out h))
   clear hI hA hLI hLA
   clear hrest
   rcases hiE with rfl | rfl
   ·rcases haE with rfl | rfl
    ·as_aux_lemma =>
     go_wp2_with (first
      | (go_at_call 10; (with_reducible refine (HS1.out _ HW0.out).mono ?_); rintro e w4 ⟨rfl, hx⟩; have HW4 := Aside0.mk (below_alloc (below_alloc (below_step HW0.out hx) (.cells #[.int .i64 iF, .int .i64 iT, .int .i64 iK] 29)) (.cells #[.int .u8 87] 5)); have HI4 := Aside0.mk (blk_alloc (blk_alloc (blk_below HI0.out hx) (.cells #[.int .i64 iF, .int .i64 iT, .int .i64 iK] 29)) (.cells #[.int .u8 87] 5)); have BN4 := Aside0.mk (blk_alloc (blk_new w4 (.cells #[.int .i64 iF, .int .i64 iT, .int .i64 iK] 29)) (.cells #[.int .u8 87] 5)); clear hx; have kc2 := Kd.C_string (P := Tryd.prog) (c := 1) Tryd.underlying22 Tryd.underlying5 Tryd.underlying9 (show Kd.C (Kd.int .u8) ((w4.alloc (.cells #[.int .i64 iF, .int .i64 iT, .int .i64 iK] 29)).alloc (.cells #[.int .u8 87] 5)) (some ⟨w4.heap.size + 1, 0, none⟩) 1 [87] from (by have h := u8_C (xs := [87]) (fr := (0, 0)) (blk_new (w4.alloc (.cells #[.int .i64 iF, .int .i64 iT, .int .i64 iK] 29)) (.cells #[.int .u8 87] 5)) (by decide); rw [World.size_alloc] at h; exact h)))
      | (go_at_call 10; (with_reducible refine (HS2.out _ HW4.out).mono ?_); rintro e w5 ⟨rfl, hx⟩; have HW5 := Aside0.mk (below_alloc (below_step HW4.out hx) (.cells #[.int .i64 aF, .int .i64 aT, .int .i64 aK] 29)); have HI5 := Aside0.mk (blk_alloc (blk_below HI4.out hx) (.cells #[.int .i64 aF, .int .i64 aT, .int .i64 aK] 29)); have BN5 := Aside0.mk (blk_new w5 (.cells #[.int .i64 aF, .int .i64 aT, .int .i64 aK] 29)); have BM5 := Aside0.mk (blk_alloc (blk_below BN4.out hx) (.cells #[.int .i64 aF, .int .i64 aT, .int .i64 aK] 29)); clear hx; have x0 := (blk_cell BM5.out 0).trans rfl; have x1 := (blk_cell BM5.out 1).trans rfl; have x2 := (blk_cell BM5.out 2).trans rfl)
      | (go_at_call 13; (with_reducible refine (HL1.out _ HW5.out).mono ?_); rintro e w6 ⟨rfl, hx⟩; have HW6 := Aside0.mk (below_step HW5.out hx); have HI6 := Aside0.mk (blk_below HI5.out hx); have BN6 := Aside0.mk (blk_below BN5.out hx); have BM6 := Aside0.mk (blk_below BM5.out hx); clear hx; have y0 := (blk_cell BN6.out 0).trans rfl; have y1 := (blk_cell BN6.out 1).trans rfl; have y2 := (blk_cell BN6.out 2).trans rfl)
      | (go_at_call 13; (with_reducible refine (HL2.out _ HW6.out).mono ?_); rintro e w7 ⟨rfl, hx⟩; have HW7 := Aside0.mk (below_step HW6.out hx); have HI7 := Aside0.mk (blk_below HI6.out hx); have BN7 := Aside0.mk (blk_below BN6.out hx); have BM7 := Aside0.mk (blk_below BM6.out hx); clear hx))
     go_roundw
     case rel => exact ⟨2, by decide, HI7.out, HW7.out⟩
     case measure =>
      have hm2 := HI7.out
      rw [HM.out, show World.iterPos _ w3.heap.size = 2 from by simp [World.iterPos, hm2]]
      decide
    ·as_aux_lemma =>
     go_wp2_with (first
      | (go_at_call 10; (with_reducible refine (HS1.out _ HW0.out).mono ?_); rintro e w4 ⟨rfl, hx⟩; have HW4 := Aside0.mk (below_alloc (below_alloc (below_step HW0.out hx) (.cells #[.int .i64 iF, .int .i64 iT, .int .i64 iK] 29)) (.cells #[.int .u8 87] 5)); have HI4 := Aside0.mk (blk_alloc (blk_alloc (blk_below HI0.out hx) (.cells #[.int .i64 iF, .int .i64 iT, .int .i64 iK] 29)) (.cells #[.int .u8 87] 5)); have BN4 := Aside0.mk (blk_alloc (blk_new w4 (.cells #[.int .i64 iF, .int .i64 iT, .int .i64 iK] 29)) (.cells #[.int .u8 87] 5)); clear hx; have kc2 := Kd.C_string (P := Tryd.prog) (c := 1) Tryd.underlying22 Tryd.underlying5 Tryd.underlying9 (show Kd.C (Kd.int .u8) ((w4.alloc (.cells #[.int .i64 iF, .int .i64 iT, .int .i64 iK] 29)).alloc (.cells #[.int .u8 87] 5)) (some ⟨w4.heap.size + 1, 0, none⟩) 1 [87] from (by have h := u8_C (xs := [87]) (fr := (0, 0)) (blk_new (w4.alloc (.cells #[.int .i64 iF, .int .i64 iT, .int .i64 iK] 29)) (.cells #[.int .u8 87] 5)) (by decide); rw [World.size_alloc] at h; exact h)))
      | (go_at_call 10; (with_reducible refine (HS2.out _ HW4.out).mono ?_); rintro e w5 ⟨rfl, hx⟩; have HW5 := Aside0.mk (below_alloc (below_step HW4.out hx) (.cells #[.int .i64 aF, .int .i64 aT, .int .i64 aK] 29)); have HI5 := Aside0.mk (blk_alloc (blk_below HI4.out hx) (.cells #[.int .i64 aF, .int .i64 aT, .int .i64 aK] 29)); have BN5 := Aside0.mk (blk_new w5 (.cells #[.int .i64 aF, .int .i64 aT, .int .i64 aK] 29)); have BM5 := Aside0.mk (blk_alloc (blk_below BN4.out hx) (.cells #[.int .i64 aF, .int .i64 aT, .int .i64 aK] 29)); clear hx; have x0 := (blk_cell BM5.out 0).trans rfl; have x1 := (blk_cell BM5.out 1).trans rfl; have x2 := (blk_cell BM5.out 2).trans rfl)
      | (go_at_call 13; (with_reducible refine (HL1.out _ HW5.out).mono ?_); rintro e w6 ⟨rfl, hx⟩; have HW6 := Aside0.mk (below_step HW5.out hx); have HI6 := Aside0.mk (blk_below HI5.out hx); have BN6 := Aside0.mk (blk_below BN5.out hx); have BM6 := Aside0.mk (blk_below BM5.out hx); clear hx; have y0 := (blk_cell BN6.out 0).trans rfl; have y1 := (blk_cell BN6.out 1).trans rfl; have y2 := (blk_cell BN6.out 2).trans rfl)
      | (go_at_call 13; (with_reducible refine (HL2.out _ HW6.out).mono ?_); rintro e w7 ⟨rfl, hx⟩; have HW7 := Aside0.mk (below_step HW6.out hx); have HI7 := Aside0.mk (blk_below HI6.out hx); have BN7 := Aside0.mk (blk_below BN6.out hx); have BM7 := Aside0.mk (blk_below BM6.out hx); clear hx))
     go_roundw
     case rel => exact ⟨2, by decide, HI7.out, HW7.out⟩
     case measure =>
      have hm2 := HI7.out
      rw [HM.out, show World.iterPos _ w3.heap.size = 2 from by simp [World.iterPos, hm2]]
      decide
   ·rcases haE with rfl | rfl
    ·as_aux_lemma =>
     go_wp2_with (first
      | (go_at_call 10; (with_reducible refine (HS1.out _ HW0.out).mono ?_); rintro e w4 ⟨rfl, hx⟩; have HW4 := Aside0.mk (below_alloc (below_alloc (below_step HW0.out hx) (.cells #[.int .i64 iF, .int .i64 iT, .int .i64 iK] 29)) (.cells #[.int .u8 87] 5)); have HI4 := Aside0.mk (blk_alloc (blk_alloc (blk_below HI0.out hx) (.cells #[.int .i64 iF, .int .i64 iT, .int .i64 iK] 29)) (.cells #[.int .u8 87] 5)); have BN4 := Aside0.mk (blk_alloc (blk_new w4 (.cells #[.int .i64 iF, .int .i64 iT, .int .i64 iK] 29)) (.cells #[.int .u8 87] 5)); clear hx; have kc2 := Kd.C_string (P := Tryd.prog) (c := 1) Tryd.underlying22 Tryd.underlying5 Tryd.underlying9 (show Kd.C (Kd.int .u8) ((w4.alloc (.cells #[.int .i64 iF, .int .i64 iT, .int .i64 iK] 29)).alloc (.cells #[.int .u8 87] 5)) (some ⟨w4.heap.size + 1, 0, none⟩) 1 [87] from (by have h := u8_C (xs := [87]) (fr := (0, 0)) (blk_new (w4.alloc (.cells #[.int .i64 iF, .int .i64 iT, .int .i64 iK] 29)) (.cells #[.int .u8 87] 5)) (by decide); rw [World.size_alloc] at h; exact h)))
      | (go_at_call 10; (with_reducible refine (HS2.out _ HW4.out).mono ?_); rintro e w5 ⟨rfl, hx⟩; have HW5 := Aside0.mk (below_alloc (below_step HW4.out hx) (.cells #[.int .i64 aF, .int .i64 aT, .int .i64 aK] 29)); have HI5 := Aside0.mk (blk_alloc (blk_below HI4.out hx) (.cells #[.int .i64 aF, .int .i64 aT, .int .i64 aK] 29)); have BN5 := Aside0.mk (blk_new w5 (.cells #[.int .i64 aF, .int .i64 aT, .int .i64 aK] 29)); have BM5 := Aside0.mk (blk_alloc (blk_below BN4.out hx) (.cells #[.int .i64 aF, .int .i64 aT, .int .i64 aK] 29)); clear hx; have x0 := (blk_cell BM5.out 0).trans rfl; have x1 := (blk_cell BM5.out 1).trans rfl; have x2 := (blk_cell BM5.out 2).trans rfl)
      | (go_at_call 13; (with_reducible refine (HL1.out _ HW5.out).mono ?_); rintro e w6 ⟨rfl, hx⟩; have HW6 := Aside0.mk (below_step HW5.out hx); have HI6 := Aside0.mk (blk_below HI5.out hx); have BN6 := Aside0.mk (blk_below BN5.out hx); have BM6 := Aside0.mk (blk_below BM5.out hx); clear hx; have y0 := (blk_cell BN6.out 0).trans rfl; have y1 := (blk_cell BN6.out 1).trans rfl; have y2 := (blk_cell BN6.out 2).trans rfl)
      | (go_at_call 13; (with_reducible refine (HL2.out _ HW6.out).mono ?_); rintro e w7 ⟨rfl, hx⟩; have HW7 := Aside0.mk (below_step HW6.out hx); have HI7 := Aside0.mk (blk_below HI6.out hx); have BN7 := Aside0.mk (blk_below BN6.out hx); have BM7 := Aside0.mk (blk_below BM6.out hx); clear hx))
     go_roundw
     case rel => exact ⟨2, by decide, HI7.out, HW7.out⟩
     case measure =>
      have hm2 := HI7.out
      rw [HM.out, show World.iterPos _ w3.heap.size = 2 from by simp [World.iterPos, hm2]]
      decide
    ·as_aux_lemma =>
     go_wp2_with (first
      | (go_at_call 10; (with_reducible refine (HS1.out _ HW0.out).mono ?_); rintro e w4 ⟨rfl, hx⟩; have HW4 := Aside0.mk (below_alloc (below_alloc (below_step HW0.out hx) (.cells #[.int .i64 iF, .int .i64 iT, .int .i64 iK] 29)) (.cells #[.int .u8 87] 5)); have HI4 := Aside0.mk (blk_alloc (blk_alloc (blk_below HI0.out hx) (.cells #[.int .i64 iF, .int .i64 iT, .int .i64 iK] 29)) (.cells #[.int .u8 87] 5)); have BN4 := Aside0.mk (blk_alloc (blk_new w4 (.cells #[.int .i64 iF, .int .i64 iT, .int .i64 iK] 29)) (.cells #[.int .u8 87] 5)); clear hx; have kc2 := Kd.C_string (P := Tryd.prog) (c := 1) Tryd.underlying22 Tryd.underlying5 Tryd.underlying9 (show Kd.C (Kd.int .u8) ((w4.alloc (.cells #[.int .i64 iF, .int .i64 iT, .int .i64 iK] 29)).alloc (.cells #[.int .u8 87] 5)) (some ⟨w4.heap.size + 1, 0, none⟩) 1 [87] from (by have h := u8_C (xs := [87]) (fr := (0, 0)) (blk_new (w4.alloc (.cells #[.int .i64 iF, .int .i64 iT, .int .i64 iK] 29)) (.cells #[.int .u8 87] 5)) (by decide); rw [World.size_alloc] at h; exact h)))
      | (go_at_call 10; (with_reducible refine (HS2.out _ HW4.out).mono ?_); rintro e w5 ⟨rfl, hx⟩; have HW5 := Aside0.mk (below_alloc (below_step HW4.out hx) (.cells #[.int .i64 aF, .int .i64 aT, .int .i64 aK] 29)); have HI5 := Aside0.mk (blk_alloc (blk_below HI4.out hx) (.cells #[.int .i64 aF, .int .i64 aT, .int .i64 aK] 29)); have BN5 := Aside0.mk (blk_new w5 (.cells #[.int .i64 aF, .int .i64 aT, .int .i64 aK] 29)); have BM5 := Aside0.mk (blk_alloc (blk_below BN4.out hx) (.cells #[.int .i64 aF, .int .i64 aT, .int .i64 aK] 29)); clear hx; have x0 := (blk_cell BM5.out 0).trans rfl; have x1 := (blk_cell BM5.out 1).trans rfl; have x2 := (blk_cell BM5.out 2).trans rfl)
      | (go_at_call 13; (with_reducible refine (HL1.out _ HW5.out).mono ?_); rintro e w6 ⟨rfl, hx⟩; have HW6 := Aside0.mk (below_step HW5.out hx); have HI6 := Aside0.mk (blk_below HI5.out hx); have BN6 := Aside0.mk (blk_below BN5.out hx); have BM6 := Aside0.mk (blk_below BM5.out hx); clear hx; have y0 := (blk_cell BN6.out 0).trans rfl; have y1 := (blk_cell BN6.out 1).trans rfl; have y2 := (blk_cell BN6.out 2).trans rfl)
      | (go_at_call 13; (with_reducible refine (HL2.out _ HW6.out).mono ?_); rintro e w7 ⟨rfl, hx⟩; have HW7 := Aside0.mk (below_step HW6.out hx); have HI7 := Aside0.mk (blk_below HI6.out hx); have BN7 := Aside0.mk (blk_below BN6.out hx); have BM7 := Aside0.mk (blk_below BM6.out hx); clear hx))
     go_roundw
     case rel => exact ⟨2, by decide, HI7.out, HW7.out⟩
     case measure =>
      have hm2 := HI7.out
      rw [HM.out, show World.iterPos _ w3.heap.size = 2 from by simp [World.iterPos, hm2]]
      decide
  ·as_aux_lemma =>
   have hnext : ∀ ty, (Instr.next (.pointer (some ⟨w3.heap.size, 0, none⟩)) true ty).run Tryd.prog wr = .ok (.tuple #[.bool true, .int .i64 2, .int .i32 112]) (wr.iterAt w3.heap.size ({ data := #[119, 87, 112, 34, 39, 96, 40, 41, 98, 91, 93, 123, 125, 66] } : ByteArray) 3) := fun ty => Lib.run_next_ascii_at wr w3.heap.size ({ data := #[119, 87, 112, 34, 39, 96, 40, 41, 98, 91, 93, 123, 125, 66] } : ByteArray) 2 ty hk (by decide) (by decide)
   have hk1 := Lib.iterAt_heap wr w3.heap.size ({ data := #[119, 87, 112, 34, 39, 96, 40, 41, 98, 91, 93, 123, 125, 66] } : ByteArray) 2 3 hk
   have hn1 : Below w.heap.size w (wr.iterAt w3.heap.size ({ data := #[119, 87, 112, 34, 39, 96, 40, 41, 98, 91, 93, 123, 125, 66] } : ByteArray) 3) := Lib.below_iterAt hnx hw3 ({ data := #[119, 87, 112, 34, 39, 96, 40, 41, 98, 91, 93, 123, 125, 66] } : ByteArray) 3
   have hmu : wr.iterPos w3.heap.size = 2 := by simp [World.iterPos, hk]
   generalize wr.iterAt w3.heap.size ({ data := #[119, 87, 112, 34, 39, 96, 40, 41, 98, 91, 93, 123, 125, 66] } : ByteArray) 3 = W1 at hnext hk1 hn1
   have HM := Aside0.mk hmu
   clear hmu hk hnx
   have HW0 := Aside0.mk (below_alloc hn1 (.cells #[.int .u8 112] 5))
   have HI0 := Aside0.mk (blk_alloc hk1 (.cells #[.int .u8 112] 5))
   have kc1 := Kd.C_string (P := Tryd.prog) (c := 1) Tryd.underlying22 Tryd.underlying5 Tryd.underlying9 (show Kd.C (Kd.int .u8) (W1.alloc (.cells #[.int .u8 112] 5)) (some ⟨W1.heap.size, 0, none⟩) 1 [112] from u8_C (xs := [112]) (fr := (0, 0)) (blk_new W1 (.cells #[.int .u8 112] 5)) (by decide))
   clear hk1 hn1
   obtain ⟨⟨iF, iT, iK, iE⟩, ⟨aF, aT, aK, aE⟩, hI, hA, hLI, hLA, hiE, haE, hrest⟩ := held_p hu hl0 hpl (c := c) (by omega) (ki := ({ data := #[105] } ++ strOfNums [112] : ByteArray)) (ka := ({ data := #[97] } ++ strOfNums [112] : ByteArray)) ⟨by decide +kernel, by decide +kernel, by decide +kernel, by decide +kernel, by decide +kernel, by decide +kernel⟩
   simp only at hI hA hLI hLA hiE haE hrest
   have HS1 := Aside0.mk (fun (W : World) (h : Below w.heap.size w W) => sel_calls hc0 hI W (Kd.C_below HC0.out h))
   have HS2 := Aside0.mk (fun (W : World) (h : Below w.heap.size w W) => sel_calls hc0 hA W (Kd.C_below HC0.out h))
   have HL1 := Aside0.mk (fun (W : World) (h : Below w.heap.size w W) => lies_calls hc0 hLI W (Kd.C_below HC0.out h))
   have HL2 := Aside0.mk (fun (W : World) (h : Below w.heap.size w W) => lies_calls hc0 hLA W (Kd.C_below HC0.out h))
   clear hI hA hLI hLA
   have hrest := (hrest (by decide) (by decide)).2
   rcases hiE with rfl | rfl
   ·rcases haE with rfl | rfl
    ·skip
     obtain ⟨h1, h2, _⟩ := hrest rfl rfl
     have g1 : (iF < aF) = False := eq_false (by omega)
     have g2 : (iT > aT) = False := eq_false (by omega)
     go_wp2_with (first
      | (go_at_call 10; (with_reducible refine (HS1.out _ HW0.out).mono ?_); rintro e w4 ⟨rfl, hx⟩; have HW4 := Aside0.mk (below_alloc (below_alloc (below_step HW0.out hx) (.cells #[.int .i64 iF, .int .i64 iT, .int .i64 iK] 29)) (.cells #[.int .u8 112] 5)); have HI4 := Aside0.mk (blk_alloc (blk_alloc (blk_below HI0.out hx) (.cells #[.int .i64 iF, .int .i64 iT, .int .i64 iK] 29)) (.cells #[.int .u8 112] 5)); have BN4 := Aside0.mk (blk_alloc (blk_new w4 (.cells #[.int .i64 iF, .int .i64 iT, .int .i64 iK] 29)) (.cells #[.int .u8 112] 5)); clear hx; have kc2 := Kd.C_string (P := Tryd.prog) (c := 1) Tryd.underlying22 Tryd.underlying5 Tryd.underlying9 (show Kd.C (Kd.int .u8) ((w4.alloc (.cells #[.int .i64 iF, .int .i64 iT, .int .i64 iK] 29)).alloc (.cells #[.int .u8 112] 5)) (some ⟨w4.heap.size + 1, 0, none⟩) 1 [112] from (by have h := u8_C (xs := [112]) (fr := (0, 0)) (blk_new (w4.alloc (.cells #[.int .i64 iF, .int .i64 iT, .int .i64 iK] 29)) (.cells #[.int .u8 112] 5)) (by decide); rw [World.size_alloc] at h; exact h)))
      | (go_at_call 10; (with_reducible refine (HS2.out _ HW4.out).mono ?_); rintro e w5 ⟨rfl, hx⟩; have HW5 := Aside0.mk (below_alloc (below_step HW4.out hx) (.cells #[.int .i64 aF, .int .i64 aT, .int .i64 aK] 29)); have HI5 := Aside0.mk (blk_alloc (blk_below HI4.out hx) (.cells #[.int .i64 aF, .int .i64 aT, .int .i64 aK] 29)); have BN5 := Aside0.mk (blk_new w5 (.cells #[.int .i64 aF, .int .i64 aT, .int .i64 aK] 29)); have BM5 := Aside0.mk (blk_alloc (blk_below BN4.out hx) (.cells #[.int .i64 aF, .int .i64 aT, .int .i64 aK] 29)); clear hx; have x0 := (blk_cell BM5.out 0).trans rfl; have x1 := (blk_cell BM5.out 1).trans rfl; have x2 := (blk_cell BM5.out 2).trans rfl)
      | (go_at_call 13; (with_reducible refine (HL1.out _ HW5.out).mono ?_); rintro e w6 ⟨rfl, hx⟩; have HW6 := Aside0.mk (below_step HW5.out hx); have HI6 := Aside0.mk (blk_below HI5.out hx); have BN6 := Aside0.mk (blk_below BN5.out hx); have BM6 := Aside0.mk (blk_below BM5.out hx); clear hx; have y0 := (blk_cell BN6.out 0).trans rfl; have y1 := (blk_cell BN6.out 1).trans rfl; have y2 := (blk_cell BN6.out 2).trans rfl)
      | (go_at_call 13; (with_reducible refine (HL2.out _ HW6.out).mono ?_); rintro e w7 ⟨rfl, hx⟩; have HW7 := Aside0.mk (below_step HW6.out hx); have HI7 := Aside0.mk (blk_below HI6.out hx); have BN7 := Aside0.mk (blk_below BN6.out hx); have BM7 := Aside0.mk (blk_below BM6.out hx); clear hx; have z0 := (blk_cell BM7.out 0).trans rfl; have z1 := (blk_cell BM7.out 1).trans rfl; have v0 := (blk_cell BN7.out 0).trans rfl; have v1 := (blk_cell BN7.out 1).trans rfl))
     go_quiet (fail)
     go_wp2
     go_roundw
     case rel => exact ⟨3, by decide, (blk_drewN HI7.out nq), (pw_below_drewN HW7.out nq)⟩
     case measure =>
      have hm2 := HI7.out
      rw [HM.out, show World.iterPos _ w3.heap.size = 3 from by simp [World.iterPos, hm2]]
      decide
    ·skip
     clear hrest
     go_wp2_with (first
      | (go_at_call 10; (with_reducible refine (HS1.out _ HW0.out).mono ?_); rintro e w4 ⟨rfl, hx⟩; have HW4 := Aside0.mk (below_alloc (below_alloc (below_step HW0.out hx) (.cells #[.int .i64 iF, .int .i64 iT, .int .i64 iK] 29)) (.cells #[.int .u8 112] 5)); have HI4 := Aside0.mk (blk_alloc (blk_alloc (blk_below HI0.out hx) (.cells #[.int .i64 iF, .int .i64 iT, .int .i64 iK] 29)) (.cells #[.int .u8 112] 5)); have BN4 := Aside0.mk (blk_alloc (blk_new w4 (.cells #[.int .i64 iF, .int .i64 iT, .int .i64 iK] 29)) (.cells #[.int .u8 112] 5)); clear hx; have kc2 := Kd.C_string (P := Tryd.prog) (c := 1) Tryd.underlying22 Tryd.underlying5 Tryd.underlying9 (show Kd.C (Kd.int .u8) ((w4.alloc (.cells #[.int .i64 iF, .int .i64 iT, .int .i64 iK] 29)).alloc (.cells #[.int .u8 112] 5)) (some ⟨w4.heap.size + 1, 0, none⟩) 1 [112] from (by have h := u8_C (xs := [112]) (fr := (0, 0)) (blk_new (w4.alloc (.cells #[.int .i64 iF, .int .i64 iT, .int .i64 iK] 29)) (.cells #[.int .u8 112] 5)) (by decide); rw [World.size_alloc] at h; exact h)))
      | (go_at_call 10; (with_reducible refine (HS2.out _ HW4.out).mono ?_); rintro e w5 ⟨rfl, hx⟩; have HW5 := Aside0.mk (below_alloc (below_step HW4.out hx) (.cells #[.int .i64 aF, .int .i64 aT, .int .i64 aK] 29)); have HI5 := Aside0.mk (blk_alloc (blk_below HI4.out hx) (.cells #[.int .i64 aF, .int .i64 aT, .int .i64 aK] 29)); have BN5 := Aside0.mk (blk_new w5 (.cells #[.int .i64 aF, .int .i64 aT, .int .i64 aK] 29)); have BM5 := Aside0.mk (blk_alloc (blk_below BN4.out hx) (.cells #[.int .i64 aF, .int .i64 aT, .int .i64 aK] 29)); clear hx; have x0 := (blk_cell BM5.out 0).trans rfl; have x1 := (blk_cell BM5.out 1).trans rfl; have x2 := (blk_cell BM5.out 2).trans rfl)
      | (go_at_call 13; (with_reducible refine (HL1.out _ HW5.out).mono ?_); rintro e w6 ⟨rfl, hx⟩; have HW6 := Aside0.mk (below_step HW5.out hx); have HI6 := Aside0.mk (blk_below HI5.out hx); have BN6 := Aside0.mk (blk_below BN5.out hx); have BM6 := Aside0.mk (blk_below BM5.out hx); clear hx; have y0 := (blk_cell BN6.out 0).trans rfl; have y1 := (blk_cell BN6.out 1).trans rfl; have y2 := (blk_cell BN6.out 2).trans rfl)
      | (go_at_call 13; (with_reducible refine (HL2.out _ HW6.out).mono ?_); rintro e w7 ⟨rfl, hx⟩; have HW7 := Aside0.mk (below_step HW6.out hx); have HI7 := Aside0.mk (blk_below HI6.out hx); have BN7 := Aside0.mk (blk_below BN6.out hx); have BM7 := Aside0.mk (blk_below BM6.out hx); clear hx))
     go_roundw
     case rel => exact ⟨3, by decide, HI7.out, HW7.out⟩
     case measure =>
      have hm2 := HI7.out
      rw [HM.out, show World.iterPos _ w3.heap.size = 3 from by simp [World.iterPos, hm2]]
      decide
   ·rcases haE with rfl | rfl
    ·skip
     clear hrest
     go_wp2_with (first
      | (go_at_call 10; (with_reducible refine (HS1.out _ HW0.out).mono ?_); rintro e w4 ⟨rfl, hx⟩; have HW4 := Aside0.mk (below_alloc (below_alloc (below_step HW0.out hx) (.cells #[.int .i64 iF, .int .i64 iT, .int .i64 iK] 29)) (.cells #[.int .u8 112] 5)); have HI4 := Aside0.mk (blk_alloc (blk_alloc (blk_below HI0.out hx) (.cells #[.int .i64 iF, .int .i64 iT, .int .i64 iK] 29)) (.cells #[.int .u8 112] 5)); have BN4 := Aside0.mk (blk_alloc (blk_new w4 (.cells #[.int .i64 iF, .int .i64 iT, .int .i64 iK] 29)) (.cells #[.int .u8 112] 5)); clear hx; have kc2 := Kd.C_string (P := Tryd.prog) (c := 1) Tryd.underlying22 Tryd.underlying5 Tryd.underlying9 (show Kd.C (Kd.int .u8) ((w4.alloc (.cells #[.int .i64 iF, .int .i64 iT, .int .i64 iK] 29)).alloc (.cells #[.int .u8 112] 5)) (some ⟨w4.heap.size + 1, 0, none⟩) 1 [112] from (by have h := u8_C (xs := [112]) (fr := (0, 0)) (blk_new (w4.alloc (.cells #[.int .i64 iF, .int .i64 iT, .int .i64 iK] 29)) (.cells #[.int .u8 112] 5)) (by decide); rw [World.size_alloc] at h; exact h)))
      | (go_at_call 10; (with_reducible refine (HS2.out _ HW4.out).mono ?_); rintro e w5 ⟨rfl, hx⟩; have HW5 := Aside0.mk (below_alloc (below_step HW4.out hx) (.cells #[.int .i64 aF, .int .i64 aT, .int .i64 aK] 29)); have HI5 := Aside0.mk (blk_alloc (blk_below HI4.out hx) (.cells #[.int .i64 aF, .int .i64 aT, .int .i64 aK] 29)); have BN5 := Aside0.mk (blk_new w5 (.cells #[.int .i64 aF, .int .i64 aT, .int .i64 aK] 29)); have BM5 := Aside0.mk (blk_alloc (blk_below BN4.out hx) (.cells #[.int .i64 aF, .int .i64 aT, .int .i64 aK] 29)); clear hx; have x0 := (blk_cell BM5.out 0).trans rfl; have x1 := (blk_cell BM5.out 1).trans rfl; have x2 := (blk_cell BM5.out 2).trans rfl)
      | (go_at_call 13; (with_reducible refine (HL1.out _ HW5.out).mono ?_); rintro e w6 ⟨rfl, hx⟩; have HW6 := Aside0.mk (below_step HW5.out hx); have HI6 := Aside0.mk (blk_below HI5.out hx); have BN6 := Aside0.mk (blk_below BN5.out hx); have BM6 := Aside0.mk (blk_below BM5.out hx); clear hx; have y0 := (blk_cell BN6.out 0).trans rfl; have y1 := (blk_cell BN6.out 1).trans rfl; have y2 := (blk_cell BN6.out 2).trans rfl)
      | (go_at_call 13; (with_reducible refine (HL2.out _ HW6.out).mono ?_); rintro e w7 ⟨rfl, hx⟩; have HW7 := Aside0.mk (below_step HW6.out hx); have HI7 := Aside0.mk (blk_below HI6.out hx); have BN7 := Aside0.mk (blk_below BN6.out hx); have BM7 := Aside0.mk (blk_below BM6.out hx); clear hx))
     go_roundw
     case rel => exact ⟨3, by decide, HI7.out, HW7.out⟩
     case measure =>
      have hm2 := HI7.out
      rw [HM.out, show World.iterPos _ w3.heap.size = 3 from by simp [World.iterPos, hm2]]
      decide
    ·skip
     clear hrest
     go_wp2_with (first
      | (go_at_call 10; (with_reducible refine (HS1.out _ HW0.out).mono ?_); rintro e w4 ⟨rfl, hx⟩; have HW4 := Aside0.mk (below_alloc (below_alloc (below_step HW0.out hx) (.cells #[.int .i64 iF, .int .i64 iT, .int .i64 iK] 29)) (.cells #[.int .u8 112] 5)); have HI4 := Aside0.mk (blk_alloc (blk_alloc (blk_below HI0.out hx) (.cells #[.int .i64 iF, .int .i64 iT, .int .i64 iK] 29)) (.cells #[.int .u8 112] 5)); have BN4 := Aside0.mk (blk_alloc (blk_new w4 (.cells #[.int .i64 iF, .int .i64 iT, .int .i64 iK] 29)) (.cells #[.int .u8 112] 5)); clear hx; have kc2 := Kd.C_string (P := Tryd.prog) (c := 1) Tryd.underlying22 Tryd.underlying5 Tryd.underlying9 (show Kd.C (Kd.int .u8) ((w4.alloc (.cells #[.int .i64 iF, .int .i64 iT, .int .i64 iK] 29)).alloc (.cells #[.int .u8 112] 5)) (some ⟨w4.heap.size + 1, 0, none⟩) 1 [112] from (by have h := u8_C (xs := [112]) (fr := (0, 0)) (blk_new (w4.alloc (.cells #[.int .i64 iF, .int .i64 iT, .int .i64 iK] 29)) (.cells #[.int .u8 112] 5)) (by decide); rw [World.size_alloc] at h; exact h)))
      | (go_at_call 10; (with_reducible refine (HS2.out _ HW4.out).mono ?_); rintro e w5 ⟨rfl, hx⟩; have HW5 := Aside0.mk (below_alloc (below_step HW4.out hx) (.cells #[.int .i64 aF, .int .i64 aT, .int .i64 aK] 29)); have HI5 := Aside0.mk (blk_alloc (blk_below HI4.out hx) (.cells #[.int .i64 aF, .int .i64 aT, .int .i64 aK] 29)); have BN5 := Aside0.mk (blk_new w5 (.cells #[.int .i64 aF, .int .i64 aT, .int .i64 aK] 29)); have BM5 := Aside0.mk (blk_alloc (blk_below BN4.out hx) (.cells #[.int .i64 aF, .int .i64 aT, .int .i64 aK] 29)); clear hx; have x0 := (blk_cell BM5.out 0).trans rfl; have x1 := (blk_cell BM5.out 1).trans rfl; have x2 := (blk_cell BM5.out 2).trans rfl)
      | (go_at_call 13; (with_reducible refine (HL1.out _ HW5.out).mono ?_); rintro e w6 ⟨rfl, hx⟩; have HW6 := Aside0.mk (below_step HW5.out hx); have HI6 := Aside0.mk (blk_below HI5.out hx); have BN6 := Aside0.mk (blk_below BN5.out hx); have BM6 := Aside0.mk (blk_below BM5.out hx); clear hx; have y0 := (blk_cell BN6.out 0).trans rfl; have y1 := (blk_cell BN6.out 1).trans rfl; have y2 := (blk_cell BN6.out 2).trans rfl)
      | (go_at_call 13; (with_reducible refine (HL2.out _ HW6.out).mono ?_); rintro e w7 ⟨rfl, hx⟩; have HW7 := Aside0.mk (below_step HW6.out hx); have HI7 := Aside0.mk (blk_below HI6.out hx); have BN7 := Aside0.mk (blk_below BN6.out hx); have BM7 := Aside0.mk (blk_below BM6.out hx); clear hx))
     go_roundw
     case rel => exact ⟨3, by decide, HI7.out, HW7.out⟩
     case measure =>
      have hm2 := HI7.out
      rw [HM.out, show World.iterPos _ w3.heap.size = 3 from by simp [World.iterPos, hm2]]
      decide
  ·as_aux_lemma =>
   have hnext : ∀ ty, (Instr.next (.pointer (some ⟨w3.heap.size, 0, none⟩)) true ty).run Tryd.prog wr = .ok (.tuple #[.bool true, .int .i64 3, .int .i32 34]) (wr.iterAt w3.heap.size ({ data := #[119, 87, 112, 34, 39, 96, 40, 41, 98, 91, 93, 123, 125, 66] } : ByteArray) 4) := fun ty => Lib.run_next_ascii_at wr w3.heap.size ({ data := #[119, 87, 112, 34, 39, 96, 40, 41, 98, 91, 93, 123, 125, 66] } : ByteArray) 3 ty hk (by decide) (by decide)
   have hk1 := Lib.iterAt_heap wr w3.heap.size ({ data := #[119, 87, 112, 34, 39, 96, 40, 41, 98, 91, 93, 123, 125, 66] } : ByteArray) 3 4 hk
   have hn1 : Below w.heap.size w (wr.iterAt w3.heap.size ({ data := #[119, 87, 112, 34, 39, 96, 40, 41, 98, 91, 93, 123, 125, 66] } : ByteArray) 4) := Lib.below_iterAt hnx hw3 ({ data := #[119, 87, 112, 34, 39, 96, 40, 41, 98, 91, 93, 123, 125, 66] } : ByteArray) 4
   have hmu : wr.iterPos w3.heap.size = 3 := by simp [World.iterPos, hk]
   generalize wr.iterAt w3.heap.size ({ data := #[119, 87, 112, 34, 39, 96, 40, 41, 98, 91, 93, 123, 125, 66] } : ByteArray) 4 = W1 at hnext hk1 hn1
   have HM := Aside0.mk hmu
   clear hmu hk hnx
   have HW0 := Aside0.mk (below_alloc hn1 (.cells #[.int .u8 34] 5))
   have HI0 := Aside0.mk (blk_alloc hk1 (.cells #[.int .u8 34] 5))
   have kc1 := Kd.C_string (P := Tryd.prog) (c := 1) Tryd.underlying22 Tryd.underlying5 Tryd.underlying9 (show Kd.C (Kd.int .u8) (W1.alloc (.cells #[.int .u8 34] 5)) (some ⟨W1.heap.size, 0, none⟩) 1 [34] from u8_C (xs := [34]) (fr := (0, 0)) (blk_new W1 (.cells #[.int .u8 34] 5)) (by decide))
   clear hk1 hn1
   obtain ⟨⟨iF, iT, iK, iE⟩, ⟨aF, aT, aK, aE⟩, hI, hA, hLI, hLA, hiE, haE, hrest⟩ := held_q hu hl0 hpl (c := c) (by omega) (ki := ({ data := #[105] } ++ strOfNums [34] : ByteArray)) (ka := ({ data := #[97] } ++ strOfNums [34] : ByteArray)) (x := 34) ⟨by decide +kernel, by decide +kernel, by decide +kernel, by decide +kernel, by decide +kernel, by decide +kernel⟩ (by decide) (Ev.of (quoinlaw13_about.mono _ _ _) (k := 9) (by decide +kernel))
   simp only at hI hA hLI hLA hiE haE hrest
   have HS1 := Aside0.mk (fun (W : World) (h : Below w.heap.size w W) => sel_calls hc0 hI W (Kd.C_below HC0.out h))
   have HS2 := Aside0.mk (fun (W : World) (h : Below w.heap.size w W) => sel_calls hc0 hA W (Kd.C_below HC0.out h))
   have HL1 := Aside0.mk (fun (W : World) (h : Below w.heap.size w W) => lies_calls hc0 hLI W (Kd.C_below HC0.out h))
   have HL2 := Aside0.mk (fun (W : World) (h : Below w.heap.size w W) => lies_calls hc0 hLA W (Kd.C_below HC0.out h))
   clear hI hA hLI hLA
   have hee := (hrest (by decide) (by decide)).1 (by decide)
   have hrest := (hrest (by decide) (by decide)).2
   subst hee
   rcases hiE with rfl | rfl
   ·as_aux_lemma =>
    obtain ⟨h1, h2, h3⟩ := hrest rfl rfl
    obtain ⟨u, v, rfl, rfl, hul, hvl, hab⟩ := h3 (by decide)
    clear hrest h3
    obtain ⟨ad, rfl, hcu⟩ := byte_at HC0.out hul
    obtain ⟨ad_, ea, hcv⟩ := byte_at HC0.out hvl
    obtain rfl := Option.some.inj ea
    generalize rd l0 (u : Int) = bu at hab hcu
    generalize rd l0 (v : Int) = bv at hab hcv
    have HCU := Aside0.mk (And.intro hcu hcv)
    clear hcu hcv
    have HAB := Aside0.mk (fun W => about_calls hab W)
    clear hab
    have g1 : ((u : Int) + 1 < aF) = False := eq_false (by omega)
    have g2 : ((v : Int) > aT) = False := eq_false (by omega)
    have g3 : ((u : Int) + 1 < 1) = False := eq_false (by omega)
    have g4 : ((v : Int) ≥ (l0.length : Int)) = False := eq_false (by omega)
    have g5 : (0 ≤ (u : Int)) = True := eq_true (by omega)
    have g6 : ((u : Int) < (l0.length : Int)) = True := eq_true (by omega)
    have g7 : (0 ≤ (v : Int)) = True := eq_true (by omega)
    have g8 : ((v : Int) < (l0.length : Int)) = True := eq_true (by omega)
    go_wp2_with (first
     | (go_at_call 10; (with_reducible refine (HS1.out _ HW0.out).mono ?_); rintro e w4 ⟨rfl, hx⟩; have HW4 := Aside0.mk (below_alloc (below_alloc (below_step HW0.out hx) (.cells #[.int .i64 ((u : Int) + 1), .int .i64 (v : Int), .int .i64 iK] 29)) (.cells #[.int .u8 34] 5)); have HI4 := Aside0.mk (blk_alloc (blk_alloc (blk_below HI0.out hx) (.cells #[.int .i64 ((u : Int) + 1), .int .i64 (v : Int), .int .i64 iK] 29)) (.cells #[.int .u8 34] 5)); have BN4 := Aside0.mk (blk_alloc (blk_new w4 (.cells #[.int .i64 ((u : Int) + 1), .int .i64 (v : Int), .int .i64 iK] 29)) (.cells #[.int .u8 34] 5)); clear hx; have kc2 := Kd.C_string (P := Tryd.prog) (c := 1) Tryd.underlying22 Tryd.underlying5 Tryd.underlying9 (show Kd.C (Kd.int .u8) ((w4.alloc (.cells #[.int .i64 ((u : Int) + 1), .int .i64 (v : Int), .int .i64 iK] 29)).alloc (.cells #[.int .u8 34] 5)) (some ⟨w4.heap.size + 1, 0, none⟩) 1 [34] from (by have h := u8_C (xs := [34]) (fr := (0, 0)) (blk_new (w4.alloc (.cells #[.int .i64 ((u : Int) + 1), .int .i64 (v : Int), .int .i64 iK] 29)) (.cells #[.int .u8 34] 5)) (by decide); rw [World.size_alloc] at h; exact h)))
     | (go_at_call 10; (with_reducible refine (HS2.out _ HW4.out).mono ?_); rintro e w5 ⟨rfl, hx⟩; have HW5 := Aside0.mk (below_alloc (below_step HW4.out hx) (.cells #[.int .i64 aF, .int .i64 aT, .int .i64 aK] 29)); have HI5 := Aside0.mk (blk_alloc (blk_below HI4.out hx) (.cells #[.int .i64 aF, .int .i64 aT, .int .i64 aK] 29)); have BN5 := Aside0.mk (blk_new w5 (.cells #[.int .i64 aF, .int .i64 aT, .int .i64 aK] 29)); have BM5 := Aside0.mk (blk_alloc (blk_below BN4.out hx) (.cells #[.int .i64 aF, .int .i64 aT, .int .i64 aK] 29)); clear hx; have x0 := (blk_cell BM5.out 0).trans rfl; have x1 := (blk_cell BM5.out 1).trans rfl; have x2 := (blk_cell BM5.out 2).trans rfl)
     | (go_at_call 13; (with_reducible refine (HL1.out _ HW5.out).mono ?_); rintro e w6 ⟨rfl, hx⟩; have HW6 := Aside0.mk (below_step HW5.out hx); have HI6 := Aside0.mk (blk_below HI5.out hx); have BN6 := Aside0.mk (blk_below BN5.out hx); have BM6 := Aside0.mk (blk_below BM5.out hx); clear hx; have y0 := (blk_cell BN6.out 0).trans rfl; have y1 := (blk_cell BN6.out 1).trans rfl; have y2 := (blk_cell BN6.out 2).trans rfl)
     | (go_at_call 13; (with_reducible refine (HL2.out _ HW6.out).mono ?_); rintro e w7 ⟨rfl, hx⟩; have HW7 := Aside0.mk (below_step HW6.out hx); have HI7 := Aside0.mk (blk_below HI6.out hx); have BN7 := Aside0.mk (blk_below BN6.out hx); have BM7 := Aside0.mk (blk_below BM6.out hx); clear hx; have z0 := (blk_cell BM7.out 0).trans rfl; have z1 := (blk_cell BM7.out 1).trans rfl; have v0 := (blk_cell BN7.out 0).trans rfl; have v1 := (blk_cell BN7.out 1).trans rfl; have hcu := pw_cell_below HW7.out HCU.out.1; have hcv := pw_cell_below HW7.out HCU.out.2))
    go_quiet ((go_at_call 14; (with_reducible refine (HAB.out _).mono ?_); rintro e w' ⟨rfl, ⟨⟨nd, rfl⟩⟩⟩; first | exact ⟨rfl, _, World.drewN_drewN _ _ _⟩ | exact ⟨rfl, _, rfl⟩))
    go_wp2
    go_roundw
    case rel => exact ⟨4, by decide, (blk_drewN HI7.out nq), (pw_below_drewN HW7.out nq)⟩
    case measure =>
     have hm2 := HI7.out
     rw [HM.out, show World.iterPos _ w3.heap.size = 4 from by simp [World.iterPos, hm2]]
     decide
   ·as_aux_lemma =>
    clear hrest
    go_wp2_with (first
     | (go_at_call 10; (with_reducible refine (HS1.out _ HW0.out).mono ?_); rintro e w4 ⟨rfl, hx⟩; have HW4 := Aside0.mk (below_alloc (below_alloc (below_step HW0.out hx) (.cells #[.int .i64 iF, .int .i64 iT, .int .i64 iK] 29)) (.cells #[.int .u8 34] 5)); have HI4 := Aside0.mk (blk_alloc (blk_alloc (blk_below HI0.out hx) (.cells #[.int .i64 iF, .int .i64 iT, .int .i64 iK] 29)) (.cells #[.int .u8 34] 5)); have BN4 := Aside0.mk (blk_alloc (blk_new w4 (.cells #[.int .i64 iF, .int .i64 iT, .int .i64 iK] 29)) (.cells #[.int .u8 34] 5)); clear hx; have kc2 := Kd.C_string (P := Tryd.prog) (c := 1) Tryd.underlying22 Tryd.underlying5 Tryd.underlying9 (show Kd.C (Kd.int .u8) ((w4.alloc (.cells #[.int .i64 iF, .int .i64 iT, .int .i64 iK] 29)).alloc (.cells #[.int .u8 34] 5)) (some ⟨w4.heap.size + 1, 0, none⟩) 1 [34] from (by have h := u8_C (xs := [34]) (fr := (0, 0)) (blk_new (w4.alloc (.cells #[.int .i64 iF, .int .i64 iT, .int .i64 iK] 29)) (.cells #[.int .u8 34] 5)) (by decide); rw [World.size_alloc] at h; exact h)))
     | (go_at_call 10; (with_reducible refine (HS2.out _ HW4.out).mono ?_); rintro e w5 ⟨rfl, hx⟩; have HW5 := Aside0.mk (below_alloc (below_step HW4.out hx) (.cells #[.int .i64 aF, .int .i64 aT, .int .i64 aK] 29)); have HI5 := Aside0.mk (blk_alloc (blk_below HI4.out hx) (.cells #[.int .i64 aF, .int .i64 aT, .int .i64 aK] 29)); have BN5 := Aside0.mk (blk_new w5 (.cells #[.int .i64 aF, .int .i64 aT, .int .i64 aK] 29)); have BM5 := Aside0.mk (blk_alloc (blk_below BN4.out hx) (.cells #[.int .i64 aF, .int .i64 aT, .int .i64 aK] 29)); clear hx; have x0 := (blk_cell BM5.out 0).trans rfl; have x1 := (blk_cell BM5.out 1).trans rfl; have x2 := (blk_cell BM5.out 2).trans rfl)
     | (go_at_call 13; (with_reducible refine (HL1.out _ HW5.out).mono ?_); rintro e w6 ⟨rfl, hx⟩; have HW6 := Aside0.mk (below_step HW5.out hx); have HI6 := Aside0.mk (blk_below HI5.out hx); have BN6 := Aside0.mk (blk_below BN5.out hx); have BM6 := Aside0.mk (blk_below BM5.out hx); clear hx; have y0 := (blk_cell BN6.out 0).trans rfl; have y1 := (blk_cell BN6.out 1).trans rfl; have y2 := (blk_cell BN6.out 2).trans rfl)
     | (go_at_call 13; (with_reducible refine (HL2.out _ HW6.out).mono ?_); rintro e w7 ⟨rfl, hx⟩; have HW7 := Aside0.mk (below_step HW6.out hx); have HI7 := Aside0.mk (blk_below HI6.out hx); have BN7 := Aside0.mk (blk_below BN6.out hx); have BM7 := Aside0.mk (blk_below BM6.out hx); clear hx))
    go_roundw
    case rel => exact ⟨4, by decide, HI7.out, HW7.out⟩
    case measure =>
     have hm2 := HI7.out
     rw [HM.out, show World.iterPos _ w3.heap.size = 4 from by simp [World.iterPos, hm2]]
     decide
  ·as_aux_lemma =>
   have hnext : ∀ ty, (Instr.next (.pointer (some ⟨w3.heap.size, 0, none⟩)) true ty).run Tryd.prog wr = .ok (.tuple #[.bool true, .int .i64 4, .int .i32 39]) (wr.iterAt w3.heap.size ({ data := #[119, 87, 112, 34, 39, 96, 40, 41, 98, 91, 93, 123, 125, 66] } : ByteArray) 5) := fun ty => Lib.run_next_ascii_at wr w3.heap.size ({ data := #[119, 87, 112, 34, 39, 96, 40, 41, 98, 91, 93, 123, 125, 66] } : ByteArray) 4 ty hk (by decide) (by decide)
   have hk1 := Lib.iterAt_heap wr w3.heap.size ({ data := #[119, 87, 112, 34, 39, 96, 40, 41, 98, 91, 93, 123, 125, 66] } : ByteArray) 4 5 hk
   have hn1 : Below w.heap.size w (wr.iterAt w3.heap.size ({ data := #[119, 87, 112, 34, 39, 96, 40, 41, 98, 91, 93, 123, 125, 66] } : ByteArray) 5) := Lib.below_iterAt hnx hw3 ({ data := #[119, 87, 112, 34, 39, 96, 40, 41, 98, 91, 93, 123, 125, 66] } : ByteArray) 5
   have hmu : wr.iterPos w3.heap.size = 4 := by simp [World.iterPos, hk]
   generalize wr.iterAt w3.heap.size ({ data := #[119, 87, 112, 34, 39, 96, 40, 41, 98, 91, 93, 123, 125, 66] } : ByteArray) 5 = W1 at hnext hk1 hn1
   have HM := Aside0.mk hmu
   clear hmu hk hnx
   have HW0 := Aside0.mk (below_alloc hn1 (.cells #[.int .u8 39] 5))
   have HI0 := Aside0.mk (blk_alloc hk1 (.cells #[.int .u8 39] 5))
   have kc1 := Kd.C_string (P := Tryd.prog) (c := 1) Tryd.underlying22 Tryd.underlying5 Tryd.underlying9 (show Kd.C (Kd.int .u8) (W1.alloc (.cells #[.int .u8 39] 5)) (some ⟨W1.heap.size, 0, none⟩) 1 [39] from u8_C (xs := [39]) (fr := (0, 0)) (blk_new W1 (.cells #[.int .u8 39] 5)) (by decide))
   clear hk1 hn1
   obtain ⟨⟨iF, iT, iK, iE⟩, ⟨aF, aT, aK, aE⟩, hI, hA, hLI, hLA, hiE, haE, hrest⟩ := held_q hu hl0 hpl (c := c) (by omega) (ki := ({ data := #[105] } ++ strOfNums [39] : ByteArray)) (ka := ({ data := #[97] } ++ strOfNums [39] : ByteArray)) (x := 39) ⟨by decide +kernel, by decide +kernel, by decide +kernel, by decide +kernel, by decide +kernel, by decide +kernel⟩ (by decide) (Ev.of (quoinlaw13_about.mono _ _ _) (k := 9) (by decide +kernel))
   simp only at hI hA hLI hLA hiE haE hrest
   have HS1 := Aside0.mk (fun (W : World) (h : Below w.heap.size w W) => sel_calls hc0 hI W (Kd.C_below HC0.out h))
   have HS2 := Aside0.mk (fun (W : World) (h : Below w.heap.size w W) => sel_calls hc0 hA W (Kd.C_below HC0.out h))
   have HL1 := Aside0.mk (fun (W : World) (h : Below w.heap.size w W) => lies_calls hc0 hLI W (Kd.C_below HC0.out h))
   have HL2 := Aside0.mk (fun (W : World) (h : Below w.heap.size w W) => lies_calls hc0 hLA W (Kd.C_below HC0.out h))
   clear hI hA hLI hLA
   have hee := (hrest (by decide) (by decide)).1 (by decide)
   have hrest := (hrest (by decide) (by decide)).2
   subst hee
   rcases hiE with rfl | rfl
   ·as_aux_lemma =>
    obtain ⟨h1, h2, h3⟩ := hrest rfl rfl
    obtain ⟨u, v, rfl, rfl, hul, hvl, hab⟩ := h3 (by decide)
    clear hrest h3
    obtain ⟨ad, rfl, hcu⟩ := byte_at HC0.out hul
    obtain ⟨ad_, ea, hcv⟩ := byte_at HC0.out hvl
    obtain rfl := Option.some.inj ea
    generalize rd l0 (u : Int) = bu at hab hcu
    generalize rd l0 (v : Int) = bv at hab hcv
    have HCU := Aside0.mk (And.intro hcu hcv)
    clear hcu hcv
    have HAB := Aside0.mk (fun W => about_calls hab W)
    clear hab
    have g1 : ((u : Int) + 1 < aF) = False := eq_false (by omega)
    have g2 : ((v : Int) > aT) = False := eq_false (by omega)
    have g3 : ((u : Int) + 1 < 1) = False := eq_false (by omega)
    have g4 : ((v : Int) ≥ (l0.length : Int)) = False := eq_false (by omega)
    have g5 : (0 ≤ (u : Int)) = True := eq_true (by omega)
    have g6 : ((u : Int) < (l0.length : Int)) = True := eq_true (by omega)
    have g7 : (0 ≤ (v : Int)) = True := eq_true (by omega)
    have g8 : ((v : Int) < (l0.length : Int)) = True := eq_true (by omega)
    go_wp2_with (first
     | (go_at_call 10; (with_reducible refine (HS1.out _ HW0.out).mono ?_); rintro e w4 ⟨rfl, hx⟩; have HW4 := Aside0.mk (below_alloc (below_alloc (below_step HW0.out hx) (.cells #[.int .i64 ((u : Int) + 1), .int .i64 (v : Int), .int .i64 iK] 29)) (.cells #[.int .u8 39] 5)); have HI4 := Aside0.mk (blk_alloc (blk_alloc (blk_below HI0.out hx) (.cells #[.int .i64 ((u : Int) + 1), .int .i64 (v : Int), .int .i64 iK] 29)) (.cells #[.int .u8 39] 5)); have BN4 := Aside0.mk (blk_alloc (blk_new w4 (.cells #[.int .i64 ((u : Int) + 1), .int .i64 (v : Int), .int .i64 iK] 29)) (.cells #[.int .u8 39] 5)); clear hx; have kc2 := Kd.C_string (P := Tryd.prog) (c := 1) Tryd.underlying22 Tryd.underlying5 Tryd.underlying9 (show Kd.C (Kd.int .u8) ((w4.alloc (.cells #[.int .i64 ((u : Int) + 1), .int .i64 (v : Int), .int .i64 iK] 29)).alloc (.cells #[.int .u8 39] 5)) (some ⟨w4.heap.size + 1, 0, none⟩) 1 [39] from (by have h := u8_C (xs := [39]) (fr := (0, 0)) (blk_new (w4.alloc (.cells #[.int .i64 ((u : Int) + 1), .int .i64 (v : Int), .int .i64 iK] 29)) (.cells #[.int .u8 39] 5)) (by decide); rw [World.size_alloc] at h; exact h)))
     | (go_at_call 10; (with_reducible refine (HS2.out _ HW4.out).mono ?_); rintro e w5 ⟨rfl, hx⟩; have HW5 := Aside0.mk (below_alloc (below_step HW4.out hx) (.cells #[.int .i64 aF, .int .i64 aT, .int .i64 aK] 29)); have HI5 := Aside0.mk (blk_alloc (blk_below HI4.out hx) (.cells #[.int .i64 aF, .int .i64 aT, .int .i64 aK] 29)); have BN5 := Aside0.mk (blk_new w5 (.cells #[.int .i64 aF, .int .i64 aT, .int .i64 aK] 29)); have BM5 := Aside0.mk (blk_alloc (blk_below BN4.out hx) (.cells #[.int .i64 aF, .int .i64 aT, .int .i64 aK] 29)); clear hx; have x0 := (blk_cell BM5.out 0).trans rfl; have x1 := (blk_cell BM5.out 1).trans rfl; have x2 := (blk_cell BM5.out 2).trans rfl)
     | (go_at_call 13; (with_reducible refine (HL1.out _ HW5.out).mono ?_); rintro e w6 ⟨rfl, hx⟩; have HW6 := Aside0.mk (below_step HW5.out hx); have HI6 := Aside0.mk (blk_below HI5.out hx); have BN6 := Aside0.mk (blk_below BN5.out hx); have BM6 := Aside0.mk (blk_below BM5.out hx); clear hx; have y0 := (blk_cell BN6.out 0).trans rfl; have y1 := (blk_cell BN6.out 1).trans rfl; have y2 := (blk_cell BN6.out 2).trans rfl)
     | (go_at_call 13; (with_reducible refine (HL2.out _ HW6.out).mono ?_); rintro e w7 ⟨rfl, hx⟩; have HW7 := Aside0.mk (below_step HW6.out hx); have HI7 := Aside0.mk (blk_below HI6.out hx); have BN7 := Aside0.mk (blk_below BN6.out hx); have BM7 := Aside0.mk (blk_below BM6.out hx); clear hx; have z0 := (blk_cell BM7.out 0).trans rfl; have z1 := (blk_cell BM7.out 1).trans rfl; have v0 := (blk_cell BN7.out 0).trans rfl; have v1 := (blk_cell BN7.out 1).trans rfl; have hcu := pw_cell_below HW7.out HCU.out.1; have hcv := pw_cell_below HW7.out HCU.out.2))
    go_quiet ((go_at_call 14; (with_reducible refine (HAB.out _).mono ?_); rintro e w' ⟨rfl, ⟨⟨nd, rfl⟩⟩⟩; first | exact ⟨rfl, _, World.drewN_drewN _ _ _⟩ | exact ⟨rfl, _, rfl⟩))
    go_wp2
    go_roundw
    case rel => exact ⟨5, by decide, (blk_drewN HI7.out nq), (pw_below_drewN HW7.out nq)⟩
    case measure =>
     have hm2 := HI7.out
     rw [HM.out, show World.iterPos _ w3.heap.size = 5 from by simp [World.iterPos, hm2]]
     decide
   ·as_aux_lemma =>
    clear hrest
    go_wp2_with (first
     | (go_at_call 10; (with_reducible refine (HS1.out _ HW0.out).mono ?_); rintro e w4 ⟨rfl, hx⟩; have HW4 := Aside0.mk (below_alloc (below_alloc (below_step HW0.out hx) (.cells #[.int .i64 iF, .int .i64 iT, .int .i64 iK] 29)) (.cells #[.int .u8 39] 5)); have HI4 := Aside0.mk (blk_alloc (blk_alloc (blk_below HI0.out hx) (.cells #[.int .i64 iF, .int .i64 iT, .int .i64 iK] 29)) (.cells #[.int .u8 39] 5)); have BN4 := Aside0.mk (blk_alloc (blk_new w4 (.cells #[.int .i64 iF, .int .i64 iT, .int .i64 iK] 29)) (.cells #[.int .u8 39] 5)); clear hx; have kc2 := Kd.C_string (P := Tryd.prog) (c := 1) Tryd.underlying22 Tryd.underlying5 Tryd.underlying9 (show Kd.C (Kd.int .u8) ((w4.alloc (.cells #[.int .i64 iF, .int .i64 iT, .int .i64 iK] 29)).alloc (.cells #[.int .u8 39] 5)) (some ⟨w4.heap.size + 1, 0, none⟩) 1 [39] from (by have h := u8_C (xs := [39]) (fr := (0, 0)) (blk_new (w4.alloc (.cells #[.int .i64 iF, .int .i64 iT, .int .i64 iK] 29)) (.cells #[.int .u8 39] 5)) (by decide); rw [World.size_alloc] at h; exact h)))
     | (go_at_call 10; (with_reducible refine (HS2.out _ HW4.out).mono ?_); rintro e w5 ⟨rfl, hx⟩; have HW5 := Aside0.mk (below_alloc (below_step HW4.out hx) (.cells #[.int .i64 aF, .int .i64 aT, .int .i64 aK] 29)); have HI5 := Aside0.mk (blk_alloc (blk_below HI4.out hx) (.cells #[.int .i64 aF, .int .i64 aT, .int .i64 aK] 29)); have BN5 := Aside0.mk (blk_new w5 (.cells #[.int .i64 aF, .int .i64 aT, .int .i64 aK] 29)); have BM5 := Aside0.mk (blk_alloc (blk_below BN4.out hx) (.cells #[.int .i64 aF, .int .i64 aT, .int .i64 aK] 29)); clear hx; have x0 := (blk_cell BM5.out 0).trans rfl; have x1 := (blk_cell BM5.out 1).trans rfl; have x2 := (blk_cell BM5.out 2).trans rfl)
     | (go_at_call 13; (with_reducible refine (HL1.out _ HW5.out).mono ?_); rintro e w6 ⟨rfl, hx⟩; have HW6 := Aside0.mk (below_step HW5.out hx); have HI6 := Aside0.mk (blk_below HI5.out hx); have BN6 := Aside0.mk (blk_below BN5.out hx); have BM6 := Aside0.mk (blk_below BM5.out hx); clear hx; have y0 := (blk_cell BN6.out 0).trans rfl; have y1 := (blk_cell BN6.out 1).trans rfl; have y2 := (blk_cell BN6.out 2).trans rfl)
     | (go_at_call 13; (with_reducible refine (HL2.out _ HW6.out).mono ?_); rintro e w7 ⟨rfl, hx⟩; have HW7 := Aside0.mk (below_step HW6.out hx); have HI7 := Aside0.mk (blk_below HI6.out hx); have BN7 := Aside0.mk (blk_below BN6.out hx); have BM7 := Aside0.mk (blk_below BM6.out hx); clear hx))
    go_roundw
    case rel => exact ⟨5, by decide, HI7.out, HW7.out⟩
    case measure =>
     have hm2 := HI7.out
     rw [HM.out, show World.iterPos _ w3.heap.size = 5 from by simp [World.iterPos, hm2]]
     decide
  ·as_aux_lemma =>
   have hnext : ∀ ty, (Instr.next (.pointer (some ⟨w3.heap.size, 0, none⟩)) true ty).run Tryd.prog wr = .ok (.tuple #[.bool true, .int .i64 5, .int .i32 96]) (wr.iterAt w3.heap.size ({ data := #[119, 87, 112, 34, 39, 96, 40, 41, 98, 91, 93, 123, 125, 66] } : ByteArray) 6) := fun ty => Lib.run_next_ascii_at wr w3.heap.size ({ data := #[119, 87, 112, 34, 39, 96, 40, 41, 98, 91, 93, 123, 125, 66] } : ByteArray) 5 ty hk (by decide) (by decide)
   have hk1 := Lib.iterAt_heap wr w3.heap.size ({ data := #[119, 87, 112, 34, 39, 96, 40, 41, 98, 91, 93, 123, 125, 66] } : ByteArray) 5 6 hk
   have hn1 : Below w.heap.size w (wr.iterAt w3.heap.size ({ data := #[119, 87, 112, 34, 39, 96, 40, 41, 98, 91, 93, 123, 125, 66] } : ByteArray) 6) := Lib.below_iterAt hnx hw3 ({ data := #[119, 87, 112, 34, 39, 96, 40, 41, 98, 91, 93, 123, 125, 66] } : ByteArray) 6
   have hmu : wr.iterPos w3.heap.size = 5 := by simp [World.iterPos, hk]
   generalize wr.iterAt w3.heap.size ({ data := #[119, 87, 112, 34, 39, 96, 40, 41, 98, 91, 93, 123, 125, 66] } : ByteArray) 6 = W1 at hnext hk1 hn1
   have HM := Aside0.mk hmu
   clear hmu hk hnx
   have HW0 := Aside0.mk (below_alloc hn1 (.cells #[.int .u8 96] 5))
   have HI0 := Aside0.mk (blk_alloc hk1 (.cells #[.int .u8 96] 5))
   have kc1 := Kd.C_string (P := Tryd.prog) (c := 1) Tryd.underlying22 Tryd.underlying5 Tryd.underlying9 (show Kd.C (Kd.int .u8) (W1.alloc (.cells #[.int .u8 96] 5)) (some ⟨W1.heap.size, 0, none⟩) 1 [96] from u8_C (xs := [96]) (fr := (0, 0)) (blk_new W1 (.cells #[.int .u8 96] 5)) (by decide))
   clear hk1 hn1
   obtain ⟨⟨iF, iT, iK, iE⟩, ⟨aF, aT, aK, aE⟩, hI, hA, hLI, hLA, hiE, haE, hrest⟩ := held_q hu hl0 hpl (c := c) (by omega) (ki := ({ data := #[105] } ++ strOfNums [96] : ByteArray)) (ka := ({ data := #[97] } ++ strOfNums [96] : ByteArray)) (x := 96) ⟨by decide +kernel, by decide +kernel, by decide +kernel, by decide +kernel, by decide +kernel, by decide +kernel⟩ (by decide) (Ev.of (quoinlaw13_about.mono _ _ _) (k := 9) (by decide +kernel))
   simp only at hI hA hLI hLA hiE haE hrest
   have HS1 := Aside0.mk (fun (W : World) (h : Below w.heap.size w W) => sel_calls hc0 hI W (Kd.C_below HC0.out h))
   have HS2 := Aside0.mk (fun (W : World) (h : Below w.heap.size w W) => sel_calls hc0 hA W (Kd.C_below HC0.out h))
   have HL1 := Aside0.mk (fun (W : World) (h : Below w.heap.size w W) => lies_calls hc0 hLI W (Kd.C_below HC0.out h))
   have HL2 := Aside0.mk (fun (W : World) (h : Below w.heap.size w W) => lies_calls hc0 hLA W (Kd.C_below HC0.out h))
   clear hI hA hLI hLA
   have hee := (hrest (by decide) (by decide)).1 (by decide)
   have hrest := (hrest (by decide) (by decide)).2
   subst hee
   rcases hiE with rfl | rfl
   ·as_aux_lemma =>
    obtain ⟨h1, h2, h3⟩ := hrest rfl rfl
    obtain ⟨u, v, rfl, rfl, hul, hvl, hab⟩ := h3 (by decide)
    clear hrest h3
    obtain ⟨ad, rfl, hcu⟩ := byte_at HC0.out hul
    obtain ⟨ad_, ea, hcv⟩ := byte_at HC0.out hvl
    obtain rfl := Option.some.inj ea
    generalize rd l0 (u : Int) = bu at hab hcu
    generalize rd l0 (v : Int) = bv at hab hcv
    have HCU := Aside0.mk (And.intro hcu hcv)
    clear hcu hcv
    have HAB := Aside0.mk (fun W => about_calls hab W)
    clear hab
    have g1 : ((u : Int) + 1 < aF) = False := eq_false (by omega)
    have g2 : ((v : Int) > aT) = False := eq_false (by omega)
    have g3 : ((u : Int) + 1 < 1) = False := eq_false (by omega)
    have g4 : ((v : Int) ≥ (l0.length : Int)) = False := eq_false (by omega)
    have g5 : (0 ≤ (u : Int)) = True := eq_true (by omega)
    have g6 : ((u : Int) < (l0.length : Int)) = True := eq_true (by omega)
    have g7 : (0 ≤ (v : Int)) = True := eq_true (by omega)
    have g8 : ((v : Int) < (l0.length : Int)) = True := eq_true (by omega)
    go_wp2_with (first
     | (go_at_call 10; (with_reducible refine (HS1.out _ HW0.out).mono ?_); rintro e w4 ⟨rfl, hx⟩; have HW4 := Aside0.mk (below_alloc (below_alloc (below_step HW0.out hx) (.cells #[.int .i64 ((u : Int) + 1), .int .i64 (v : Int), .int .i64 iK] 29)) (.cells #[.int .u8 96] 5)); have HI4 := Aside0.mk (blk_alloc (blk_alloc (blk_below HI0.out hx) (.cells #[.int .i64 ((u : Int) + 1), .int .i64 (v : Int), .int .i64 iK] 29)) (.cells #[.int .u8 96] 5)); have BN4 := Aside0.mk (blk_alloc (blk_new w4 (.cells #[.int .i64 ((u : Int) + 1), .int .i64 (v : Int), .int .i64 iK] 29)) (.cells #[.int .u8 96] 5)); clear hx; have kc2 := Kd.C_string (P := Tryd.prog) (c := 1) Tryd.underlying22 Tryd.underlying5 Tryd.underlying9 (show Kd.C (Kd.int .u8) ((w4.alloc (.cells #[.int .i64 ((u : Int) + 1), .int .i64 (v : Int), .int .i64 iK] 29)).alloc (.cells #[.int .u8 96] 5)) (some ⟨w4.heap.size + 1, 0, none⟩) 1 [96] from (by have h := u8_C (xs := [96]) (fr := (0, 0)) (blk_new (w4.alloc (.cells #[.int .i64 ((u : Int) + 1), .int .i64 (v : Int), .int .i64 iK] 29)) (.cells #[.int .u8 96] 5)) (by decide); rw [World.size_alloc] at h; exact h)))
     | (go_at_call 10; (with_reducible refine (HS2.out _ HW4.out).mono ?_); rintro e w5 ⟨rfl, hx⟩; have HW5 := Aside0.mk (below_alloc (below_step HW4.out hx) (.cells #[.int .i64 aF, .int .i64 aT, .int .i64 aK] 29)); have HI5 := Aside0.mk (blk_alloc (blk_below HI4.out hx) (.cells #[.int .i64 aF, .int .i64 aT, .int .i64 aK] 29)); have BN5 := Aside0.mk (blk_new w5 (.cells #[.int .i64 aF, .int .i64 aT, .int .i64 aK] 29)); have BM5 := Aside0.mk (blk_alloc (blk_below BN4.out hx) (.cells #[.int .i64 aF, .int .i64 aT, .int .i64 aK] 29)); clear hx; have x0 := (blk_cell BM5.out 0).trans rfl; have x1 := (blk_cell BM5.out 1).trans rfl; have x2 := (blk_cell BM5.out 2).trans rfl)
     | (go_at_call 13; (with_reducible refine (HL1.out _ HW5.out).mono ?_); rintro e w6 ⟨rfl, hx⟩; have HW6 := Aside0.mk (below_step HW5.out hx); have HI6 := Aside0.mk (blk_below HI5.out hx); have BN6 := Aside0.mk (blk_below BN5.out hx); have BM6 := Aside0.mk (blk_below BM5.out hx); clear hx; have y0 := (blk_cell BN6.out 0).trans rfl; have y1 := (blk_cell BN6.out 1).trans rfl; have y2 := (blk_cell BN6.out 2).trans rfl)
     | (go_at_call 13; (with_reducible refine (HL2.out _ HW6.out).mono ?_); rintro e w7 ⟨rfl, hx⟩; have HW7 := Aside0.mk (below_step HW6.out hx); have HI7 := Aside0.mk (blk_below HI6.out hx); have BN7 := Aside0.mk (blk_below BN6.out hx); have BM7 := Aside0.mk (blk_below BM6.out hx); clear hx; have z0 := (blk_cell BM7.out 0).trans rfl; have z1 := (blk_cell BM7.out 1).trans rfl; have v0 := (blk_cell BN7.out 0).trans rfl; have v1 := (blk_cell BN7.out 1).trans rfl; have hcu := pw_cell_below HW7.out HCU.out.1; have hcv := pw_cell_below HW7.out HCU.out.2))
    go_quiet ((go_at_call 14; (with_reducible refine (HAB.out _).mono ?_); rintro e w' ⟨rfl, ⟨⟨nd, rfl⟩⟩⟩; first | exact ⟨rfl, _, World.drewN_drewN _ _ _⟩ | exact ⟨rfl, _, rfl⟩))
    go_wp2
    go_roundw
    case rel => exact ⟨6, by decide, (blk_drewN HI7.out nq), (pw_below_drewN HW7.out nq)⟩
    case measure =>
     have hm2 := HI7.out
     rw [HM.out, show World.iterPos _ w3.heap.size = 6 from by simp [World.iterPos, hm2]]
     decide
   ·as_aux_lemma =>
    clear hrest
    go_wp2_with (first
     | (go_at_call 10; (with_reducible refine (HS1.out _ HW0.out).mono ?_); rintro e w4 ⟨rfl, hx⟩; have HW4 := Aside0.mk (below_alloc (below_alloc (below_step HW0.out hx) (.cells #[.int .i64 iF, .int .i64 iT, .int .i64 iK] 29)) (.cells #[.int .u8 96] 5)); have HI4 := Aside0.mk (blk_alloc (blk_alloc (blk_below HI0.out hx) (.cells #[.int .i64 iF, .int .i64 iT, .int .i64 iK] 29)) (.cells #[.int .u8 96] 5)); have BN4 := Aside0.mk (blk_alloc (blk_new w4 (.cells #[.int .i64 iF, .int .i64 iT, .int .i64 iK] 29)) (.cells #[.int .u8 96] 5)); clear hx; have kc2 := Kd.C_string (P := Tryd.prog) (c := 1) Tryd.underlying22 Tryd.underlying5 Tryd.underlying9 (show Kd.C (Kd.int .u8) ((w4.alloc (.cells #[.int .i64 iF, .int .i64 iT, .int .i64 iK] 29)).alloc (.cells #[.int .u8 96] 5)) (some ⟨w4.heap.size + 1, 0, none⟩) 1 [96] from (by have h := u8_C (xs := [96]) (fr := (0, 0)) (blk_new (w4.alloc (.cells #[.int .i64 iF, .int .i64 iT, .int .i64 iK] 29)) (.cells #[.int .u8 96] 5)) (by decide); rw [World.size_alloc] at h; exact h)))
     | (go_at_call 10; (with_reducible refine (HS2.out _ HW4.out).mono ?_); rintro e w5 ⟨rfl, hx⟩; have HW5 := Aside0.mk (below_alloc (below_step HW4.out hx) (.cells #[.int .i64 aF, .int .i64 aT, .int .i64 aK] 29)); have HI5 := Aside0.mk (blk_alloc (blk_below HI4.out hx) (.cells #[.int .i64 aF, .int .i64 aT, .int .i64 aK] 29)); have BN5 := Aside0.mk (blk_new w5 (.cells #[.int .i64 aF, .int .i64 aT, .int .i64 aK] 29)); have BM5 := Aside0.mk (blk_alloc (blk_below BN4.out hx) (.cells #[.int .i64 aF, .int .i64 aT, .int .i64 aK] 29)); clear hx; have x0 := (blk_cell BM5.out 0).trans rfl; have x1 := (blk_cell BM5.out 1).trans rfl; have x2 := (blk_cell BM5.out 2).trans rfl)
     | (go_at_call 13; (with_reducible refine (HL1.out _ HW5.out).mono ?_); rintro e w6 ⟨rfl, hx⟩; have HW6 := Aside0.mk (below_step HW5.out hx); have HI6 := Aside0.mk (blk_below HI5.out hx); have BN6 := Aside0.mk (blk_below BN5.out hx); have BM6 := Aside0.mk (blk_below BM5.out hx); clear hx; have y0 := (blk_cell BN6.out 0).trans rfl; have y1 := (blk_cell BN6.out 1).trans rfl; have y2 := (blk_cell BN6.out 2).trans rfl)
     | (go_at_call 13; (with_reducible refine (HL2.out _ HW6.out).mono ?_); rintro e w7 ⟨rfl, hx⟩; have HW7 := Aside0.mk (below_step HW6.out hx); have HI7 := Aside0.mk (blk_below HI6.out hx); have BN7 := Aside0.mk (blk_below BN6.out hx); have BM7 := Aside0.mk (blk_below BM6.out hx); clear hx))
    go_roundw
    case rel => exact ⟨6, by decide, HI7.out, HW7.out⟩
    case measure =>
     have hm2 := HI7.out
     rw [HM.out, show World.iterPos _ w3.heap.size = 6 from by simp [World.iterPos, hm2]]
     decide
  ·as_aux_lemma =>
   have hnext : ∀ ty, (Instr.next (.pointer (some ⟨w3.heap.size, 0, none⟩)) true ty).run Tryd.prog wr = .ok (.tuple #[.bool true, .int .i64 6, .int .i32 40]) (wr.iterAt w3.heap.size ({ data := #[119, 87, 112, 34, 39, 96, 40, 41, 98, 91, 93, 123, 125, 66] } : ByteArray) 7) := fun ty => Lib.run_next_ascii_at wr w3.heap.size ({ data := #[119, 87, 112, 34, 39, 96, 40, 41, 98, 91, 93, 123, 125, 66] } : ByteArray) 6 ty hk (by decide) (by decide)
   have hk1 := Lib.iterAt_heap wr w3.heap.size ({ data := #[119, 87, 112, 34, 39, 96, 40, 41, 98, 91, 93, 123, 125, 66] } : ByteArray) 6 7 hk
   have hn1 : Below w.heap.size w (wr.iterAt w3.heap.size ({ data := #[119, 87, 112, 34, 39, 96, 40, 41, 98, 91, 93, 123, 125, 66] } : ByteArray) 7) := Lib.below_iterAt hnx hw3 ({ data := #[119, 87, 112, 34, 39, 96, 40, 41, 98, 91, 93, 123, 125, 66] } : ByteArray) 7
   have hmu : wr.iterPos w3.heap.size = 6 := by simp [World.iterPos, hk]
   generalize wr.iterAt w3.heap.size ({ data := #[119, 87, 112, 34, 39, 96, 40, 41, 98, 91, 93, 123, 125, 66] } : ByteArray) 7 = W1 at hnext hk1 hn1
   have HM := Aside0.mk hmu
   clear hmu hk hnx
   have HW0 := Aside0.mk (below_alloc hn1 (.cells #[.int .u8 40] 5))
   have HI0 := Aside0.mk (blk_alloc hk1 (.cells #[.int .u8 40] 5))
   have kc1 := Kd.C_string (P := Tryd.prog) (c := 1) Tryd.underlying22 Tryd.underlying5 Tryd.underlying9 (show Kd.C (Kd.int .u8) (W1.alloc (.cells #[.int .u8 40] 5)) (some ⟨W1.heap.size, 0, none⟩) 1 [40] from u8_C (xs := [40]) (fr := (0, 0)) (blk_new W1 (.cells #[.int .u8 40] 5)) (by decide))
   clear hk1 hn1
   obtain ⟨⟨iF, iT, iK, iE⟩, ⟨aF, aT, aK, aE⟩, hI, hA, hLI, hLA, hiE, haE, hrest⟩ := held_b hu hl0 hpl (c := c) (by omega) (ki := ({ data := #[105] } ++ strOfNums [40] : ByteArray)) (ka := ({ data := #[97] } ++ strOfNums [40] : ByteArray)) (x := 40) ⟨by decide +kernel, by decide +kernel, by decide +kernel, by decide +kernel, by decide +kernel, by decide +kernel⟩ key_40 (Ev.of (quoinlaw13_about.mono _ _ _) (k := 9) (by decide +kernel))
   simp only at hI hA hLI hLA hiE haE hrest
   have HS1 := Aside0.mk (fun (W : World) (h : Below w.heap.size w W) => sel_calls hc0 hI W (Kd.C_below HC0.out h))
   have HS2 := Aside0.mk (fun (W : World) (h : Below w.heap.size w W) => sel_calls hc0 hA W (Kd.C_below HC0.out h))
   have HL1 := Aside0.mk (fun (W : World) (h : Below w.heap.size w W) => lies_calls hc0 hLI W (Kd.C_below HC0.out h))
   have HL2 := Aside0.mk (fun (W : World) (h : Below w.heap.size w W) => lies_calls hc0 hLA W (Kd.C_below HC0.out h))
   clear hI hA hLI hLA
   have hee := (hrest (by decide) (by decide)).1 (by decide)
   have hrest := (hrest (by decide) (by decide)).2
   subst hee
   rcases hiE with rfl | rfl
   ·as_aux_lemma =>
    obtain ⟨h1, h2, h3⟩ := hrest rfl rfl
    obtain ⟨u, v, rfl, rfl, hul, hvl, hab⟩ := h3 (by decide)
    clear hrest h3
    obtain ⟨ad, rfl, hcu⟩ := byte_at HC0.out hul
    obtain ⟨ad_, ea, hcv⟩ := byte_at HC0.out hvl
    obtain rfl := Option.some.inj ea
    generalize rd l0 (u : Int) = bu at hab hcu
    generalize rd l0 (v : Int) = bv at hab hcv
    have HCU := Aside0.mk (And.intro hcu hcv)
    clear hcu hcv
    have HAB := Aside0.mk (fun W => about_calls hab W)
    clear hab
    have g1 : ((u : Int) + 1 < aF) = False := eq_false (by omega)
    have g2 : ((v : Int) > aT) = False := eq_false (by omega)
    have g3 : ((u : Int) + 1 < 1) = False := eq_false (by omega)
    have g4 : ((v : Int) ≥ (l0.length : Int)) = False := eq_false (by omega)
    have g5 : (0 ≤ (u : Int)) = True := eq_true (by omega)
    have g6 : ((u : Int) < (l0.length : Int)) = True := eq_true (by omega)
    have g7 : (0 ≤ (v : Int)) = True := eq_true (by omega)
    have g8 : ((v : Int) < (l0.length : Int)) = True := eq_true (by omega)
    go_wp2_with (first
     | (go_at_call 10; (with_reducible refine (HS1.out _ HW0.out).mono ?_); rintro e w4 ⟨rfl, hx⟩; have HW4 := Aside0.mk (below_alloc (below_alloc (below_step HW0.out hx) (.cells #[.int .i64 ((u : Int) + 1), .int .i64 (v : Int), .int .i64 iK] 29)) (.cells #[.int .u8 40] 5)); have HI4 := Aside0.mk (blk_alloc (blk_alloc (blk_below HI0.out hx) (.cells #[.int .i64 ((u : Int) + 1), .int .i64 (v : Int), .int .i64 iK] 29)) (.cells #[.int .u8 40] 5)); have BN4 := Aside0.mk (blk_alloc (blk_new w4 (.cells #[.int .i64 ((u : Int) + 1), .int .i64 (v : Int), .int .i64 iK] 29)) (.cells #[.int .u8 40] 5)); clear hx; have kc2 := Kd.C_string (P := Tryd.prog) (c := 1) Tryd.underlying22 Tryd.underlying5 Tryd.underlying9 (show Kd.C (Kd.int .u8) ((w4.alloc (.cells #[.int .i64 ((u : Int) + 1), .int .i64 (v : Int), .int .i64 iK] 29)).alloc (.cells #[.int .u8 40] 5)) (some ⟨w4.heap.size + 1, 0, none⟩) 1 [40] from (by have h := u8_C (xs := [40]) (fr := (0, 0)) (blk_new (w4.alloc (.cells #[.int .i64 ((u : Int) + 1), .int .i64 (v : Int), .int .i64 iK] 29)) (.cells #[.int .u8 40] 5)) (by decide); rw [World.size_alloc] at h; exact h)))
     | (go_at_call 10; (with_reducible refine (HS2.out _ HW4.out).mono ?_); rintro e w5 ⟨rfl, hx⟩; have HW5 := Aside0.mk (below_alloc (below_step HW4.out hx) (.cells #[.int .i64 aF, .int .i64 aT, .int .i64 aK] 29)); have HI5 := Aside0.mk (blk_alloc (blk_below HI4.out hx) (.cells #[.int .i64 aF, .int .i64 aT, .int .i64 aK] 29)); have BN5 := Aside0.mk (blk_new w5 (.cells #[.int .i64 aF, .int .i64 aT, .int .i64 aK] 29)); have BM5 := Aside0.mk (blk_alloc (blk_below BN4.out hx) (.cells #[.int .i64 aF, .int .i64 aT, .int .i64 aK] 29)); clear hx; have x0 := (blk_cell BM5.out 0).trans rfl; have x1 := (blk_cell BM5.out 1).trans rfl; have x2 := (blk_cell BM5.out 2).trans rfl)
     | (go_at_call 13; (with_reducible refine (HL1.out _ HW5.out).mono ?_); rintro e w6 ⟨rfl, hx⟩; have HW6 := Aside0.mk (below_step HW5.out hx); have HI6 := Aside0.mk (blk_below HI5.out hx); have BN6 := Aside0.mk (blk_below BN5.out hx); have BM6 := Aside0.mk (blk_below BM5.out hx); clear hx; have y0 := (blk_cell BN6.out 0).trans rfl; have y1 := (blk_cell BN6.out 1).trans rfl; have y2 := (blk_cell BN6.out 2).trans rfl)
     | (go_at_call 13; (with_reducible refine (HL2.out _ HW6.out).mono ?_); rintro e w7 ⟨rfl, hx⟩; have HW7 := Aside0.mk (below_step HW6.out hx); have HI7 := Aside0.mk (blk_below HI6.out hx); have BN7 := Aside0.mk (blk_below BN6.out hx); have BM7 := Aside0.mk (blk_below BM6.out hx); clear hx; have z0 := (blk_cell BM7.out 0).trans rfl; have z1 := (blk_cell BM7.out 1).trans rfl; have v0 := (blk_cell BN7.out 0).trans rfl; have v1 := (blk_cell BN7.out 1).trans rfl; have hcu := pw_cell_below HW7.out HCU.out.1; have hcv := pw_cell_below HW7.out HCU.out.2))
    go_quiet ((go_at_call 14; (with_reducible refine (HAB.out _).mono ?_); rintro e w' ⟨rfl, ⟨⟨nd, rfl⟩⟩⟩; first | exact ⟨rfl, _, World.drewN_drewN _ _ _⟩ | exact ⟨rfl, _, rfl⟩))
    go_wp2
    go_roundw
    case rel => exact ⟨7, by decide, (blk_drewN HI7.out nq), (pw_below_drewN HW7.out nq)⟩
    case measure =>
     have hm2 := HI7.out
     rw [HM.out, show World.iterPos _ w3.heap.size = 7 from by simp [World.iterPos, hm2]]
     decide
   ·as_aux_lemma =>
    clear hrest
    go_wp2_with (first
     | (go_at_call 10; (with_reducible refine (HS1.out _ HW0.out).mono ?_); rintro e w4 ⟨rfl, hx⟩; have HW4 := Aside0.mk (below_alloc (below_alloc (below_step HW0.out hx) (.cells #[.int .i64 iF, .int .i64 iT, .int .i64 iK] 29)) (.cells #[.int .u8 40] 5)); have HI4 := Aside0.mk (blk_alloc (blk_alloc (blk_below HI0.out hx) (.cells #[.int .i64 iF, .int .i64 iT, .int .i64 iK] 29)) (.cells #[.int .u8 40] 5)); have BN4 := Aside0.mk (blk_alloc (blk_new w4 (.cells #[.int .i64 iF, .int .i64 iT, .int .i64 iK] 29)) (.cells #[.int .u8 40] 5)); clear hx; have kc2 := Kd.C_string (P := Tryd.prog) (c := 1) Tryd.underlying22 Tryd.underlying5 Tryd.underlying9 (show Kd.C (Kd.int .u8) ((w4.alloc (.cells #[.int .i64 iF, .int .i64 iT, .int .i64 iK] 29)).alloc (.cells #[.int .u8 40] 5)) (some ⟨w4.heap.size + 1, 0, none⟩) 1 [40] from (by have h := u8_C (xs := [40]) (fr := (0, 0)) (blk_new (w4.alloc (.cells #[.int .i64 iF, .int .i64 iT, .int .i64 iK] 29)) (.cells #[.int .u8 40] 5)) (by decide); rw [World.size_alloc] at h; exact h)))
     | (go_at_call 10; (with_reducible refine (HS2.out _ HW4.out).mono ?_); rintro e w5 ⟨rfl, hx⟩; have HW5 := Aside0.mk (below_alloc (below_step HW4.out hx) (.cells #[.int .i64 aF, .int .i64 aT, .int .i64 aK] 29)); have HI5 := Aside0.mk (blk_alloc (blk_below HI4.out hx) (.cells #[.int .i64 aF, .int .i64 aT, .int .i64 aK] 29)); have BN5 := Aside0.mk (blk_new w5 (.cells #[.int .i64 aF, .int .i64 aT, .int .i64 aK] 29)); have BM5 := Aside0.mk (blk_alloc (blk_below BN4.out hx) (.cells #[.int .i64 aF, .int .i64 aT, .int .i64 aK] 29)); clear hx; have x0 := (blk_cell BM5.out 0).trans rfl; have x1 := (blk_cell BM5.out 1).trans rfl; have x2 := (blk_cell BM5.out 2).trans rfl)
     | (go_at_call 13; (with_reducible refine (HL1.out _ HW5.out).mono ?_); rintro e w6 ⟨rfl, hx⟩; have HW6 := Aside0.mk (below_step HW5.out hx); have HI6 := Aside0.mk (blk_below HI5.out hx); have BN6 := Aside0.mk (blk_below BN5.out hx); have BM6 := Aside0.mk (blk_below BM5.out hx); clear hx; have y0 := (blk_cell BN6.out 0).trans rfl; have y1 := (blk_cell BN6.out 1).trans rfl; have y2 := (blk_cell BN6.out 2).trans rfl)
     | (go_at_call 13; (with_reducible refine (HL2.out _ HW6.out).mono ?_); rintro e w7 ⟨rfl, hx⟩; have HW7 := Aside0.mk (below_step HW6.out hx); have HI7 := Aside0.mk (blk_below HI6.out hx); have BN7 := Aside0.mk (blk_below BN6.out hx); have BM7 := Aside0.mk (blk_below BM6.out hx); clear hx))
    go_roundw
    case rel => exact ⟨7, by decide, HI7.out, HW7.out⟩
    case measure =>
     have hm2 := HI7.out
     rw [HM.out, show World.iterPos _ w3.heap.size = 7 from by simp [World.iterPos, hm2]]
     decide
  ·as_aux_lemma =>
   have hnext : ∀ ty, (Instr.next (.pointer (some ⟨w3.heap.size, 0, none⟩)) true ty).run Tryd.prog wr = .ok (.tuple #[.bool true, .int .i64 7, .int .i32 41]) (wr.iterAt w3.heap.size ({ data := #[119, 87, 112, 34, 39, 96, 40, 41, 98, 91, 93, 123, 125, 66] } : ByteArray) 8) := fun ty => Lib.run_next_ascii_at wr w3.heap.size ({ data := #[119, 87, 112, 34, 39, 96, 40, 41, 98, 91, 93, 123, 125, 66] } : ByteArray) 7 ty hk (by decide) (by decide)
   have hk1 := Lib.iterAt_heap wr w3.heap.size ({ data := #[119, 87, 112, 34, 39, 96, 40, 41, 98, 91, 93, 123, 125, 66] } : ByteArray) 7 8 hk
   have hn1 : Below w.heap.size w (wr.iterAt w3.heap.size ({ data := #[119, 87, 112, 34, 39, 96, 40, 41, 98, 91, 93, 123, 125, 66] } : ByteArray) 8) := Lib.below_iterAt hnx hw3 ({ data := #[119, 87, 112, 34, 39, 96, 40, 41, 98, 91, 93, 123, 125, 66] } : ByteArray) 8
   have hmu : wr.iterPos w3.heap.size = 7 := by simp [World.iterPos, hk]
   generalize wr.iterAt w3.heap.size ({ data := #[119, 87, 112, 34, 39, 96, 40, 41, 98, 91, 93, 123, 125, 66] } : ByteArray) 8 = W1 at hnext hk1 hn1
   have HM := Aside0.mk hmu
   clear hmu hk hnx
   have HW0 := Aside0.mk (below_alloc hn1 (.cells #[.int .u8 41] 5))
   have HI0 := Aside0.mk (blk_alloc hk1 (.cells #[.int .u8 41] 5))
   have kc1 := Kd.C_string (P := Tryd.prog) (c := 1) Tryd.underlying22 Tryd.underlying5 Tryd.underlying9 (show Kd.C (Kd.int .u8) (W1.alloc (.cells #[.int .u8 41] 5)) (some ⟨W1.heap.size, 0, none⟩) 1 [41] from u8_C (xs := [41]) (fr := (0, 0)) (blk_new W1 (.cells #[.int .u8 41] 5)) (by decide))
   clear hk1 hn1
   obtain ⟨⟨iF, iT, iK, iE⟩, ⟨aF, aT, aK, aE⟩, hI, hA, hLI, hLA, hiE, haE, hrest⟩ := held_b hu hl0 hpl (c := c) (by omega) (ki := ({ data := #[105] } ++ strOfNums [41] : ByteArray)) (ka := ({ data := #[97] } ++ strOfNums [41] : ByteArray)) (x := 41) ⟨by decide +kernel, by decide +kernel, by decide +kernel, by decide +kernel, by decide +kernel, by decide +kernel⟩ key_41 (Ev.of (quoinlaw13_about.mono _ _ _) (k := 9) (by decide +kernel))
   simp only at hI hA hLI hLA hiE haE hrest
   have HS1 := Aside0.mk (fun (W : World) (h : Below w.heap.size w W) => sel_calls hc0 hI W (Kd.C_below HC0.out h))
   have HS2 := Aside0.mk (fun (W : World) (h : Below w.heap.size w W) => sel_calls hc0 hA W (Kd.C_below HC0.out h))
   have HL1 := Aside0.mk (fun (W : World) (h : Below w.heap.size w W) => lies_calls hc0 hLI W (Kd.C_below HC0.out h))
   have HL2 := Aside0.mk (fun (W : World) (h : Below w.heap.size w W) => lies_calls hc0 hLA W (Kd.C_below HC0.out h))
   clear hI hA hLI hLA
   have hee := (hrest (by decide) (by decide)).1 (by decide)
   have hrest := (hrest (by decide) (by decide)).2
   subst hee
   rcases hiE with rfl | rfl
   ·as_aux_lemma =>
    obtain ⟨h1, h2, h3⟩ := hrest rfl rfl
    obtain ⟨u, v, rfl, rfl, hul, hvl, hab⟩ := h3 (by decide)
    clear hrest h3
    obtain ⟨ad, rfl, hcu⟩ := byte_at HC0.out hul
    obtain ⟨ad_, ea, hcv⟩ := byte_at HC0.out hvl
    obtain rfl := Option.some.inj ea
    generalize rd l0 (u : Int) = bu at hab hcu
    generalize rd l0 (v : Int) = bv at hab hcv
    have HCU := Aside0.mk (And.intro hcu hcv)
    clear hcu hcv
    have HAB := Aside0.mk (fun W => about_calls hab W)
    clear hab
    have g1 : ((u : Int) + 1 < aF) = False := eq_false (by omega)
    have g2 : ((v : Int) > aT) = False := eq_false (by omega)
    have g3 : ((u : Int) + 1 < 1) = False := eq_false (by omega)
    have g4 : ((v : Int) ≥ (l0.length : Int)) = False := eq_false (by omega)
    have g5 : (0 ≤ (u : Int)) = True := eq_true (by omega)
    have g6 : ((u : Int) < (l0.length : Int)) = True := eq_true (by omega)
    have g7 : (0 ≤ (v : Int)) = True := eq_true (by omega)
    have g8 : ((v : Int) < (l0.length : Int)) = True := eq_true (by omega)
    go_wp2_with (first
     | (go_at_call 10; (with_reducible refine (HS1.out _ HW0.out).mono ?_); rintro e w4 ⟨rfl, hx⟩; have HW4 := Aside0.mk (below_alloc (below_alloc (below_step HW0.out hx) (.cells #[.int .i64 ((u : Int) + 1), .int .i64 (v : Int), .int .i64 iK] 29)) (.cells #[.int .u8 41] 5)); have HI4 := Aside0.mk (blk_alloc (blk_alloc (blk_below HI0.out hx) (.cells #[.int .i64 ((u : Int) + 1), .int .i64 (v : Int), .int .i64 iK] 29)) (.cells #[.int .u8 41] 5)); have BN4 := Aside0.mk (blk_alloc (blk_new w4 (.cells #[.int .i64 ((u : Int) + 1), .int .i64 (v : Int), .int .i64 iK] 29)) (.cells #[.int .u8 41] 5)); clear hx; have kc2 := Kd.C_string (P := Tryd.prog) (c := 1) Tryd.underlying22 Tryd.underlying5 Tryd.underlying9 (show Kd.C (Kd.int .u8) ((w4.alloc (.cells #[.int .i64 ((u : Int) + 1), .int .i64 (v : Int), .int .i64 iK] 29)).alloc (.cells #[.int .u8 41] 5)) (some ⟨w4.heap.size + 1, 0, none⟩) 1 [41] from (by have h := u8_C (xs := [41]) (fr := (0, 0)) (blk_new (w4.alloc (.cells #[.int .i64 ((u : Int) + 1), .int .i64 (v : Int), .int .i64 iK] 29)) (.cells #[.int .u8 41] 5)) (by decide); rw [World.size_alloc] at h; exact h)))
     | (go_at_call 10; (with_reducible refine (HS2.out _ HW4.out).mono ?_); rintro e w5 ⟨rfl, hx⟩; have HW5 := Aside0.mk (below_alloc (below_step HW4.out hx) (.cells #[.int .i64 aF, .int .i64 aT, .int .i64 aK] 29)); have HI5 := Aside0.mk (blk_alloc (blk_below HI4.out hx) (.cells #[.int .i64 aF, .int .i64 aT, .int .i64 aK] 29)); have BN5 := Aside0.mk (blk_new w5 (.cells #[.int .i64 aF, .int .i64 aT, .int .i64 aK] 29)); have BM5 := Aside0.mk (blk_alloc (blk_below BN4.out hx) (.cells #[.int .i64 aF, .int .i64 aT, .int .i64 aK] 29)); clear hx; have x0 := (blk_cell BM5.out 0).trans rfl; have x1 := (blk_cell BM5.out 1).trans rfl; have x2 := (blk_cell BM5.out 2).trans rfl)
     | (go_at_call 13; (with_reducible refine (HL1.out _ HW5.out).mono ?_); rintro e w6 ⟨rfl, hx⟩; have HW6 := Aside0.mk (below_step HW5.out hx); have HI6 := Aside0.mk (blk_below HI5.out hx); have BN6 := Aside0.mk (blk_below BN5.out hx); have BM6 := Aside0.mk (blk_below BM5.out hx); clear hx; have y0 := (blk_cell BN6.out 0).trans rfl; have y1 := (blk_cell BN6.out 1).trans rfl; have y2 := (blk_cell BN6.out 2).trans rfl)
     | (go_at_call 13; (with_reducible refine (HL2.out _ HW6.out).mono ?_); rintro e w7 ⟨rfl, hx⟩; have HW7 := Aside0.mk (below_step HW6.out hx); have HI7 := Aside0.mk (blk_below HI6.out hx); have BN7 := Aside0.mk (blk_below BN6.out hx); have BM7 := Aside0.mk (blk_below BM6.out hx); clear hx; have z0 := (blk_cell BM7.out 0).trans rfl; have z1 := (blk_cell BM7.out 1).trans rfl; have v0 := (blk_cell BN7.out 0).trans rfl; have v1 := (blk_cell BN7.out 1).trans rfl; have hcu := pw_cell_below HW7.out HCU.out.1; have hcv := pw_cell_below HW7.out HCU.out.2))
    go_quiet ((go_at_call 14; (with_reducible refine (HAB.out _).mono ?_); rintro e w' ⟨rfl, ⟨⟨nd, rfl⟩⟩⟩; first | exact ⟨rfl, _, World.drewN_drewN _ _ _⟩ | exact ⟨rfl, _, rfl⟩))
    go_wp2
    go_roundw
    case rel => exact ⟨8, by decide, (blk_drewN HI7.out nq), (pw_below_drewN HW7.out nq)⟩
    case measure =>
     have hm2 := HI7.out
     rw [HM.out, show World.iterPos _ w3.heap.size = 8 from by simp [World.iterPos, hm2]]
     decide
   ·as_aux_lemma =>
    clear hrest
    go_wp2_with (first
     | (go_at_call 10; (with_reducible refine (HS1.out _ HW0.out).mono ?_); rintro e w4 ⟨rfl, hx⟩; have HW4 := Aside0.mk (below_alloc (below_alloc (below_step HW0.out hx) (.cells #[.int .i64 iF, .int .i64 iT, .int .i64 iK] 29)) (.cells #[.int .u8 41] 5)); have HI4 := Aside0.mk (blk_alloc (blk_alloc (blk_below HI0.out hx) (.cells #[.int .i64 iF, .int .i64 iT, .int .i64 iK] 29)) (.cells #[.int .u8 41] 5)); have BN4 := Aside0.mk (blk_alloc (blk_new w4 (.cells #[.int .i64 iF, .int .i64 iT, .int .i64 iK] 29)) (.cells #[.int .u8 41] 5)); clear hx; have kc2 := Kd.C_string (P := Tryd.prog) (c := 1) Tryd.underlying22 Tryd.underlying5 Tryd.underlying9 (show Kd.C (Kd.int .u8) ((w4.alloc (.cells #[.int .i64 iF, .int .i64 iT, .int .i64 iK] 29)).alloc (.cells #[.int .u8 41] 5)) (some ⟨w4.heap.size + 1, 0, none⟩) 1 [41] from (by have h := u8_C (xs := [41]) (fr := (0, 0)) (blk_new (w4.alloc (.cells #[.int .i64 iF, .int .i64 iT, .int .i64 iK] 29)) (.cells #[.int .u8 41] 5)) (by decide); rw [World.size_alloc] at h; exact h)))
     | (go_at_call 10; (with_reducible refine (HS2.out _ HW4.out).mono ?_); rintro e w5 ⟨rfl, hx⟩; have HW5 := Aside0.mk (below_alloc (below_step HW4.out hx) (.cells #[.int .i64 aF, .int .i64 aT, .int .i64 aK] 29)); have HI5 := Aside0.mk (blk_alloc (blk_below HI4.out hx) (.cells #[.int .i64 aF, .int .i64 aT, .int .i64 aK] 29)); have BN5 := Aside0.mk (blk_new w5 (.cells #[.int .i64 aF, .int .i64 aT, .int .i64 aK] 29)); have BM5 := Aside0.mk (blk_alloc (blk_below BN4.out hx) (.cells #[.int .i64 aF, .int .i64 aT, .int .i64 aK] 29)); clear hx; have x0 := (blk_cell BM5.out 0).trans rfl; have x1 := (blk_cell BM5.out 1).trans rfl; have x2 := (blk_cell BM5.out 2).trans rfl)
     | (go_at_call 13; (with_reducible refine (HL1.out _ HW5.out).mono ?_); rintro e w6 ⟨rfl, hx⟩; have HW6 := Aside0.mk (below_step HW5.out hx); have HI6 := Aside0.mk (blk_below HI5.out hx); have BN6 := Aside0.mk (blk_below BN5.out hx); have BM6 := Aside0.mk (blk_below BM5.out hx); clear hx; have y0 := (blk_cell BN6.out 0).trans rfl; have y1 := (blk_cell BN6.out 1).trans rfl; have y2 := (blk_cell BN6.out 2).trans rfl)
     | (go_at_call 13; (with_reducible refine (HL2.out _ HW6.out).mono ?_); rintro e w7 ⟨rfl, hx⟩; have HW7 := Aside0.mk (below_step HW6.out hx); have HI7 := Aside0.mk (blk_below HI6.out hx); have BN7 := Aside0.mk (blk_below BN6.out hx); have BM7 := Aside0.mk (blk_below BM6.out hx); clear hx))
    go_roundw
    case rel => exact ⟨8, by decide, HI7.out, HW7.out⟩
    case measure =>
     have hm2 := HI7.out
     rw [HM.out, show World.iterPos _ w3.heap.size = 8 from by simp [World.iterPos, hm2]]
     decide
  ·as_aux_lemma =>
   have hnext : ∀ ty, (Instr.next (.pointer (some ⟨w3.heap.size, 0, none⟩)) true ty).run Tryd.prog wr = .ok (.tuple #[.bool true, .int .i64 8, .int .i32 98]) (wr.iterAt w3.heap.size ({ data := #[119, 87, 112, 34, 39, 96, 40, 41, 98, 91, 93, 123, 125, 66] } : ByteArray) 9) := fun ty => Lib.run_next_ascii_at wr w3.heap.size ({ data := #[119, 87, 112, 34, 39, 96, 40, 41, 98, 91, 93, 123, 125, 66] } : ByteArray) 8 ty hk (by decide) (by decide)
   have hk1 := Lib.iterAt_heap wr w3.heap.size ({ data := #[119, 87, 112, 34, 39, 96, 40, 41, 98, 91, 93, 123, 125, 66] } : ByteArray) 8 9 hk
   have hn1 : Below w.heap.size w (wr.iterAt w3.heap.size ({ data := #[119, 87, 112, 34, 39, 96, 40, 41, 98, 91, 93, 123, 125, 66] } : ByteArray) 9) := Lib.below_iterAt hnx hw3 ({ data := #[119, 87, 112, 34, 39, 96, 40, 41, 98, 91, 93, 123, 125, 66] } : ByteArray) 9
   have hmu : wr.iterPos w3.heap.size = 8 := by simp [World.iterPos, hk]
   generalize wr.iterAt w3.heap.size ({ data := #[119, 87, 112, 34, 39, 96, 40, 41, 98, 91, 93, 123, 125, 66] } : ByteArray) 9 = W1 at hnext hk1 hn1
   have HM := Aside0.mk hmu
   clear hmu hk hnx
   have HW0 := Aside0.mk (below_alloc hn1 (.cells #[.int .u8 98] 5))
   have HI0 := Aside0.mk (blk_alloc hk1 (.cells #[.int .u8 98] 5))
   have kc1 := Kd.C_string (P := Tryd.prog) (c := 1) Tryd.underlying22 Tryd.underlying5 Tryd.underlying9 (show Kd.C (Kd.int .u8) (W1.alloc (.cells #[.int .u8 98] 5)) (some ⟨W1.heap.size, 0, none⟩) 1 [98] from u8_C (xs := [98]) (fr := (0, 0)) (blk_new W1 (.cells #[.int .u8 98] 5)) (by decide))
   clear hk1 hn1
   obtain ⟨⟨iF, iT, iK, iE⟩, ⟨aF, aT, aK, aE⟩, hI, hA, hLI, hLA, hiE, haE, hrest⟩ := held_b hu hl0 hpl (c := c) (by omega) (ki := ({ data := #[105] } ++ strOfNums [98] : ByteArray)) (ka := ({ data := #[97] } ++ strOfNums [98] : ByteArray)) (x := 98) ⟨by decide +kernel, by decide +kernel, by decide +kernel, by decide +kernel, by decide +kernel, by decide +kernel⟩ key_98 (Ev.of (quoinlaw13_about.mono _ _ _) (k := 9) (by decide +kernel))
   simp only at hI hA hLI hLA hiE haE hrest
   have HS1 := Aside0.mk (fun (W : World) (h : Below w.heap.size w W) => sel_calls hc0 hI W (Kd.C_below HC0.out h))
   have HS2 := Aside0.mk (fun (W : World) (h : Below w.heap.size w W) => sel_calls hc0 hA W (Kd.C_below HC0.out h))
   have HL1 := Aside0.mk (fun (W : World) (h : Below w.heap.size w W) => lies_calls hc0 hLI W (Kd.C_below HC0.out h))
   have HL2 := Aside0.mk (fun (W : World) (h : Below w.heap.size w W) => lies_calls hc0 hLA W (Kd.C_below HC0.out h))
   clear hI hA hLI hLA
   have hee := (hrest (by decide) (by decide)).1 (by decide)
   have hrest := (hrest (by decide) (by decide)).2
   subst hee
   rcases hiE with rfl | rfl
   ·as_aux_lemma =>
    obtain ⟨h1, h2, h3⟩ := hrest rfl rfl
    obtain ⟨u, v, rfl, rfl, hul, hvl, hab⟩ := h3 (by decide)
    clear hrest h3
    obtain ⟨ad, rfl, hcu⟩ := byte_at HC0.out hul
    obtain ⟨ad_, ea, hcv⟩ := byte_at HC0.out hvl
    obtain rfl := Option.some.inj ea
    generalize rd l0 (u : Int) = bu at hab hcu
    generalize rd l0 (v : Int) = bv at hab hcv
    have HCU := Aside0.mk (And.intro hcu hcv)
    clear hcu hcv
    have HAB := Aside0.mk (fun W => about_calls hab W)
    clear hab
    have g1 : ((u : Int) + 1 < aF) = False := eq_false (by omega)
    have g2 : ((v : Int) > aT) = False := eq_false (by omega)
    have g3 : ((u : Int) + 1 < 1) = False := eq_false (by omega)
    have g4 : ((v : Int) ≥ (l0.length : Int)) = False := eq_false (by omega)
    have g5 : (0 ≤ (u : Int)) = True := eq_true (by omega)
    have g6 : ((u : Int) < (l0.length : Int)) = True := eq_true (by omega)
    have g7 : (0 ≤ (v : Int)) = True := eq_true (by omega)
    have g8 : ((v : Int) < (l0.length : Int)) = True := eq_true (by omega)
    go_wp2_with (first
     | (go_at_call 10; (with_reducible refine (HS1.out _ HW0.out).mono ?_); rintro e w4 ⟨rfl, hx⟩; have HW4 := Aside0.mk (below_alloc (below_alloc (below_step HW0.out hx) (.cells #[.int .i64 ((u : Int) + 1), .int .i64 (v : Int), .int .i64 iK] 29)) (.cells #[.int .u8 98] 5)); have HI4 := Aside0.mk (blk_alloc (blk_alloc (blk_below HI0.out hx) (.cells #[.int .i64 ((u : Int) + 1), .int .i64 (v : Int), .int .i64 iK] 29)) (.cells #[.int .u8 98] 5)); have BN4 := Aside0.mk (blk_alloc (blk_new w4 (.cells #[.int .i64 ((u : Int) + 1), .int .i64 (v : Int), .int .i64 iK] 29)) (.cells #[.int .u8 98] 5)); clear hx; have kc2 := Kd.C_string (P := Tryd.prog) (c := 1) Tryd.underlying22 Tryd.underlying5 Tryd.underlying9 (show Kd.C (Kd.int .u8) ((w4.alloc (.cells #[.int .i64 ((u : Int) + 1), .int .i64 (v : Int), .int .i64 iK] 29)).alloc (.cells #[.int .u8 98] 5)) (some ⟨w4.heap.size + 1, 0, none⟩) 1 [98] from (by have h := u8_C (xs := [98]) (fr := (0, 0)) (blk_new (w4.alloc (.cells #[.int .i64 ((u : Int) + 1), .int .i64 (v : Int), .int .i64 iK] 29)) (.cells #[.int .u8 98] 5)) (by decide); rw [World.size_alloc] at h; exact h)))
     | (go_at_call 10; (with_reducible refine (HS2.out _ HW4.out).mono ?_); rintro e w5 ⟨rfl, hx⟩; have HW5 := Aside0.mk (below_alloc (below_step HW4.out hx) (.cells #[.int .i64 aF, .int .i64 aT, .int .i64 aK] 29)); have HI5 := Aside0.mk (blk_alloc (blk_below HI4.out hx) (.cells #[.int .i64 aF, .int .i64 aT, .int .i64 aK] 29)); have BN5 := Aside0.mk (blk_new w5 (.cells #[.int .i64 aF, .int .i64 aT, .int .i64 aK] 29)); have BM5 := Aside0.mk (blk_alloc (blk_below BN4.out hx) (.cells #[.int .i64 aF, .int .i64 aT, .int .i64 aK] 29)); clear hx; have x0 := (blk_cell BM5.out 0).trans rfl; have x1 := (blk_cell BM5.out 1).trans rfl; have x2 := (blk_cell BM5.out 2).trans rfl)
     | (go_at_call 13; (with_reducible refine (HL1.out _ HW5.out).mono ?_); rintro e w6 ⟨rfl, hx⟩; have HW6 := Aside0.mk (below_step HW5.out hx); have HI6 := Aside0.mk (blk_below HI5.out hx); have BN6 := Aside0.mk (blk_below BN5.out hx); have BM6 := Aside0.mk (blk_below BM5.out hx); clear hx; have y0 := (blk_cell BN6.out 0).trans rfl; have y1 := (blk_cell BN6.out 1).trans rfl; have y2 := (blk_cell BN6.out 2).trans rfl)
     | (go_at_call 13; (with_reducible refine (HL2.out _ HW6.out).mono ?_); rintro e w7 ⟨rfl, hx⟩; have HW7 := Aside0.mk (below_step HW6.out hx); have HI7 := Aside0.mk (blk_below HI6.out hx); have BN7 := Aside0.mk (blk_below BN6.out hx); have BM7 := Aside0.mk (blk_below BM6.out hx); clear hx; have z0 := (blk_cell BM7.out 0).trans rfl; have z1 := (blk_cell BM7.out 1).trans rfl; have v0 := (blk_cell BN7.out 0).trans rfl; have v1 := (blk_cell BN7.out 1).trans rfl; have hcu := pw_cell_below HW7.out HCU.out.1; have hcv := pw_cell_below HW7.out HCU.out.2))
    go_quiet ((go_at_call 14; (with_reducible refine (HAB.out _).mono ?_); rintro e w' ⟨rfl, ⟨⟨nd, rfl⟩⟩⟩; first | exact ⟨rfl, _, World.drewN_drewN _ _ _⟩ | exact ⟨rfl, _, rfl⟩))
    go_wp2
    go_roundw
    case rel => exact ⟨9, by decide, (blk_drewN HI7.out nq), (pw_below_drewN HW7.out nq)⟩
    case measure =>
     have hm2 := HI7.out
     rw [HM.out, show World.iterPos _ w3.heap.size = 9 from by simp [World.iterPos, hm2]]
     decide
   ·as_aux_lemma =>
    clear hrest
    go_wp2_with (first
     | (go_at_call 10; (with_reducible refine (HS1.out _ HW0.out).mono ?_); rintro e w4 ⟨rfl, hx⟩; have HW4 := Aside0.mk (below_alloc (below_alloc (below_step HW0.out hx) (.cells #[.int .i64 iF, .int .i64 iT, .int .i64 iK] 29)) (.cells #[.int .u8 98] 5)); have HI4 := Aside0.mk (blk_alloc (blk_alloc (blk_below HI0.out hx) (.cells #[.int .i64 iF, .int .i64 iT, .int .i64 iK] 29)) (.cells #[.int .u8 98] 5)); have BN4 := Aside0.mk (blk_alloc (blk_new w4 (.cells #[.int .i64 iF, .int .i64 iT, .int .i64 iK] 29)) (.cells #[.int .u8 98] 5)); clear hx; have kc2 := Kd.C_string (P := Tryd.prog) (c := 1) Tryd.underlying22 Tryd.underlying5 Tryd.underlying9 (show Kd.C (Kd.int .u8) ((w4.alloc (.cells #[.int .i64 iF, .int .i64 iT, .int .i64 iK] 29)).alloc (.cells #[.int .u8 98] 5)) (some ⟨w4.heap.size + 1, 0, none⟩) 1 [98] from (by have h := u8_C (xs := [98]) (fr := (0, 0)) (blk_new (w4.alloc (.cells #[.int .i64 iF, .int .i64 iT, .int .i64 iK] 29)) (.cells #[.int .u8 98] 5)) (by decide); rw [World.size_alloc] at h; exact h)))
     | (go_at_call 10; (with_reducible refine (HS2.out _ HW4.out).mono ?_); rintro e w5 ⟨rfl, hx⟩; have HW5 := Aside0.mk (below_alloc (below_step HW4.out hx) (.cells #[.int .i64 aF, .int .i64 aT, .int .i64 aK] 29)); have HI5 := Aside0.mk (blk_alloc (blk_below HI4.out hx) (.cells #[.int .i64 aF, .int .i64 aT, .int .i64 aK] 29)); have BN5 := Aside0.mk (blk_new w5 (.cells #[.int .i64 aF, .int .i64 aT, .int .i64 aK] 29)); have BM5 := Aside0.mk (blk_alloc (blk_below BN4.out hx) (.cells #[.int .i64 aF, .int .i64 aT, .int .i64 aK] 29)); clear hx; have x0 := (blk_cell BM5.out 0).trans rfl; have x1 := (blk_cell BM5.out 1).trans rfl; have x2 := (blk_cell BM5.out 2).trans rfl)
     | (go_at_call 13; (with_reducible refine (HL1.out _ HW5.out).mono ?_); rintro e w6 ⟨rfl, hx⟩; have HW6 := Aside0.mk (below_step HW5.out hx); have HI6 := Aside0.mk (blk_below HI5.out hx); have BN6 := Aside0.mk (blk_below BN5.out hx); have BM6 := Aside0.mk (blk_below BM5.out hx); clear hx; have y0 := (blk_cell BN6.out 0).trans rfl; have y1 := (blk_cell BN6.out 1).trans rfl; have y2 := (blk_cell BN6.out 2).trans rfl)
     | (go_at_call 13; (with_reducible refine (HL2.out _ HW6.out).mono ?_); rintro e w7 ⟨rfl, hx⟩; have HW7 := Aside0.mk (below_step HW6.out hx); have HI7 := Aside0.mk (blk_below HI6.out hx); have BN7 := Aside0.mk (blk_below BN6.out hx); have BM7 := Aside0.mk (blk_below BM6.out hx); clear hx))
    go_roundw
    case rel => exact ⟨9, by decide, HI7.out, HW7.out⟩
    case measure =>
     have hm2 := HI7.out
     rw [HM.out, show World.iterPos _ w3.heap.size = 9 from by simp [World.iterPos, hm2]]
     decide
  ·as_aux_lemma =>
   have hnext : ∀ ty, (Instr.next (.pointer (some ⟨w3.heap.size, 0, none⟩)) true ty).run Tryd.prog wr = .ok (.tuple #[.bool true, .int .i64 9, .int .i32 91]) (wr.iterAt w3.heap.size ({ data := #[119, 87, 112, 34, 39, 96, 40, 41, 98, 91, 93, 123, 125, 66] } : ByteArray) 10) := fun ty => Lib.run_next_ascii_at wr w3.heap.size ({ data := #[119, 87, 112, 34, 39, 96, 40, 41, 98, 91, 93, 123, 125, 66] } : ByteArray) 9 ty hk (by decide) (by decide)
   have hk1 := Lib.iterAt_heap wr w3.heap.size ({ data := #[119, 87, 112, 34, 39, 96, 40, 41, 98, 91, 93, 123, 125, 66] } : ByteArray) 9 10 hk
   have hn1 : Below w.heap.size w (wr.iterAt w3.heap.size ({ data := #[119, 87, 112, 34, 39, 96, 40, 41, 98, 91, 93, 123, 125, 66] } : ByteArray) 10) := Lib.below_iterAt hnx hw3 ({ data := #[119, 87, 112, 34, 39, 96, 40, 41, 98, 91, 93, 123, 125, 66] } : ByteArray) 10
   have hmu : wr.iterPos w3.heap.size = 9 := by simp [World.iterPos, hk]
   generalize wr.iterAt w3.heap.size ({ data := #[119, 87, 112, 34, 39, 96, 40, 41, 98, 91, 93, 123, 125, 66] } : ByteArray) 10 = W1 at hnext hk1 hn1
   have HM := Aside0.mk hmu
   clear hmu hk hnx
   have HW0 := Aside0.mk (below_alloc hn1 (.cells #[.int .u8 91] 5))
   have HI0 := Aside0.mk (blk_alloc hk1 (.cells #[.int .u8 91] 5))
   have kc1 := Kd.C_string (P := Tryd.prog) (c := 1) Tryd.underlying22 Tryd.underlying5 Tryd.underlying9 (show Kd.C (Kd.int .u8) (W1.alloc (.cells #[.int .u8 91] 5)) (some ⟨W1.heap.size, 0, none⟩) 1 [91] from u8_C (xs := [91]) (fr := (0, 0)) (blk_new W1 (.cells #[.int .u8 91] 5)) (by decide))
   clear hk1 hn1
   obtain ⟨⟨iF, iT, iK, iE⟩, ⟨aF, aT, aK, aE⟩, hI, hA, hLI, hLA, hiE, haE, hrest⟩ := held_b hu hl0 hpl (c := c) (by omega) (ki := ({ data := #[105] } ++ strOfNums [91] : ByteArray)) (ka := ({ data := #[97] } ++ strOfNums [91] : ByteArray)) (x := 91) ⟨by decide +kernel, by decide +kernel, by decide +kernel, by decide +kernel, by decide +kernel, by decide +kernel⟩ key_91 (Ev.of (quoinlaw13_about.mono _ _ _) (k := 9) (by decide +kernel))
   simp only at hI hA hLI hLA hiE haE hrest
   have HS1 := Aside0.mk (fun (W : World) (h : Below w.heap.size w W) => sel_calls hc0 hI W (Kd.C_below HC0.out h))
   have HS2 := Aside0.mk (fun (W : World) (h : Below w.heap.size w W) => sel_calls hc0 hA W (Kd.C_below HC0.out h))
   have HL1 := Aside0.mk (fun (W : World) (h : Below w.heap.size w W) => lies_calls hc0 hLI W (Kd.C_below HC0.out h))
   have HL2 := Aside0.mk (fun (W : World) (h : Below w.heap.size w W) => lies_calls hc0 hLA W (Kd.C_below HC0.out h))
   clear hI hA hLI hLA
   have hee := (hrest (by decide) (by decide)).1 (by decide)
   have hrest := (hrest (by decide) (by decide)).2
   subst hee
   rcases hiE with rfl | rfl
   ·as_aux_lemma =>
    obtain ⟨h1, h2, h3⟩ := hrest rfl rfl
    obtain ⟨u, v, rfl, rfl, hul, hvl, hab⟩ := h3 (by decide)
    clear hrest h3
    obtain ⟨ad, rfl, hcu⟩ := byte_at HC0.out hul
    obtain ⟨ad_, ea, hcv⟩ := byte_at HC0.out hvl
    obtain rfl := Option.some.inj ea
    generalize rd l0 (u : Int) = bu at hab hcu
    generalize rd l0 (v : Int) = bv at hab hcv
    have HCU := Aside0.mk (And.intro hcu hcv)
    clear hcu hcv
    have HAB := Aside0.mk (fun W => about_calls hab W)
    clear hab
    have g1 : ((u : Int) + 1 < aF) = False := eq_false (by omega)
    have g2 : ((v : Int) > aT) = False := eq_false (by omega)
    have g3 : ((u : Int) + 1 < 1) = False := eq_false (by omega)
    have g4 : ((v : Int) ≥ (l0.length : Int)) = False := eq_false (by omega)
    have g5 : (0 ≤ (u : Int)) = True := eq_true (by omega)
    have g6 : ((u : Int) < (l0.length : Int)) = True := eq_true (by omega)
    have g7 : (0 ≤ (v : Int)) = True := eq_true (by omega)
    have g8 : ((v : Int) < (l0.length : Int)) = True := eq_true (by omega)
    go_wp2_with (first
     | (go_at_call 10; (with_reducible refine (HS1.out _ HW0.out).mono ?_); rintro e w4 ⟨rfl, hx⟩; have HW4 := Aside0.mk (below_alloc (below_alloc (below_step HW0.out hx) (.cells #[.int .i64 ((u : Int) + 1), .int .i64 (v : Int), .int .i64 iK] 29)) (.cells #[.int .u8 91] 5)); have HI4 := Aside0.mk (blk_alloc (blk_alloc (blk_below HI0.out hx) (.cells #[.int .i64 ((u : Int) + 1), .int .i64 (v : Int), .int .i64 iK] 29)) (.cells #[.int .u8 91] 5)); have BN4 := Aside0.mk (blk_alloc (blk_new w4 (.cells #[.int .i64 ((u : Int) + 1), .int .i64 (v : Int), .int .i64 iK] 29)) (.cells #[.int .u8 91] 5)); clear hx; have kc2 := Kd.C_string (P := Tryd.prog) (c := 1) Tryd.underlying22 Tryd.underlying5 Tryd.underlying9 (show Kd.C (Kd.int .u8) ((w4.alloc (.cells #[.int .i64 ((u : Int) + 1), .int .i64 (v : Int), .int .i64 iK] 29)).alloc (.cells #[.int .u8 91] 5)) (some ⟨w4.heap.size + 1, 0, none⟩) 1 [91] from (by have h := u8_C (xs := [91]) (fr := (0, 0)) (blk_new (w4.alloc (.cells #[.int .i64 ((u : Int) + 1), .int .i64 (v : Int), .int .i64 iK] 29)) (.cells #[.int .u8 91] 5)) (by decide); rw [World.size_alloc] at h; exact h)))
     | (go_at_call 10; (with_reducible refine (HS2.out _ HW4.out).mono ?_); rintro e w5 ⟨rfl, hx⟩; have HW5 := Aside0.mk (below_alloc (below_step HW4.out hx) (.cells #[.int .i64 aF, .int .i64 aT, .int .i64 aK] 29)); have HI5 := Aside0.mk (blk_alloc (blk_below HI4.out hx) (.cells #[.int .i64 aF, .int .i64 aT, .int .i64 aK] 29)); have BN5 := Aside0.mk (blk_new w5 (.cells #[.int .i64 aF, .int .i64 aT, .int .i64 aK] 29)); have BM5 := Aside0.mk (blk_alloc (blk_below BN4.out hx) (.cells #[.int .i64 aF, .int .i64 aT, .int .i64 aK] 29)); clear hx; have x0 := (blk_cell BM5.out 0).trans rfl; have x1 := (blk_cell BM5.out 1).trans rfl; have x2 := (blk_cell BM5.out 2).trans rfl)
     | (go_at_call 13; (with_reducible refine (HL1.out _ HW5.out).mono ?_); rintro e w6 ⟨rfl, hx⟩; have HW6 := Aside0.mk (below_step HW5.out hx); have HI6 := Aside0.mk (blk_below HI5.out hx); have BN6 := Aside0.mk (blk_below BN5.out hx); have BM6 := Aside0.mk (blk_below BM5.out hx); clear hx; have y0 := (blk_cell BN6.out 0).trans rfl; have y1 := (blk_cell BN6.out 1).trans rfl; have y2 := (blk_cell BN6.out 2).trans rfl)
     | (go_at_call 13; (with_reducible refine (HL2.out _ HW6.out).mono ?_); rintro e w7 ⟨rfl, hx⟩; have HW7 := Aside0.mk (below_step HW6.out hx); have HI7 := Aside0.mk (blk_below HI6.out hx); have BN7 := Aside0.mk (blk_below BN6.out hx); have BM7 := Aside0.mk (blk_below BM6.out hx); clear hx; have z0 := (blk_cell BM7.out 0).trans rfl; have z1 := (blk_cell BM7.out 1).trans rfl; have v0 := (blk_cell BN7.out 0).trans rfl; have v1 := (blk_cell BN7.out 1).trans rfl; have hcu := pw_cell_below HW7.out HCU.out.1; have hcv := pw_cell_below HW7.out HCU.out.2))
    go_quiet ((go_at_call 14; (with_reducible refine (HAB.out _).mono ?_); rintro e w' ⟨rfl, ⟨⟨nd, rfl⟩⟩⟩; first | exact ⟨rfl, _, World.drewN_drewN _ _ _⟩ | exact ⟨rfl, _, rfl⟩))
    go_wp2
    go_roundw
    case rel => exact ⟨10, by decide, (blk_drewN HI7.out nq), (pw_below_drewN HW7.out nq)⟩
    case measure =>
     have hm2 := HI7.out
     rw [HM.out, show World.iterPos _ w3.heap.size = 10 from by simp [World.iterPos, hm2]]
     decide
   ·as_aux_lemma =>
    clear hrest
    go_wp2_with (first
     | (go_at_call 10; (with_reducible refine (HS1.out _ HW0.out).mono ?_); rintro e w4 ⟨rfl, hx⟩; have HW4 := Aside0.mk (below_alloc (below_alloc (below_step HW0.out hx) (.cells #[.int .i64 iF, .int .i64 iT, .int .i64 iK] 29)) (.cells #[.int .u8 91] 5)); have HI4 := Aside0.mk (blk_alloc (blk_alloc (blk_below HI0.out hx) (.cells #[.int .i64 iF, .int .i64 iT, .int .i64 iK] 29)) (.cells #[.int .u8 91] 5)); have BN4 := Aside0.mk (blk_alloc (blk_new w4 (.cells #[.int .i64 iF, .int .i64 iT, .int .i64 iK] 29)) (.cells #[.int .u8 91] 5)); clear hx; have kc2 := Kd.C_string (P := Tryd.prog) (c := 1) Tryd.underlying22 Tryd.underlying5 Tryd.underlying9 (show Kd.C (Kd.int .u8) ((w4.alloc (.cells #[.int .i64 iF, .int .i64 iT, .int .i64 iK] 29)).alloc (.cells #[.int .u8 91] 5)) (some ⟨w4.heap.size + 1, 0, none⟩) 1 [91] from (by have h := u8_C (xs := [91]) (fr := (0, 0)) (blk_new (w4.alloc (.cells #[.int .i64 iF, .int .i64 iT, .int .i64 iK] 29)) (.cells #[.int .u8 91] 5)) (by decide); rw [World.size_alloc] at h; exact h)))
     | (go_at_call 10; (with_reducible refine (HS2.out _ HW4.out).mono ?_); rintro e w5 ⟨rfl, hx⟩; have HW5 := Aside0.mk (below_alloc (below_step HW4.out hx) (.cells #[.int .i64 aF, .int .i64 aT, .int .i64 aK] 29)); have HI5 := Aside0.mk (blk_alloc (blk_below HI4.out hx) (.cells #[.int .i64 aF, .int .i64 aT, .int .i64 aK] 29)); have BN5 := Aside0.mk (blk_new w5 (.cells #[.int .i64 aF, .int .i64 aT, .int .i64 aK] 29)); have BM5 := Aside0.mk (blk_alloc (blk_below BN4.out hx) (.cells #[.int .i64 aF, .int .i64 aT, .int .i64 aK] 29)); clear hx; have x0 := (blk_cell BM5.out 0).trans rfl; have x1 := (blk_cell BM5.out 1).trans rfl; have x2 := (blk_cell BM5.out 2).trans rfl)
     | (go_at_call 13; (with_reducible refine (HL1.out _ HW5.out).mono ?_); rintro e w6 ⟨rfl, hx⟩; have HW6 := Aside0.mk (below_step HW5.out hx); have HI6 := Aside0.mk (blk_below HI5.out hx); have BN6 := Aside0.mk (blk_below BN5.out hx); have BM6 := Aside0.mk (blk_below BM5.out hx); clear hx; have y0 := (blk_cell BN6.out 0).trans rfl; have y1 := (blk_cell BN6.out 1).trans rfl; have y2 := (blk_cell BN6.out 2).trans rfl)
     | (go_at_call 13; (with_reducible refine (HL2.out _ HW6.out).mono ?_); rintro e w7 ⟨rfl, hx⟩; have HW7 := Aside0.mk (below_step HW6.out hx); have HI7 := Aside0.mk (blk_below HI6.out hx); have BN7 := Aside0.mk (blk_below BN6.out hx); have BM7 := Aside0.mk (blk_below BM6.out hx); clear hx))
    go_roundw
    case rel => exact ⟨10, by decide, HI7.out, HW7.out⟩
    case measure =>
     have hm2 := HI7.out
     rw [HM.out, show World.iterPos _ w3.heap.size = 10 from by simp [World.iterPos, hm2]]
     decide
  ·as_aux_lemma =>
   have hnext : ∀ ty, (Instr.next (.pointer (some ⟨w3.heap.size, 0, none⟩)) true ty).run Tryd.prog wr = .ok (.tuple #[.bool true, .int .i64 10, .int .i32 93]) (wr.iterAt w3.heap.size ({ data := #[119, 87, 112, 34, 39, 96, 40, 41, 98, 91, 93, 123, 125, 66] } : ByteArray) 11) := fun ty => Lib.run_next_ascii_at wr w3.heap.size ({ data := #[119, 87, 112, 34, 39, 96, 40, 41, 98, 91, 93, 123, 125, 66] } : ByteArray) 10 ty hk (by decide) (by decide)
   have hk1 := Lib.iterAt_heap wr w3.heap.size ({ data := #[119, 87, 112, 34, 39, 96, 40, 41, 98, 91, 93, 123, 125, 66] } : ByteArray) 10 11 hk
   have hn1 : Below w.heap.size w (wr.iterAt w3.heap.size ({ data := #[119, 87, 112, 34, 39, 96, 40, 41, 98, 91, 93, 123, 125, 66] } : ByteArray) 11) := Lib.below_iterAt hnx hw3 ({ data := #[119, 87, 112, 34, 39, 96, 40, 41, 98, 91, 93, 123, 125, 66] } : ByteArray) 11
   have hmu : wr.iterPos w3.heap.size = 10 := by simp [World.iterPos, hk]
   generalize wr.iterAt w3.heap.size ({ data := #[119, 87, 112, 34, 39, 96, 40, 41, 98, 91, 93, 123, 125, 66] } : ByteArray) 11 = W1 at hnext hk1 hn1
   have HM := Aside0.mk hmu
   clear hmu hk hnx
   have HW0 := Aside0.mk (below_alloc hn1 (.cells #[.int .u8 93] 5))
   have HI0 := Aside0.mk (blk_alloc hk1 (.cells #[.int .u8 93] 5))
   have kc1 := Kd.C_string (P := Tryd.prog) (c := 1) Tryd.underlying22 Tryd.underlying5 Tryd.underlying9 (show Kd.C (Kd.int .u8) (W1.alloc (.cells #[.int .u8 93] 5)) (some ⟨W1.heap.size, 0, none⟩) 1 [93] from u8_C (xs := [93]) (fr := (0, 0)) (blk_new W1 (.cells #[.int .u8 93] 5)) (by decide))
   clear hk1 hn1
   obtain ⟨⟨iF, iT, iK, iE⟩, ⟨aF, aT, aK, aE⟩, hI, hA, hLI, hLA, hiE, haE, hrest⟩ := held_b hu hl0 hpl (c := c) (by omega) (ki := ({ data := #[105] } ++ strOfNums [93] : ByteArray)) (ka := ({ data := #[97] } ++ strOfNums [93] : ByteArray)) (x := 93) ⟨by decide +kernel, by decide +kernel, by decide +kernel, by decide +kernel, by decide +kernel, by decide +kernel⟩ key_93 (Ev.of (quoinlaw13_about.mono _ _ _) (k := 9) (by decide +kernel))
   simp only at hI hA hLI hLA hiE haE hrest
   have HS1 := Aside0.mk (fun (W : World) (h : Below w.heap.size w W) => sel_calls hc0 hI W (Kd.C_below HC0.out h))
   have HS2 := Aside0.mk (fun (W : World) (h : Below w.heap.size w W) => sel_calls hc0 hA W (Kd.C_below HC0.out h))
   have HL1 := Aside0.mk (fun (W : World) (h : Below w.heap.size w W) => lies_calls hc0 hLI W (Kd.C_below HC0.out h))
   have HL2 := Aside0.mk (fun (W : World) (h : Below w.heap.size w W) => lies_calls hc0 hLA W (Kd.C_below HC0.out h))
   clear hI hA hLI hLA
   have hee := (hrest (by decide) (by decide)).1 (by decide)
   have hrest := (hrest (by decide) (by decide)).2
   subst hee
   rcases hiE with rfl | rfl
   ·as_aux_lemma =>
    obtain ⟨h1, h2, h3⟩ := hrest rfl rfl
    obtain ⟨u, v, rfl, rfl, hul, hvl, hab⟩ := h3 (by decide)
    clear hrest h3
    obtain ⟨ad, rfl, hcu⟩ := byte_at HC0.out hul
    obtain ⟨ad_, ea, hcv⟩ := byte_at HC0.out hvl
    obtain rfl := Option.some.inj ea
    generalize rd l0 (u : Int) = bu at hab hcu
    generalize rd l0 (v : Int) = bv at hab hcv
    have HCU := Aside0.mk (And.intro hcu hcv)
    clear hcu hcv
    have HAB := Aside0.mk (fun W => about_calls hab W)
    clear hab
    have g1 : ((u : Int) + 1 < aF) = False := eq_false (by omega)
    have g2 : ((v : Int) > aT) = False := eq_false (by omega)
    have g3 : ((u : Int) + 1 < 1) = False := eq_false (by omega)
    have g4 : ((v : Int) ≥ (l0.length : Int)) = False := eq_false (by omega)
    have g5 : (0 ≤ (u : Int)) = True := eq_true (by omega)
    have g6 : ((u : Int) < (l0.length : Int)) = True := eq_true (by omega)
    have g7 : (0 ≤ (v : Int)) = True := eq_true (by omega)
    have g8 : ((v : Int) < (l0.length : Int)) = True := eq_true (by omega)
    go_wp2_with (first
     | (go_at_call 10; (with_reducible refine (HS1.out _ HW0.out).mono ?_); rintro e w4 ⟨rfl, hx⟩; have HW4 := Aside0.mk (below_alloc (below_alloc (below_step HW0.out hx) (.cells #[.int .i64 ((u : Int) + 1), .int .i64 (v : Int), .int .i64 iK] 29)) (.cells #[.int .u8 93] 5)); have HI4 := Aside0.mk (blk_alloc (blk_alloc (blk_below HI0.out hx) (.cells #[.int .i64 ((u : Int) + 1), .int .i64 (v : Int), .int .i64 iK] 29)) (.cells #[.int .u8 93] 5)); have BN4 := Aside0.mk (blk_alloc (blk_new w4 (.cells #[.int .i64 ((u : Int) + 1), .int .i64 (v : Int), .int .i64 iK] 29)) (.cells #[.int .u8 93] 5)); clear hx; have kc2 := Kd.C_string (P := Tryd.prog) (c := 1) Tryd.underlying22 Tryd.underlying5 Tryd.underlying9 (show Kd.C (Kd.int .u8) ((w4.alloc (.cells #[.int .i64 ((u : Int) + 1), .int .i64 (v : Int), .int .i64 iK] 29)).alloc (.cells #[.int .u8 93] 5)) (some ⟨w4.heap.size + 1, 0, none⟩) 1 [93] from (by have h := u8_C (xs := [93]) (fr := (0, 0)) (blk_new (w4.alloc (.cells #[.int .i64 ((u : Int) + 1), .int .i64 (v : Int), .int .i64 iK] 29)) (.cells #[.int .u8 93] 5)) (by decide); rw [World.size_alloc] at h; exact h)))
     | (go_at_call 10; (with_reducible refine (HS2.out _ HW4.out).mono ?_); rintro e w5 ⟨rfl, hx⟩; have HW5 := Aside0.mk (below_alloc (below_step HW4.out hx) (.cells #[.int .i64 aF, .int .i64 aT, .int .i64 aK] 29)); have HI5 := Aside0.mk (blk_alloc (blk_below HI4.out hx) (.cells #[.int .i64 aF, .int .i64 aT, .int .i64 aK] 29)); have BN5 := Aside0.mk (blk_new w5 (.cells #[.int .i64 aF, .int .i64 aT, .int .i64 aK] 29)); have BM5 := Aside0.mk (blk_alloc (blk_below BN4.out hx) (.cells #[.int .i64 aF, .int .i64 aT, .int .i64 aK] 29)); clear hx; have x0 := (blk_cell BM5.out 0).trans rfl; have x1 := (blk_cell BM5.out 1).trans rfl; have x2 := (blk_cell BM5.out 2).trans rfl)
     | (go_at_call 13; (with_reducible refine (HL1.out _ HW5.out).mono ?_); rintro e w6 ⟨rfl, hx⟩; have HW6 := Aside0.mk (below_step HW5.out hx); have HI6 := Aside0.mk (blk_below HI5.out hx); have BN6 := Aside0.mk (blk_below BN5.out hx); have BM6 := Aside0.mk (blk_below BM5.out hx); clear hx; have y0 := (blk_cell BN6.out 0).trans rfl; have y1 := (blk_cell BN6.out 1).trans rfl; have y2 := (blk_cell BN6.out 2).trans rfl)
     | (go_at_call 13; (with_reducible refine (HL2.out _ HW6.out).mono ?_); rintro e w7 ⟨rfl, hx⟩; have HW7 := Aside0.mk (below_step HW6.out hx); have HI7 := Aside0.mk (blk_below HI6.out hx); have BN7 := Aside0.mk (blk_below BN6.out hx); have BM7 := Aside0.mk (blk_below BM6.out hx); clear hx; have z0 := (blk_cell BM7.out 0).trans rfl; have z1 := (blk_cell BM7.out 1).trans rfl; have v0 := (blk_cell BN7.out 0).trans rfl; have v1 := (blk_cell BN7.out 1).trans rfl; have hcu := pw_cell_below HW7.out HCU.out.1; have hcv := pw_cell_below HW7.out HCU.out.2))
    go_quiet ((go_at_call 14; (with_reducible refine (HAB.out _).mono ?_); rintro e w' ⟨rfl, ⟨⟨nd, rfl⟩⟩⟩; first | exact ⟨rfl, _, World.drewN_drewN _ _ _⟩ | exact ⟨rfl, _, rfl⟩))
    go_wp2
    go_roundw
    case rel => exact ⟨11, by decide, (blk_drewN HI7.out nq), (pw_below_drewN HW7.out nq)⟩
    case measure =>
     have hm2 := HI7.out
     rw [HM.out, show World.iterPos _ w3.heap.size = 11 from by simp [World.iterPos, hm2]]
     decide
   ·as_aux_lemma =>
    clear hrest
    go_wp2_with (first
     | (go_at_call 10; (with_reducible refine (HS1.out _ HW0.out).mono ?_); rintro e w4 ⟨rfl, hx⟩; have HW4 := Aside0.mk (below_alloc (below_alloc (below_step HW0.out hx) (.cells #[.int .i64 iF, .int .i64 iT, .int .i64 iK] 29)) (.cells #[.int .u8 93] 5)); have HI4 := Aside0.mk (blk_alloc (blk_alloc (blk_below HI0.out hx) (.cells #[.int .i64 iF, .int .i64 iT, .int .i64 iK] 29)) (.cells #[.int .u8 93] 5)); have BN4 := Aside0.mk (blk_alloc (blk_new w4 (.cells #[.int .i64 iF, .int .i64 iT, .int .i64 iK] 29)) (.cells #[.int .u8 93] 5)); clear hx; have kc2 := Kd.C_string (P := Tryd.prog) (c := 1) Tryd.underlying22 Tryd.underlying5 Tryd.underlying9 (show Kd.C (Kd.int .u8) ((w4.alloc (.cells #[.int .i64 iF, .int .i64 iT, .int .i64 iK] 29)).alloc (.cells #[.int .u8 93] 5)) (some ⟨w4.heap.size + 1, 0, none⟩) 1 [93] from (by have h := u8_C (xs := [93]) (fr := (0, 0)) (blk_new (w4.alloc (.cells #[.int .i64 iF, .int .i64 iT, .int .i64 iK] 29)) (.cells #[.int .u8 93] 5)) (by decide); rw [World.size_alloc] at h; exact h)))
     | (go_at_call 10; (with_reducible refine (HS2.out _ HW4.out).mono ?_); rintro e w5 ⟨rfl, hx⟩; have HW5 := Aside0.mk (below_alloc (below_step HW4.out hx) (.cells #[.int .i64 aF, .int .i64 aT, .int .i64 aK] 29)); have HI5 := Aside0.mk (blk_alloc (blk_below HI4.out hx) (.cells #[.int .i64 aF, .int .i64 aT, .int .i64 aK] 29)); have BN5 := Aside0.mk (blk_new w5 (.cells #[.int .i64 aF, .int .i64 aT, .int .i64 aK] 29)); have BM5 := Aside0.mk (blk_alloc (blk_below BN4.out hx) (.cells #[.int .i64 aF, .int .i64 aT, .int .i64 aK] 29)); clear hx; have x0 := (blk_cell BM5.out 0).trans rfl; have x1 := (blk_cell BM5.out 1).trans rfl; have x2 := (blk_cell BM5.out 2).trans rfl)
     | (go_at_call 13; (with_reducible refine (HL1.out _ HW5.out).mono ?_); rintro e w6 ⟨rfl, hx⟩; have HW6 := Aside0.mk (below_step HW5.out hx); have HI6 := Aside0.mk (blk_below HI5.out hx); have BN6 := Aside0.mk (blk_below BN5.out hx); have BM6 := Aside0.mk (blk_below BM5.out hx); clear hx; have y0 := (blk_cell BN6.out 0).trans rfl; have y1 := (blk_cell BN6.out 1).trans rfl; have y2 := (blk_cell BN6.out 2).trans rfl)
     | (go_at_call 13; (with_reducible refine (HL2.out _ HW6.out).mono ?_); rintro e w7 ⟨rfl, hx⟩; have HW7 := Aside0.mk (below_step HW6.out hx); have HI7 := Aside0.mk (blk_below HI6.out hx); have BN7 := Aside0.mk (blk_below BN6.out hx); have BM7 := Aside0.mk (blk_below BM6.out hx); clear hx))
    go_roundw
    case rel => exact ⟨11, by decide, HI7.out, HW7.out⟩
    case measure =>
     have hm2 := HI7.out
     rw [HM.out, show World.iterPos _ w3.heap.size = 11 from by simp [World.iterPos, hm2]]
     decide
  ·as_aux_lemma =>
   have hnext : ∀ ty, (Instr.next (.pointer (some ⟨w3.heap.size, 0, none⟩)) true ty).run Tryd.prog wr = .ok (.tuple #[.bool true, .int .i64 11, .int .i32 123]) (wr.iterAt w3.heap.size ({ data := #[119, 87, 112, 34, 39, 96, 40, 41, 98, 91, 93, 123, 125, 66] } : ByteArray) 12) := fun ty => Lib.run_next_ascii_at wr w3.heap.size ({ data := #[119, 87, 112, 34, 39, 96, 40, 41, 98, 91, 93, 123, 125, 66] } : ByteArray) 11 ty hk (by decide) (by decide)
   have hk1 := Lib.iterAt_heap wr w3.heap.size ({ data := #[119, 87, 112, 34, 39, 96, 40, 41, 98, 91, 93, 123, 125, 66] } : ByteArray) 11 12 hk
   have hn1 : Below w.heap.size w (wr.iterAt w3.heap.size ({ data := #[119, 87, 112, 34, 39, 96, 40, 41, 98, 91, 93, 123, 125, 66] } : ByteArray) 12) := Lib.below_iterAt hnx hw3 ({ data := #[119, 87, 112, 34, 39, 96, 40, 41, 98, 91, 93, 123, 125, 66] } : ByteArray) 12
   have hmu : wr.iterPos w3.heap.size = 11 := by simp [World.iterPos, hk]
   generalize wr.iterAt w3.heap.size ({ data := #[119, 87, 112, 34, 39, 96, 40, 41, 98, 91, 93, 123, 125, 66] } : ByteArray) 12 = W1 at hnext hk1 hn1
   have HM := Aside0.mk hmu
   clear hmu hk hnx
   have HW0 := Aside0.mk (below_alloc hn1 (.cells #[.int .u8 123] 5))
   have HI0 := Aside0.mk (blk_alloc hk1 (.cells #[.int .u8 123] 5))
   have kc1 := Kd.C_string (P := Tryd.prog) (c := 1) Tryd.underlying22 Tryd.underlying5 Tryd.underlying9 (show Kd.C (Kd.int .u8) (W1.alloc (.cells #[.int .u8 123] 5)) (some ⟨W1.heap.size, 0, none⟩) 1 [123] from u8_C (xs := [123]) (fr := (0, 0)) (blk_new W1 (.cells #[.int .u8 123] 5)) (by decide))
   clear hk1 hn1
   obtain ⟨⟨iF, iT, iK, iE⟩, ⟨aF, aT, aK, aE⟩, hI, hA, hLI, hLA, hiE, haE, hrest⟩ := held_b hu hl0 hpl (c := c) (by omega) (ki := ({ data := #[105] } ++ strOfNums [123] : ByteArray)) (ka := ({ data := #[97] } ++ strOfNums [123] : ByteArray)) (x := 123) ⟨by decide +kernel, by decide +kernel, by decide +kernel, by decide +kernel, by decide +kernel, by decide +kernel⟩ key_123 (Ev.of (quoinlaw13_about.mono _ _ _) (k := 9) (by decide +kernel))
   simp only at hI hA hLI hLA hiE haE hrest
   have HS1 := Aside0.mk (fun (W : World) (h : Below w.heap.size w W) => sel_calls hc0 hI W (Kd.C_below HC0.out h))
   have HS2 := Aside0.mk (fun (W : World) (h : Below w.heap.size w W) => sel_calls hc0 hA W (Kd.C_below HC0.out h))
   have HL1 := Aside0.mk (fun (W : World) (h : Below w.heap.size w W) => lies_calls hc0 hLI W (Kd.C_below HC0.out h))
   have HL2 := Aside0.mk (fun (W : World) (h : Below w.heap.size w W) => lies_calls hc0 hLA W (Kd.C_below HC0.out h))
   clear hI hA hLI hLA
   have hee := (hrest (by decide) (by decide)).1 (by decide)
   have hrest := (hrest (by decide) (by decide)).2
   subst hee
   rcases hiE with rfl | rfl
   ·as_aux_lemma =>
    obtain ⟨h1, h2, h3⟩ := hrest rfl rfl
    obtain ⟨u, v, rfl, rfl, hul, hvl, hab⟩ := h3 (by decide)
    clear hrest h3
    obtain ⟨ad, rfl, hcu⟩ := byte_at HC0.out hul
    obtain ⟨ad_, ea, hcv⟩ := byte_at HC0.out hvl
    obtain rfl := Option.some.inj ea
    generalize rd l0 (u : Int) = bu at hab hcu
    generalize rd l0 (v : Int) = bv at hab hcv
    have HCU := Aside0.mk (And.intro hcu hcv)
    clear hcu hcv
    have HAB := Aside0.mk (fun W => about_calls hab W)
    clear hab
    have g1 : ((u : Int) + 1 < aF) = False := eq_false (by omega)
    have g2 : ((v : Int) > aT) = False := eq_false (by omega)
    have g3 : ((u : Int) + 1 < 1) = False := eq_false (by omega)
    have g4 : ((v : Int) ≥ (l0.length : Int)) = False := eq_false (by omega)
    have g5 : (0 ≤ (u : Int)) = True := eq_true (by omega)
    have g6 : ((u : Int) < (l0.length : Int)) = True := eq_true (by omega)
    have g7 : (0 ≤ (v : Int)) = True := eq_true (by omega)
    have g8 : ((v : Int) < (l0.length : Int)) = True := eq_true (by omega)
    go_wp2_with (first
     | (go_at_call 10; (with_reducible refine (HS1.out _ HW0.out).mono ?_); rintro e w4 ⟨rfl, hx⟩; have HW4 := Aside0.mk (below_alloc (below_alloc (below_step HW0.out hx) (.cells #[.int .i64 ((u : Int) + 1), .int .i64 (v : Int), .int .i64 iK] 29)) (.cells #[.int .u8 123] 5)); have HI4 := Aside0.mk (blk_alloc (blk_alloc (blk_below HI0.out hx) (.cells #[.int .i64 ((u : Int) + 1), .int .i64 (v : Int), .int .i64 iK] 29)) (.cells #[.int .u8 123] 5)); have BN4 := Aside0.mk (blk_alloc (blk_new w4 (.cells #[.int .i64 ((u : Int) + 1), .int .i64 (v : Int), .int .i64 iK] 29)) (.cells #[.int .u8 123] 5)); clear hx; have kc2 := Kd.C_string (P := Tryd.prog) (c := 1) Tryd.underlying22 Tryd.underlying5 Tryd.underlying9 (show Kd.C (Kd.int .u8) ((w4.alloc (.cells #[.int .i64 ((u : Int) + 1), .int .i64 (v : Int), .int .i64 iK] 29)).alloc (.cells #[.int .u8 123] 5)) (some ⟨w4.heap.size + 1, 0, none⟩) 1 [123] from (by have h := u8_C (xs := [123]) (fr := (0, 0)) (blk_new (w4.alloc (.cells #[.int .i64 ((u : Int) + 1), .int .i64 (v : Int), .int .i64 iK] 29)) (.cells #[.int .u8 123] 5)) (by decide); rw [World.size_alloc] at h; exact h)))
     | (go_at_call 10; (with_reducible refine (HS2.out _ HW4.out).mono ?_); rintro e w5 ⟨rfl, hx⟩; have HW5 := Aside0.mk (below_alloc (below_step HW4.out hx) (.cells #[.int .i64 aF, .int .i64 aT, .int .i64 aK] 29)); have HI5 := Aside0.mk (blk_alloc (blk_below HI4.out hx) (.cells #[.int .i64 aF, .int .i64 aT, .int .i64 aK] 29)); have BN5 := Aside0.mk (blk_new w5 (.cells #[.int .i64 aF, .int .i64 aT, .int .i64 aK] 29)); have BM5 := Aside0.mk (blk_alloc (blk_below BN4.out hx) (.cells #[.int .i64 aF, .int .i64 aT, .int .i64 aK] 29)); clear hx; have x0 := (blk_cell BM5.out 0).trans rfl; have x1 := (blk_cell BM5.out 1).trans rfl; have x2 := (blk_cell BM5.out 2).trans rfl)
     | (go_at_call 13; (with_reducible refine (HL1.out _ HW5.out).mono ?_); rintro e w6 ⟨rfl, hx⟩; have HW6 := Aside0.mk (below_step HW5.out hx); have HI6 := Aside0.mk (blk_below HI5.out hx); have BN6 := Aside0.mk (blk_below BN5.out hx); have BM6 := Aside0.mk (blk_below BM5.out hx); clear hx; have y0 := (blk_cell BN6.out 0).trans rfl; have y1 := (blk_cell BN6.out 1).trans rfl; have y2 := (blk_cell BN6.out 2).trans rfl)
     | (go_at_call 13; (with_reducible refine (HL2.out _ HW6.out).mono ?_); rintro e w7 ⟨rfl, hx⟩; have HW7 := Aside0.mk (below_step HW6.out hx); have HI7 := Aside0.mk (blk_below HI6.out hx); have BN7 := Aside0.mk (blk_below BN6.out hx); have BM7 := Aside0.mk (blk_below BM6.out hx); clear hx; have z0 := (blk_cell BM7.out 0).trans rfl; have z1 := (blk_cell BM7.out 1).trans rfl; have v0 := (blk_cell BN7.out 0).trans rfl; have v1 := (blk_cell BN7.out 1).trans rfl; have hcu := pw_cell_below HW7.out HCU.out.1; have hcv := pw_cell_below HW7.out HCU.out.2))
    go_quiet ((go_at_call 14; (with_reducible refine (HAB.out _).mono ?_); rintro e w' ⟨rfl, ⟨⟨nd, rfl⟩⟩⟩; first | exact ⟨rfl, _, World.drewN_drewN _ _ _⟩ | exact ⟨rfl, _, rfl⟩))
    go_wp2
    go_roundw
    case rel => exact ⟨12, by decide, (blk_drewN HI7.out nq), (pw_below_drewN HW7.out nq)⟩
    case measure =>
     have hm2 := HI7.out
     rw [HM.out, show World.iterPos _ w3.heap.size = 12 from by simp [World.iterPos, hm2]]
     decide
   ·as_aux_lemma =>
    clear hrest
    go_wp2_with (first
     | (go_at_call 10; (with_reducible refine (HS1.out _ HW0.out).mono ?_); rintro e w4 ⟨rfl, hx⟩; have HW4 := Aside0.mk (below_alloc (below_alloc (below_step HW0.out hx) (.cells #[.int .i64 iF, .int .i64 iT, .int .i64 iK] 29)) (.cells #[.int .u8 123] 5)); have HI4 := Aside0.mk (blk_alloc (blk_alloc (blk_below HI0.out hx) (.cells #[.int .i64 iF, .int .i64 iT, .int .i64 iK] 29)) (.cells #[.int .u8 123] 5)); have BN4 := Aside0.mk (blk_alloc (blk_new w4 (.cells #[.int .i64 iF, .int .i64 iT, .int .i64 iK] 29)) (.cells #[.int .u8 123] 5)); clear hx; have kc2 := Kd.C_string (P := Tryd.prog) (c := 1) Tryd.underlying22 Tryd.underlying5 Tryd.underlying9 (show Kd.C (Kd.int .u8) ((w4.alloc (.cells #[.int .i64 iF, .int .i64 iT, .int .i64 iK] 29)).alloc (.cells #[.int .u8 123] 5)) (some ⟨w4.heap.size + 1, 0, none⟩) 1 [123] from (by have h := u8_C (xs := [123]) (fr := (0, 0)) (blk_new (w4.alloc (.cells #[.int .i64 iF, .int .i64 iT, .int .i64 iK] 29)) (.cells #[.int .u8 123] 5)) (by decide); rw [World.size_alloc] at h; exact h)))
     | (go_at_call 10; (with_reducible refine (HS2.out _ HW4.out).mono ?_); rintro e w5 ⟨rfl, hx⟩; have HW5 := Aside0.mk (below_alloc (below_step HW4.out hx) (.cells #[.int .i64 aF, .int .i64 aT, .int .i64 aK] 29)); have HI5 := Aside0.mk (blk_alloc (blk_below HI4.out hx) (.cells #[.int .i64 aF, .int .i64 aT, .int .i64 aK] 29)); have BN5 := Aside0.mk (blk_new w5 (.cells #[.int .i64 aF, .int .i64 aT, .int .i64 aK] 29)); have BM5 := Aside0.mk (blk_alloc (blk_below BN4.out hx) (.cells #[.int .i64 aF, .int .i64 aT, .int .i64 aK] 29)); clear hx; have x0 := (blk_cell BM5.out 0).trans rfl; have x1 := (blk_cell BM5.out 1).trans rfl; have x2 := (blk_cell BM5.out 2).trans rfl)
     | (go_at_call 13; (with_reducible refine (HL1.out _ HW5.out).mono ?_); rintro e w6 ⟨rfl, hx⟩; have HW6 := Aside0.mk (below_step HW5.out hx); have HI6 := Aside0.mk (blk_below HI5.out hx); have BN6 := Aside0.mk (blk_below BN5.out hx); have BM6 := Aside0.mk (blk_below BM5.out hx); clear hx; have y0 := (blk_cell BN6.out 0).trans rfl; have y1 := (blk_cell BN6.out 1).trans rfl; have y2 := (blk_cell BN6.out 2).trans rfl)
     | (go_at_call 13; (with_reducible refine (HL2.out _ HW6.out).mono ?_); rintro e w7 ⟨rfl, hx⟩; have HW7 := Aside0.mk (below_step HW6.out hx); have HI7 := Aside0.mk (blk_below HI6.out hx); have BN7 := Aside0.mk (blk_below BN6.out hx); have BM7 := Aside0.mk (blk_below BM6.out hx); clear hx))
    go_roundw
    case rel => exact ⟨12, by decide, HI7.out, HW7.out⟩
    case measure =>
     have hm2 := HI7.out
     rw [HM.out, show World.iterPos _ w3.heap.size = 12 from by simp [World.iterPos, hm2]]
     decide
  ·as_aux_lemma =>
   have hnext : ∀ ty, (Instr.next (.pointer (some ⟨w3.heap.size, 0, none⟩)) true ty).run Tryd.prog wr = .ok (.tuple #[.bool true, .int .i64 12, .int .i32 125]) (wr.iterAt w3.heap.size ({ data := #[119, 87, 112, 34, 39, 96, 40, 41, 98, 91, 93, 123, 125, 66] } : ByteArray) 13) := fun ty => Lib.run_next_ascii_at wr w3.heap.size ({ data := #[119, 87, 112, 34, 39, 96, 40, 41, 98, 91, 93, 123, 125, 66] } : ByteArray) 12 ty hk (by decide) (by decide)
   have hk1 := Lib.iterAt_heap wr w3.heap.size ({ data := #[119, 87, 112, 34, 39, 96, 40, 41, 98, 91, 93, 123, 125, 66] } : ByteArray) 12 13 hk
   have hn1 : Below w.heap.size w (wr.iterAt w3.heap.size ({ data := #[119, 87, 112, 34, 39, 96, 40, 41, 98, 91, 93, 123, 125, 66] } : ByteArray) 13) := Lib.below_iterAt hnx hw3 ({ data := #[119, 87, 112, 34, 39, 96, 40, 41, 98, 91, 93, 123, 125, 66] } : ByteArray) 13
   have hmu : wr.iterPos w3.heap.size = 12 := by simp [World.iterPos, hk]
   generalize wr.iterAt w3.heap.size ({ data := #[119, 87, 112, 34, 39, 96, 40, 41, 98, 91, 93, 123, 125, 66] } : ByteArray) 13 = W1 at hnext hk1 hn1
   have HM := Aside0.mk hmu
   clear hmu hk hnx
   have HW0 := Aside0.mk (below_alloc hn1 (.cells #[.int .u8 125] 5))
   have HI0 := Aside0.mk (blk_alloc hk1 (.cells #[.int .u8 125] 5))
   have kc1 := Kd.C_string (P := Tryd.prog) (c := 1) Tryd.underlying22 Tryd.underlying5 Tryd.underlying9 (show Kd.C (Kd.int .u8) (W1.alloc (.cells #[.int .u8 125] 5)) (some ⟨W1.heap.size, 0, none⟩) 1 [125] from u8_C (xs := [125]) (fr := (0, 0)) (blk_new W1 (.cells #[.int .u8 125] 5)) (by decide))
   clear hk1 hn1
   obtain ⟨⟨iF, iT, iK, iE⟩, ⟨aF, aT, aK, aE⟩, hI, hA, hLI, hLA, hiE, haE, hrest⟩ := held_b hu hl0 hpl (c := c) (by omega) (ki := ({ data := #[105] } ++ strOfNums [125] : ByteArray)) (ka := ({ data := #[97] } ++ strOfNums [125] : ByteArray)) (x := 125) ⟨by decide +kernel, by decide +kernel, by decide +kernel, by decide +kernel, by decide +kernel, by decide +kernel⟩ key_125 (Ev.of (quoinlaw13_about.mono _ _ _) (k := 9) (by decide +kernel))
   simp only at hI hA hLI hLA hiE haE hrest
   have HS1 := Aside0.mk (fun (W : World) (h : Below w.heap.size w W) => sel_calls hc0 hI W (Kd.C_below HC0.out h))
   have HS2 := Aside0.mk (fun (W : World) (h : Below w.heap.size w W) => sel_calls hc0 hA W (Kd.C_below HC0.out h))
   have HL1 := Aside0.mk (fun (W : World) (h : Below w.heap.size w W) => lies_calls hc0 hLI W (Kd.C_below HC0.out h))
   have HL2 := Aside0.mk (fun (W : World) (h : Below w.heap.size w W) => lies_calls hc0 hLA W (Kd.C_below HC0.out h))
   clear hI hA hLI hLA
   have hee := (hrest (by decide) (by decide)).1 (by decide)
   have hrest := (hrest (by decide) (by decide)).2
   subst hee
   rcases hiE with rfl | rfl
   ·as_aux_lemma =>
    obtain ⟨h1, h2, h3⟩ := hrest rfl rfl
    obtain ⟨u, v, rfl, rfl, hul, hvl, hab⟩ := h3 (by decide)
    clear hrest h3
    obtain ⟨ad, rfl, hcu⟩ := byte_at HC0.out hul
    obtain ⟨ad_, ea, hcv⟩ := byte_at HC0.out hvl
    obtain rfl := Option.some.inj ea
    generalize rd l0 (u : Int) = bu at hab hcu
    generalize rd l0 (v : Int) = bv at hab hcv
    have HCU := Aside0.mk (And.intro hcu hcv)
    clear hcu hcv
    have HAB := Aside0.mk (fun W => about_calls hab W)
    clear hab
    have g1 : ((u : Int) + 1 < aF) = False := eq_false (by omega)
    have g2 : ((v : Int) > aT) = False := eq_false (by omega)
    have g3 : ((u : Int) + 1 < 1) = False := eq_false (by omega)
    have g4 : ((v : Int) ≥ (l0.length : Int)) = False := eq_false (by omega)
    have g5 : (0 ≤ (u : Int)) = True := eq_true (by omega)
    have g6 : ((u : Int) < (l0.length : Int)) = True := eq_true (by omega)
    have g7 : (0 ≤ (v : Int)) = True := eq_true (by omega)
    have g8 : ((v : Int) < (l0.length : Int)) = True := eq_true (by omega)
    go_wp2_with (first
     | (go_at_call 10; (with_reducible refine (HS1.out _ HW0.out).mono ?_); rintro e w4 ⟨rfl, hx⟩; have HW4 := Aside0.mk (below_alloc (below_alloc (below_step HW0.out hx) (.cells #[.int .i64 ((u : Int) + 1), .int .i64 (v : Int), .int .i64 iK] 29)) (.cells #[.int .u8 125] 5)); have HI4 := Aside0.mk (blk_alloc (blk_alloc (blk_below HI0.out hx) (.cells #[.int .i64 ((u : Int) + 1), .int .i64 (v : Int), .int .i64 iK] 29)) (.cells #[.int .u8 125] 5)); have BN4 := Aside0.mk (blk_alloc (blk_new w4 (.cells #[.int .i64 ((u : Int) + 1), .int .i64 (v : Int), .int .i64 iK] 29)) (.cells #[.int .u8 125] 5)); clear hx; have kc2 := Kd.C_string (P := Tryd.prog) (c := 1) Tryd.underlying22 Tryd.underlying5 Tryd.underlying9 (show Kd.C (Kd.int .u8) ((w4.alloc (.cells #[.int .i64 ((u : Int) + 1), .int .i64 (v : Int), .int .i64 iK] 29)).alloc (.cells #[.int .u8 125] 5)) (some ⟨w4.heap.size + 1, 0, none⟩) 1 [125] from (by have h := u8_C (xs := [125]) (fr := (0, 0)) (blk_new (w4.alloc (.cells #[.int .i64 ((u : Int) + 1), .int .i64 (v : Int), .int .i64 iK] 29)) (.cells #[.int .u8 125] 5)) (by decide); rw [World.size_alloc] at h; exact h)))
     | (go_at_call 10; (with_reducible refine (HS2.out _ HW4.out).mono ?_); rintro e w5 ⟨rfl, hx⟩; have HW5 := Aside0.mk (below_alloc (below_step HW4.out hx) (.cells #[.int .i64 aF, .int .i64 aT, .int .i64 aK] 29)); have HI5 := Aside0.mk (blk_alloc (blk_below HI4.out hx) (.cells #[.int .i64 aF, .int .i64 aT, .int .i64 aK] 29)); have BN5 := Aside0.mk (blk_new w5 (.cells #[.int .i64 aF, .int .i64 aT, .int .i64 aK] 29)); have BM5 := Aside0.mk (blk_alloc (blk_below BN4.out hx) (.cells #[.int .i64 aF, .int .i64 aT, .int .i64 aK] 29)); clear hx; have x0 := (blk_cell BM5.out 0).trans rfl; have x1 := (blk_cell BM5.out 1).trans rfl; have x2 := (blk_cell BM5.out 2).trans rfl)
     | (go_at_call 13; (with_reducible refine (HL1.out _ HW5.out).mono ?_); rintro e w6 ⟨rfl, hx⟩; have HW6 := Aside0.mk (below_step HW5.out hx); have HI6 := Aside0.mk (blk_below HI5.out hx); have BN6 := Aside0.mk (blk_below BN5.out hx); have BM6 := Aside0.mk (blk_below BM5.out hx); clear hx; have y0 := (blk_cell BN6.out 0).trans rfl; have y1 := (blk_cell BN6.out 1).trans rfl; have y2 := (blk_cell BN6.out 2).trans rfl)
     | (go_at_call 13; (with_reducible refine (HL2.out _ HW6.out).mono ?_); rintro e w7 ⟨rfl, hx⟩; have HW7 := Aside0.mk (below_step HW6.out hx); have HI7 := Aside0.mk (blk_below HI6.out hx); have BN7 := Aside0.mk (blk_below BN6.out hx); have BM7 := Aside0.mk (blk_below BM6.out hx); clear hx; have z0 := (blk_cell BM7.out 0).trans rfl; have z1 := (blk_cell BM7.out 1).trans rfl; have v0 := (blk_cell BN7.out 0).trans rfl; have v1 := (blk_cell BN7.out 1).trans rfl; have hcu := pw_cell_below HW7.out HCU.out.1; have hcv := pw_cell_below HW7.out HCU.out.2))
    go_quiet ((go_at_call 14; (with_reducible refine (HAB.out _).mono ?_); rintro e w' ⟨rfl, ⟨⟨nd, rfl⟩⟩⟩; first | exact ⟨rfl, _, World.drewN_drewN _ _ _⟩ | exact ⟨rfl, _, rfl⟩))
    go_wp2
    go_roundw
    case rel => exact ⟨13, by decide, (blk_drewN HI7.out nq), (pw_below_drewN HW7.out nq)⟩
    case measure =>
     have hm2 := HI7.out
     rw [HM.out, show World.iterPos _ w3.heap.size = 13 from by simp [World.iterPos, hm2]]
     decide
   ·as_aux_lemma =>
    clear hrest
    go_wp2_with (first
     | (go_at_call 10; (with_reducible refine (HS1.out _ HW0.out).mono ?_); rintro e w4 ⟨rfl, hx⟩; have HW4 := Aside0.mk (below_alloc (below_alloc (below_step HW0.out hx) (.cells #[.int .i64 iF, .int .i64 iT, .int .i64 iK] 29)) (.cells #[.int .u8 125] 5)); have HI4 := Aside0.mk (blk_alloc (blk_alloc (blk_below HI0.out hx) (.cells #[.int .i64 iF, .int .i64 iT, .int .i64 iK] 29)) (.cells #[.int .u8 125] 5)); have BN4 := Aside0.mk (blk_alloc (blk_new w4 (.cells #[.int .i64 iF, .int .i64 iT, .int .i64 iK] 29)) (.cells #[.int .u8 125] 5)); clear hx; have kc2 := Kd.C_string (P := Tryd.prog) (c := 1) Tryd.underlying22 Tryd.underlying5 Tryd.underlying9 (show Kd.C (Kd.int .u8) ((w4.alloc (.cells #[.int .i64 iF, .int .i64 iT, .int .i64 iK] 29)).alloc (.cells #[.int .u8 125] 5)) (some ⟨w4.heap.size + 1, 0, none⟩) 1 [125] from (by have h := u8_C (xs := [125]) (fr := (0, 0)) (blk_new (w4.alloc (.cells #[.int .i64 iF, .int .i64 iT, .int .i64 iK] 29)) (.cells #[.int .u8 125] 5)) (by decide); rw [World.size_alloc] at h; exact h)))
     | (go_at_call 10; (with_reducible refine (HS2.out _ HW4.out).mono ?_); rintro e w5 ⟨rfl, hx⟩; have HW5 := Aside0.mk (below_alloc (below_step HW4.out hx) (.cells #[.int .i64 aF, .int .i64 aT, .int .i64 aK] 29)); have HI5 := Aside0.mk (blk_alloc (blk_below HI4.out hx) (.cells #[.int .i64 aF, .int .i64 aT, .int .i64 aK] 29)); have BN5 := Aside0.mk (blk_new w5 (.cells #[.int .i64 aF, .int .i64 aT, .int .i64 aK] 29)); have BM5 := Aside0.mk (blk_alloc (blk_below BN4.out hx) (.cells #[.int .i64 aF, .int .i64 aT, .int .i64 aK] 29)); clear hx; have x0 := (blk_cell BM5.out 0).trans rfl; have x1 := (blk_cell BM5.out 1).trans rfl; have x2 := (blk_cell BM5.out 2).trans rfl)
     | (go_at_call 13; (with_reducible refine (HL1.out _ HW5.out).mono ?_); rintro e w6 ⟨rfl, hx⟩; have HW6 := Aside0.mk (below_step HW5.out hx); have HI6 := Aside0.mk (blk_below HI5.out hx); have BN6 := Aside0.mk (blk_below BN5.out hx); have BM6 := Aside0.mk (blk_below BM5.out hx); clear hx; have y0 := (blk_cell BN6.out 0).trans rfl; have y1 := (blk_cell BN6.out 1).trans rfl; have y2 := (blk_cell BN6.out 2).trans rfl)
     | (go_at_call 13; (with_reducible refine (HL2.out _ HW6.out).mono ?_); rintro e w7 ⟨rfl, hx⟩; have HW7 := Aside0.mk (below_step HW6.out hx); have HI7 := Aside0.mk (blk_below HI6.out hx); have BN7 := Aside0.mk (blk_below BN6.out hx); have BM7 := Aside0.mk (blk_below BM6.out hx); clear hx))
    go_roundw
    case rel => exact ⟨13, by decide, HI7.out, HW7.out⟩
    case measure =>
     have hm2 := HI7.out
     rw [HM.out, show World.iterPos _ w3.heap.size = 13 from by simp [World.iterPos, hm2]]
     decide
  ·as_aux_lemma =>
   have hnext : ∀ ty, (Instr.next (.pointer (some ⟨w3.heap.size, 0, none⟩)) true ty).run Tryd.prog wr = .ok (.tuple #[.bool true, .int .i64 13, .int .i32 66]) (wr.iterAt w3.heap.size ({ data := #[119, 87, 112, 34, 39, 96, 40, 41, 98, 91, 93, 123, 125, 66] } : ByteArray) 14) := fun ty => Lib.run_next_ascii_at wr w3.heap.size ({ data := #[119, 87, 112, 34, 39, 96, 40, 41, 98, 91, 93, 123, 125, 66] } : ByteArray) 13 ty hk (by decide) (by decide)
   have hk1 := Lib.iterAt_heap wr w3.heap.size ({ data := #[119, 87, 112, 34, 39, 96, 40, 41, 98, 91, 93, 123, 125, 66] } : ByteArray) 13 14 hk
   have hn1 : Below w.heap.size w (wr.iterAt w3.heap.size ({ data := #[119, 87, 112, 34, 39, 96, 40, 41, 98, 91, 93, 123, 125, 66] } : ByteArray) 14) := Lib.below_iterAt hnx hw3 ({ data := #[119, 87, 112, 34, 39, 96, 40, 41, 98, 91, 93, 123, 125, 66] } : ByteArray) 14
   have hmu : wr.iterPos w3.heap.size = 13 := by simp [World.iterPos, hk]
   generalize wr.iterAt w3.heap.size ({ data := #[119, 87, 112, 34, 39, 96, 40, 41, 98, 91, 93, 123, 125, 66] } : ByteArray) 14 = W1 at hnext hk1 hn1
   have HM := Aside0.mk hmu
   clear hmu hk hnx
   have HW0 := Aside0.mk (below_alloc hn1 (.cells #[.int .u8 66] 5))
   have HI0 := Aside0.mk (blk_alloc hk1 (.cells #[.int .u8 66] 5))
   have kc1 := Kd.C_string (P := Tryd.prog) (c := 1) Tryd.underlying22 Tryd.underlying5 Tryd.underlying9 (show Kd.C (Kd.int .u8) (W1.alloc (.cells #[.int .u8 66] 5)) (some ⟨W1.heap.size, 0, none⟩) 1 [66] from u8_C (xs := [66]) (fr := (0, 0)) (blk_new W1 (.cells #[.int .u8 66] 5)) (by decide))
   clear hk1 hn1
   obtain ⟨⟨iF, iT, iK, iE⟩, ⟨aF, aT, aK, aE⟩, hI, hA, hLI, hLA, hiE, haE, hrest⟩ := held_b hu hl0 hpl (c := c) (by omega) (ki := ({ data := #[105] } ++ strOfNums [66] : ByteArray)) (ka := ({ data := #[97] } ++ strOfNums [66] : ByteArray)) (x := 66) ⟨by decide +kernel, by decide +kernel, by decide +kernel, by decide +kernel, by decide +kernel, by decide +kernel⟩ key_66 (Ev.of (quoinlaw13_about.mono _ _ _) (k := 9) (by decide +kernel))
   simp only at hI hA hLI hLA hiE haE hrest
   have HS1 := Aside0.mk (fun (W : World) (h : Below w.heap.size w W) => sel_calls hc0 hI W (Kd.C_below HC0.out h))
   have HS2 := Aside0.mk (fun (W : World) (h : Below w.heap.size w W) => sel_calls hc0 hA W (Kd.C_below HC0.out h))
   have HL1 := Aside0.mk (fun (W : World) (h : Below w.heap.size w W) => lies_calls hc0 hLI W (Kd.C_below HC0.out h))
   have HL2 := Aside0.mk (fun (W : World) (h : Below w.heap.size w W) => lies_calls hc0 hLA W (Kd.C_below HC0.out h))
   clear hI hA hLI hLA
   have hee := (hrest (by decide) (by decide)).1 (by decide)
   have hrest := (hrest (by decide) (by decide)).2
   subst hee
   rcases hiE with rfl | rfl
   ·as_aux_lemma =>
    obtain ⟨h1, h2, h3⟩ := hrest rfl rfl
    obtain ⟨u, v, rfl, rfl, hul, hvl, hab⟩ := h3 (by decide)
    clear hrest h3
    obtain ⟨ad, rfl, hcu⟩ := byte_at HC0.out hul
    obtain ⟨ad_, ea, hcv⟩ := byte_at HC0.out hvl
    obtain rfl := Option.some.inj ea
    generalize rd l0 (u : Int) = bu at hab hcu
    generalize rd l0 (v : Int) = bv at hab hcv
    have HCU := Aside0.mk (And.intro hcu hcv)
    clear hcu hcv
    have HAB := Aside0.mk (fun W => about_calls hab W)
    clear hab
    have g1 : ((u : Int) + 1 < aF) = False := eq_false (by omega)
    have g2 : ((v : Int) > aT) = False := eq_false (by omega)
    have g3 : ((u : Int) + 1 < 1) = False := eq_false (by omega)
    have g4 : ((v : Int) ≥ (l0.length : Int)) = False := eq_false (by omega)
    have g5 : (0 ≤ (u : Int)) = True := eq_true (by omega)
    have g6 : ((u : Int) < (l0.length : Int)) = True := eq_true (by omega)
    have g7 : (0 ≤ (v : Int)) = True := eq_true (by omega)
    have g8 : ((v : Int) < (l0.length : Int)) = True := eq_true (by omega)
    go_wp2_with (first
     | (go_at_call 10; (with_reducible refine (HS1.out _ HW0.out).mono ?_); rintro e w4 ⟨rfl, hx⟩; have HW4 := Aside0.mk (below_alloc (below_alloc (below_step HW0.out hx) (.cells #[.int .i64 ((u : Int) + 1), .int .i64 (v : Int), .int .i64 iK] 29)) (.cells #[.int .u8 66] 5)); have HI4 := Aside0.mk (blk_alloc (blk_alloc (blk_below HI0.out hx) (.cells #[.int .i64 ((u : Int) + 1), .int .i64 (v : Int), .int .i64 iK] 29)) (.cells #[.int .u8 66] 5)); have BN4 := Aside0.mk (blk_alloc (blk_new w4 (.cells #[.int .i64 ((u : Int) + 1), .int .i64 (v : Int), .int .i64 iK] 29)) (.cells #[.int .u8 66] 5)); clear hx; have kc2 := Kd.C_string (P := Tryd.prog) (c := 1) Tryd.underlying22 Tryd.underlying5 Tryd.underlying9 (show Kd.C (Kd.int .u8) ((w4.alloc (.cells #[.int .i64 ((u : Int) + 1), .int .i64 (v : Int), .int .i64 iK] 29)).alloc (.cells #[.int .u8 66] 5)) (some ⟨w4.heap.size + 1, 0, none⟩) 1 [66] from (by have h := u8_C (xs := [66]) (fr := (0, 0)) (blk_new (w4.alloc (.cells #[.int .i64 ((u : Int) + 1), .int .i64 (v : Int), .int .i64 iK] 29)) (.cells #[.int .u8 66] 5)) (by decide); rw [World.size_alloc] at h; exact h)))
     | (go_at_call 10; (with_reducible refine (HS2.out _ HW4.out).mono ?_); rintro e w5 ⟨rfl, hx⟩; have HW5 := Aside0.mk (below_alloc (below_step HW4.out hx) (.cells #[.int .i64 aF, .int .i64 aT, .int .i64 aK] 29)); have HI5 := Aside0.mk (blk_alloc (blk_below HI4.out hx) (.cells #[.int .i64 aF, .int .i64 aT, .int .i64 aK] 29)); have BN5 := Aside0.mk (blk_new w5 (.cells #[.int .i64 aF, .int .i64 aT, .int .i64 aK] 29)); have BM5 := Aside0.mk (blk_alloc (blk_below BN4.out hx) (.cells #[.int .i64 aF, .int .i64 aT, .int .i64 aK] 29)); clear hx; have x0 := (blk_cell BM5.out 0).trans rfl; have x1 := (blk_cell BM5.out 1).trans rfl; have x2 := (blk_cell BM5.out 2).trans rfl)
     | (go_at_call 13; (with_reducible refine (HL1.out _ HW5.out).mono ?_); rintro e w6 ⟨rfl, hx⟩; have HW6 := Aside0.mk (below_step HW5.out hx); have HI6 := Aside0.mk (blk_below HI5.out hx); have BN6 := Aside0.mk (blk_below BN5.out hx); have BM6 := Aside0.mk (blk_below BM5.out hx); clear hx; have y0 := (blk_cell BN6.out 0).trans rfl; have y1 := (blk_cell BN6.out 1).trans rfl; have y2 := (blk_cell BN6.out 2).trans rfl)
     | (go_at_call 13; (with_reducible refine (HL2.out _ HW6.out).mono ?_); rintro e w7 ⟨rfl, hx⟩; have HW7 := Aside0.mk (below_step HW6.out hx); have HI7 := Aside0.mk (blk_below HI6.out hx); have BN7 := Aside0.mk (blk_below BN6.out hx); have BM7 := Aside0.mk (blk_below BM6.out hx); clear hx; have z0 := (blk_cell BM7.out 0).trans rfl; have z1 := (blk_cell BM7.out 1).trans rfl; have v0 := (blk_cell BN7.out 0).trans rfl; have v1 := (blk_cell BN7.out 1).trans rfl; have hcu := pw_cell_below HW7.out HCU.out.1; have hcv := pw_cell_below HW7.out HCU.out.2))
    go_quiet ((go_at_call 14; (with_reducible refine (HAB.out _).mono ?_); rintro e w' ⟨rfl, ⟨⟨nd, rfl⟩⟩⟩; first | exact ⟨rfl, _, World.drewN_drewN _ _ _⟩ | exact ⟨rfl, _, rfl⟩))
    go_wp2
    go_roundw
    case rel => exact ⟨14, by decide, (blk_drewN HI7.out nq), (pw_below_drewN HW7.out nq)⟩
    case measure =>
     have hm2 := HI7.out
     rw [HM.out, show World.iterPos _ w3.heap.size = 14 from by simp [World.iterPos, hm2]]
     decide
   ·as_aux_lemma =>
    clear hrest
    go_wp2_with (first
     | (go_at_call 10; (with_reducible refine (HS1.out _ HW0.out).mono ?_); rintro e w4 ⟨rfl, hx⟩; have HW4 := Aside0.mk (below_alloc (below_alloc (below_step HW0.out hx) (.cells #[.int .i64 iF, .int .i64 iT, .int .i64 iK] 29)) (.cells #[.int .u8 66] 5)); have HI4 := Aside0.mk (blk_alloc (blk_alloc (blk_below HI0.out hx) (.cells #[.int .i64 iF, .int .i64 iT, .int .i64 iK] 29)) (.cells #[.int .u8 66] 5)); have BN4 := Aside0.mk (blk_alloc (blk_new w4 (.cells #[.int .i64 iF, .int .i64 iT, .int .i64 iK] 29)) (.cells #[.int .u8 66] 5)); clear hx; have kc2 := Kd.C_string (P := Tryd.prog) (c := 1) Tryd.underlying22 Tryd.underlying5 Tryd.underlying9 (show Kd.C (Kd.int .u8) ((w4.alloc (.cells #[.int .i64 iF, .int .i64 iT, .int .i64 iK] 29)).alloc (.cells #[.int .u8 66] 5)) (some ⟨w4.heap.size + 1, 0, none⟩) 1 [66] from (by have h := u8_C (xs := [66]) (fr := (0, 0)) (blk_new (w4.alloc (.cells #[.int .i64 iF, .int .i64 iT, .int .i64 iK] 29)) (.cells #[.int .u8 66] 5)) (by decide); rw [World.size_alloc] at h; exact h)))
     | (go_at_call 10; (with_reducible refine (HS2.out _ HW4.out).mono ?_); rintro e w5 ⟨rfl, hx⟩; have HW5 := Aside0.mk (below_alloc (below_step HW4.out hx) (.cells #[.int .i64 aF, .int .i64 aT, .int .i64 aK] 29)); have HI5 := Aside0.mk (blk_alloc (blk_below HI4.out hx) (.cells #[.int .i64 aF, .int .i64 aT, .int .i64 aK] 29)); have BN5 := Aside0.mk (blk_new w5 (.cells #[.int .i64 aF, .int .i64 aT, .int .i64 aK] 29)); have BM5 := Aside0.mk (blk_alloc (blk_below BN4.out hx) (.cells #[.int .i64 aF, .int .i64 aT, .int .i64 aK] 29)); clear hx; have x0 := (blk_cell BM5.out 0).trans rfl; have x1 := (blk_cell BM5.out 1).trans rfl; have x2 := (blk_cell BM5.out 2).trans rfl)
     | (go_at_call 13; (with_reducible refine (HL1.out _ HW5.out).mono ?_); rintro e w6 ⟨rfl, hx⟩; have HW6 := Aside0.mk (below_step HW5.out hx); have HI6 := Aside0.mk (blk_below HI5.out hx); have BN6 := Aside0.mk (blk_below BN5.out hx); have BM6 := Aside0.mk (blk_below BM5.out hx); clear hx; have y0 := (blk_cell BN6.out 0).trans rfl; have y1 := (blk_cell BN6.out 1).trans rfl; have y2 := (blk_cell BN6.out 2).trans rfl)
     | (go_at_call 13; (with_reducible refine (HL2.out _ HW6.out).mono ?_); rintro e w7 ⟨rfl, hx⟩; have HW7 := Aside0.mk (below_step HW6.out hx); have HI7 := Aside0.mk (blk_below HI6.out hx); have BN7 := Aside0.mk (blk_below BN6.out hx); have BM7 := Aside0.mk (blk_below BM6.out hx); clear hx))
    go_roundw
    case rel => exact ⟨14, by decide, HI7.out, HW7.out⟩
    case measure =>
     have hm2 := HI7.out
     rw [HM.out, show World.iterPos _ w3.heap.size = 14 from by simp [World.iterPos, hm2]]
     decide
  ·skip
   have hnext : ∀ ty, (Instr.next (.pointer (some ⟨w3.heap.size, 0, none⟩)) true ty).run Tryd.prog wr = .ok (.tuple #[.bool false]) wr := fun ty => Lib.run_next_end_at wr w3.heap.size ({ data := #[119, 87, 112, 34, 39, 96, 40, 41, 98, 91, 93, 123, 125, 66] } : ByteArray) 14 ty hk (by decide)
   go_wp2
   exact bodyPost_ret (v := .bool true) (by simp [results, Tryd.results4, go_sem]) rfl ⟨rfl, hnx⟩
end Go.Proofs.YtcochbkdgjgaeaaDoor.WalkObjectHolds
