/-
  StepMoves: the walk.
  Conditions: none beyond the law's own.
-/
import Derived.Test.YtofkcdnkbjpmmaaMVR
import Derived.Test.YtofkcdnkbjpmmaaXS
import Derived.Test.YtofkcdnkbjpmmaaX23
import Derived.Test.YtofkcdnkbjpmmaaX22
import Derived.Test.YtofkcdnkbjpmmaaX40
import Derived.Lib.Hide
namespace Go.Proofs.Ytofkcdnkbjpmmaa.WalkStepMoves
open Go.RowKit Go.Proofs.YtofkcdnkbjpmmaaW.PrintWords Go.Proofs.YtofkcdnkbjpmmaaW.PrintLast Go.Proofs.YtofkcdnkbjpmmaaW.PrintMore Go.Proofs.Ytofkcdnkbjpmmaa.X Go.Proofs.Ytofkcdnkbjpmmaa.XL Go.Proofs.Ytofkcdnkbjpmmaa.XO Go.Proofs.Ytofkcdnkbjpmmaa.LN Go.Proofs.Ytofkcdnkbjpmmaa.MV Go.Proofs.Ytofkcdnkbjpmmaa.MVR
set_option linter.unusedVariables false
set_option linter.unusedSimpArgs false
theorem awake_ev : Ev (fun k => quoinlaw07_awake.f k) true := Ev.of quoinlaw07_awake.mono (k := 60) (by decide +kernel)
theorem infoB : (Try.prog.info? 5).map (fun i => (i.zero, i.size, i.bytes)) = some (some (.int .u8 0), 1, 1) := by kernel_rfl
theorem empty_R (w : World) : (Kd.int .u8).R 5 (w.alloc (.cells #[] 5)) w.heap.size (fun _ => True) (.slice (some ⟨w.heap.size, 0, none⟩) 0 0) [] := Kd.R_of_own (enc := Value.int .u8) (h1 := fun _ => rfl) ⟨rfl, .inr ⟨w.heap.size, 0, #[], rfl, Nat.le_refl _, heap_alloc_new w _, Nat.le_refl _, by simp [maxLen], rfl, rfl⟩⟩ (fun _ _ => trivial)
theorem u8_C {w : World} {b : Nat} {xs : List Int} {fr : Nat × Nat} (h : w.heap[b]? = some (.cells (xs.map (Value.int .u8)).toArray 5 fr)) (hl : xs.length ≤ 281474976710656) : Kd.C (Kd.int .u8) w (some ⟨b, 0, none⟩) xs.length xs := by
  refine Kd.C_of_reads (enc := Value.int .u8) (d := (0 : Int)) (h1 := fun _ => rfl) ⟨rfl, by omega, fun _ => ⟨_, rfl, fun j hj => ?_⟩⟩
  have h1 : w.cell? ⟨b, j, none⟩ = some (.int .u8 (xs.getD j 0)) := (cell_of_row w b j _ _ _ h).trans (by rw [List.getD_eq_getElem?_getD]; simp [hj])
  cases j with
  | zero => simpa [Addr.add] using h1
  | succ j => simpa [Addr.add] using h1
/-- A row that isn't empty begins its block. -/
theorem R_head {e base : Nat} {ok : Nat → Prop} {w : World} {v : Value} {xs : List Int} (h : (Kd.int .u8).R e w base ok v xs) (hn : 0 < xs.length) : ∃ g c, v = .slice (some ⟨g, 0, none⟩) xs.length c := by
  have ho := Kd.own_of_R h
  rcases ho.2 with ⟨_, h0⟩ | ⟨g, cap, cur, hv, _⟩
  · omega
  · exact ⟨g, cap, hv⟩
/-- A cut that goes beyond the length. -/
theorem cut_room {P : Program} (t e : TypeId) (kh : IntKind) {i : TypeInfo} (ht : P.underlying t = some (.slice e)) (hi : P.info? e = some i) (A : Option Addr) (n c : Nat) (j : Int) (h0 : 0 ≤ j) (hc : j ≤ c) :
    ∀ W : World, (Instr.slice t (.slice A n c) none (some (.int kh j)) none).run P W = .ok (.slice A j.toNat c) W := by
  intro W
  have hel : P.elem t = e := by simp [Program.elem, ht]
  have hu : P.underlying t = some (.slice (P.elem t)) := by rw [hel]; exact ht
  have ha : (A.map fun x => x.add 0) = A := by cases A <;> simp [Addr.add]
  rw [run_slice_h W t A n c hu kh j h0 (by omega), hel]
  simp [sizeOf, typeInfo, hi, sliced, Result.andThen, ha]
theorem byte_in {w : World} {g n : Nat} {xs : List Int} (h : (Kd.int .u8).C w (some ⟨g, 0, none⟩) n xs) {i : Nat} (hi : i < n) : w.cell? ⟨g, i, none⟩ = some (.int .u8 (xs.getD i 0)) := by
  obtain ⟨ad, c, ea, hc, hk, hcc⟩ := Kd.C_get h 0 (i : Int) (by omega) (by omega)
  obtain rfl := Option.some.inj ea
  rw [Int.toNat_natCast] at hk hcc
  have hk : c = [.int .u8 (xs.getD i 0)] := hk
  subst hk
  have h2 := hcc 0 _ rfl
  have e : (Kd.int .u8).sz = 1 := rfl
  rw [e, Nat.mul_one, Nat.add_zero] at h2
  cases i with
  | zero => simpa [Addr.add] using h2
  | succ i => simpa [Addr.add] using h2
set_option maxHeartbeats 4000000 in
/-- What is lent: the text in a row of its own, with two marked bytes behind. -/
theorem lent_calls (A0 : Option Addr) (c0 : Nat) (l0 : List Int) (w : World) (hl0 : l0.length ≤ 140737488351232) (hr0 : Kd.C (Kd.int .u8) w A0 l0.length l0) (hc0 : l0.length ≤ c0) :
    Calls Try.prog 8 #[.slice A0 l0.length c0] w fun e w' => ∃ g c, e = .returned (.slice (some ⟨g, 0, none⟩) l0.length c) ∧ Aside0 (l0.length + 2 ≤ c) ∧ Aside0 ((Kd.int .u8).C w' (some ⟨g, 0, none⟩) (l0.length + 2) (l0 ++ [77, 78])) ∧ Below w.heap.size w w' := by
  have HR0 := Aside0.mk hr0
  clear hr0
  go_enter Try.func8, Try.ntmps8
  go_wp2_with (first
    | (at_builtin; refine Kd.R_append_row (Value.int .u8) (0 : Int) (h1 := fun _ => rfl) (w0 := w) w.heap.size rfl (.tmp 3) (.tmp 4) 22 5 (.int .u8 0) 1 rfl Try.underlying22 infoB rfl (by decide) (.slice (some ⟨w.heap.size, 0, none⟩) 0 0) [] l0 A0 l0.length c0 (fun _ => True) rfl rfl (fun _ _ => trivial) (empty_R w) (Kd.C_alloc HR0.out (.cells #[] 5)) (below_alloc (Below.refl w.heap.size w) (.cells #[] 5)) (by simp only [World.size_alloc]; omega) (by simp only [List.length_nil]; omega) ?_; intro v3 w3 hR hB _ _; have H3 := Aside0.mk (And.intro hR hB); clear hR hB)
    | (at_builtin; refine Kd.R_append_row (Value.int .u8) (0 : Int) (h1 := fun _ => rfl) (w0 := w) w.heap.size rfl (.tmp 5) (.tmp 6) 22 5 (.int .u8 0) 1 rfl Try.underlying22 infoB rfl (by decide) v3 ([] ++ l0) [77, 78] (some ⟨w3.heap.size, 0, none⟩) 2 2 (fun _ => True) rfl rfl (fun _ _ => trivial) (Kd.R_alloc H3.out.1 (.cells #[.int .u8 77, .int .u8 78] 5)) (u8_C (xs := [77, 78]) (fr := (0, 0)) (blk_new w3 _) (by decide)) (H3.out.2.alloc H3.out.2.size _) (by have h := H3.out.2.size; simp only [World.size_alloc]; omega) (by simp only [List.nil_append]; omega) ?_; intro v4 w4 hR hB _ _; have H4 := Aside0.mk (And.intro hR hB); clear hR hB; refine Hid.out ?_))
  have hLe : [] ++ l0 ++ [77, 78] = l0 ++ [77, 78] := by simp
  rw [hLe] at H4
  clear hLe
  obtain ⟨gr, cr, er⟩ := R_head H4.out.1 (by simp)
  have hLl : (l0 ++ [77, 78] : List Int).length = l0.length + 2 := by simp
  rw [hLl] at er
  subst er
  have hcr : l0.length + 2 ≤ cr := by have h := (Kd.R_reads' H4.out.1).2.1; exact h
  obtain ⟨i0, hi0, hsz⟩ : ∃ i, Try.prog.info? 5 = some i ∧ i.size = 1 := ⟨_, rfl, rfl⟩
  have hcut := cut_to (P := Try.prog) 22 5 .i64 Try.underlying22 hi0 (some ⟨gr, 0, none⟩) (l0.length + 2) cr (l0.length : Int) (by omega) (by omega) hcr
  rw [Int.toNat_natCast] at hcut
  have HL := Aside0.mk hLl
  clear hi0 hsz hLl
  refine Lib.hid ?_
  go_wp2
  go_ret
  exact ⟨gr, cr, rfl, ⟨hcr⟩, ⟨by have h := (Kd.R_reads' H4.out.1).2.2; rw [HL.out] at h; exact h⟩, H4.out.2⟩
set_option maxHeartbeats 4000000 in
/-- What was lent is whole. -/
theorem whole_calls (A0 : Option Addr) (c0 g c : Nat) (l0 : List Int) (w : World) (hl0 : l0.length ≤ 140737488351232) (hr0 : Kd.C (Kd.int .u8) w A0 l0.length l0) (hc0 : l0.length ≤ c0) (hc : l0.length + 2 ≤ c) (hr1 : (Kd.int .u8).C w (some ⟨g, 0, none⟩) (l0.length + 2) (l0 ++ [77, 78])) :
    Calls Try.prog 11 #[.slice (some ⟨g, 0, none⟩) l0.length c, .slice A0 l0.length c0] w fun e w' => e = .returned (.bool true) ∧ Below w.heap.size w w' := by
  obtain ⟨i0, hi0, hsz⟩ : ∃ i, Try.prog.info? 5 = some i ∧ i.size = 1 := ⟨_, rfl, rfl⟩
  have hcut := cut_room (P := Try.prog) 22 5 .i64 Try.underlying22 hi0 (some ⟨g, 0, none⟩) l0.length c ((l0.length : Int) + 2) (by omega) (by omega)
  rw [show ((l0.length : Int) + 2).toNat = l0.length + 2 from by omega] at hcut
  have hLl : (l0 ++ [77, 78] : List Int).length = l0.length + 2 := by simp
  have hC := Kd.C_take (m := l0.length) (by rw [hLl]; exact hr1) (by omega)
  rw [List.take_append_of_le_length (Nat.le_refl _), List.take_length] at hC
  have k1 := Kd.C_string (P := Try.prog) (c := c) Try.underlying22 Try.underlying5 Try.underlying9 hC
  have k2 := Kd.C_string (P := Try.prog) (c := c0) Try.underlying22 Try.underlying5 Try.underlying9 hr0
  have q1 := byte_in hr1 (i := l0.length) (by omega)
  have q2 := byte_in hr1 (i := l0.length + 1) (by omega)
  rw [show (l0 ++ [77, 78] : List Int).getD l0.length 0 = 77 from by rw [List.getD_eq_getElem?_getD, List.getElem?_append_right (Nat.le_refl _), Nat.sub_self]; rfl] at q1
  rw [show (l0 ++ [77, 78] : List Int).getD (l0.length + 1) 0 = 78 from by rw [List.getD_eq_getElem?_getD, List.getElem?_append_right (by omega), show l0.length + 1 - l0.length = 1 from by omega]; rfl] at q2
  have q3 : (0 ≤ (l0.length : Int)) = True := eq_true (by omega)
  have q4 : ((l0.length : Int) < (l0.length : Int) + 2) = True := eq_true (by omega)
  have q5 : ((l0.length : Int) + 1 < (l0.length : Int) + 2) = True := eq_true (by omega)
  have q6 : (0 ≤ (l0.length : Int) + 1) = True := eq_true (by omega)
  clear hi0 hsz hLl hC hr0 hr1
  go_enter Try.func11, Try.ntmps11
  go_wp2
  go_ret
  exact ⟨rfl, Below.refl _ _⟩
theorem eqiH (d : Nat) (x y : Int) (w : World) : (Op.equalIn (d + 1) 3 (.int .i64 x) (.int .i64 y)).run Try.prog w = .ok (x == y) w := by
  simp only [Op.equalIn, Sem.run_bind, run_underlying Try.underlying3, Result.andThen_ok]
  simp
theorem eqT (x y z : Int) (w : World) : (Op.equalIn 10000 29 (.agg #[.int .i64 x, .int .i64 y, .int .i64 z]) (.agg #[.int .i64 x, .int .i64 y, .int .i64 z])).run Try.prog w = .ok true w := by
  have h := eqA_of (P := Try.prog) (d := 9999) (xs := #[.int .i64 x, .int .i64 y, .int .i64 z]) (ys := #[.int .i64 x, .int .i64 y, .int .i64 z]) (w := w) Try.underlying29 (by kernel_rfl)
    (eqf_cons (by rfl) (show (part 3 _ 0).run Try.prog w = .ok (.int .i64 x) w by kernel_rfl) (show (part 3 _ 0).run Try.prog w = .ok (.int .i64 x) w by kernel_rfl) (eqiH 9998 x x w)
      (eqf_cons (by rfl) (show (part 3 _ 1).run Try.prog w = .ok (.int .i64 y) w by kernel_rfl) (show (part 3 _ 1).run Try.prog w = .ok (.int .i64 y) w by kernel_rfl) (eqiH 9998 y y w)
        (eqf_last (by rfl) (show (part 3 _ 2).run Try.prog w = .ok (.int .i64 z) w by kernel_rfl) (show (part 3 _ 2).run Try.prog w = .ok (.int .i64 z) w by kernel_rfl) (eqiH 9998 z z w))))
  rw [beq_self_eq_true, beq_self_eq_true, beq_self_eq_true] at h
  exact h
theorem cut2 {w : World} {g : Nat} {l0 : List Int} (h : (Kd.int .u8).C w (some ⟨g, 0, none⟩) (l0.length + 2) (l0 ++ [77, 78])) : (Kd.int .u8).C w (some ⟨g, 0, none⟩) l0.length l0 := by
  have hLl : (l0 ++ [77, 78] : List Int).length = l0.length + 2 := by simp
  have hC := Kd.C_take (m := l0.length) (by rw [hLl]; exact h) (by omega)
  rw [List.take_append_of_le_length (Nat.le_refl _), List.take_length] at hC
  exact hC
/-- One Move twice: both answers are one. -/
theorem two_calls {l0 : List Int} (hu : u8s l0 = true) (hl : l0.length ≤ 140737488351232) (a b c : Int) (key : ByteArray) : ∃ r1 r2 r3 r4 r5 : Int,
    (∀ (W : World) (A : Option Addr) (n : Nat), Kd.C (Kd.int .u8) W A l0.length l0 → l0.length ≤ n → Calls Try.prog 9 #[.slice A l0.length n, .int .i64 a, .int .i64 b, .int .i64 c, .string key] W fun e w' => e = .returned (.tuple #[.agg #[.int .i64 r1, .int .i64 r2, .int .i64 r3], .int .i64 r4, .int .i64 r5]) ∧ Below W.heap.size W w') ∧
    (∀ (W : World) (A : Option Addr) (n : Nat), Kd.C (Kd.int .u8) W A l0.length l0 → l0.length ≤ n → Calls Try.prog 10 #[.slice A l0.length n, .int .i64 a, .int .i64 b, .int .i64 c, .string key] W fun e w' => e = .returned (.tuple #[.agg #[.int .i64 r1, .int .i64 r2, .int .i64 r3], .int .i64 r4, .int .i64 r5]) ∧ Below W.heap.size W w') := by
  obtain ⟨k1, h1⟩ := rmove_ev (t := l0) (by omega) a b c key
  obtain ⟨k2, h2⟩ := move_ev hu (by omega) a b c key
  generalize moveV l0 a b c key = r at h1 h2
  obtain ⟨r1, r2, r3, r4, r5⟩ := r
  exact ⟨r1, r2, r3, r4, r5, fun W A n hC hn => quoinref07_Move.calls k1 A n l0 a b c key r1 r2 r3 r4 r5 W hC hn (h1 k1 (Nat.le_refl _)), fun W A n hC hn => step_Move.calls k2 A n l0 a b c key r1 r2 r3 r4 r5 W hC hn (h2 k2 (Nat.le_refl _))⟩
set_option maxHeartbeats 8000000 in
set_option maxRecDepth 100000 in
theorem walk (A0 : Option Addr) (c0 : Nat) (l0 : List Int) (A1 : Option Addr) (c1 : Nat) (l1 : List (S27)) (w : World) (hr0 : Kd.C (Kd.int .u8) w A0 l0.length l0) (hc0 : l0.length ≤ c0) (hr1 : Kd.C k27 w A1 l1.length l1) (hc1 : l1.length ≤ c1) (o0 : (okSl 1 okU8) l0) (o1 : (okSl 40 okS27) l1) :
    Calls Try.prog 3 #[.slice A0 l0.length c0, .slice A1 l1.length c1] w fun e w' => e = .returned (.bool true) ∧ Below w.heap.size w w' := by
  have hl0 : l0.length ≤ 140737488351232 := by have h1 := o0.1; omega
  have hl1 : l1.length ≤ 140737488351232 := by have h1 := o1.1; omega
  have hu : u8s l0 = true := u8s_ok o0
  have HA : Aside0 (∀ W : World, Calls Try.prog 7 #[] W fun e w' => e = .returned (.bool true) ∧ Below W.heap.size W w') := by
    obtain ⟨k, h⟩ := awake_ev
    exact ⟨fun W => quoinlaw07_awake.calls k true W (h k (Nat.le_refl _))⟩
  have HT := Aside0.mk (fun a b c key => two_calls hu hl0 a b c key)
  have HC := Aside0.mk (And.intro hr0 hr1)
  clear hr0 hr1 o0 o1 hu
  go_enter Try.func3, Try.ntmps3
  go_wp2_with (first
    | (go_at_call 7; (with_reducible refine (HA.out _).mono ?_); rintro e w1 ⟨rfl, hx⟩; have H1 := Aside0.mk hx; clear hx)
    | (go_at_call 8; (with_reducible refine (lent_calls A0 c0 l0 _ hl0 (Kd.C_below HC.out.1 H1.out) hc0).mono ?_); rintro e w2 ⟨g, c, rfl, hc, hC, hx⟩; have HL := Aside0.mk (And.intro hc.out hC.out); have H2 := Aside0.mk (below_step H1.out hx); clear hc hC hx))
  go_loopg [20] l1.length (fun k v20 wl => ∃ i : Nat, i + k = l1.length ∧ v20 = .int .i64 (i : Int) ∧ Aside0 (Below w2.heap.size w2 wl))
  case atStart => exact ⟨0, by omega, rfl, ⟨Below.refl _ _⟩⟩
  case round =>
    obtain ⟨i, hi, rfl, HW⟩ := hrel
    have HCL := Aside0.mk (Kd.C_below HL.out.2 HW.out)
    have HC0 := Aside0.mk (Kd.C_below HC.out.1 (below_step H2.out HW.out))
    cases gk with
    | zero =>
      obtain rfl : i = l1.length := by omega
      have q1 : ((l1.length : Int) < (l1.length : Int)) = False := eq_false (by omega)
      go_wp2_with (go_at_call 11; (with_reducible refine (whole_calls A0 c0 g c l0 _ hl0 HC0.out hc0 HL.out.1 HCL.out).mono ?_); rintro e w3 ⟨rfl, hx⟩; have H3 := Aside0.mk (below_step (below_step H2.out HW.out) hx); clear hx)
      go_ret
      exact ⟨rfl, H3.out⟩
    | succ k =>
      have q1 : ((i : Int) < (l1.length : Int)) = True := eq_true (by omega)
      have q2 : (0 ≤ (i : Int)) = True := eq_true (by omega)
      obtain ⟨ad, rfl, hx0, hx1, hx2, hx3⟩ := at_T27 (Kd.C_below HC.out.2 (below_step H2.out HW.out)) (i : Int) (by omega) (by omega)
      rw [Int.toNat_natCast] at hx0 hx1 hx2 hx3
      generalize rd_T27 l1 (i : Int) = x at hx0 hx1 hx2 hx3
      obtain ⟨r1, r2, r3, r4, r5, hT1, hT2⟩ := HT.out x.f0 x.f1 x.f2 x.f3
      have HT1 := Aside0.mk hT1
      have HT2 := Aside0.mk hT2
      have HBK := Aside0.mk (below_alloc (Below.refl wr.heap.size wr) (.cells #[.int .i64 x.f0, .int .i64 x.f1, .int .i64 x.f2, .string x.f3] 27))
      have BKx := Aside0.mk (blk_new wr (.cells #[.int .i64 x.f0, .int .i64 x.f1, .int .i64 x.f2, .string x.f3] 27))
      have heq := eqT r1 r2 r3
      clear hT1 hT2
      have HN := Aside0.mk (show l0.length ≤ c by have := HL.out.1; omega)
      go_wp2_with (first
        | (go_at_call 9; (with_reducible refine (HT1.out _ A0 c0 (Kd.C_below HC0.out HBK.out) hc0).mono ?_); rintro e w3 ⟨rfl, hx⟩; have H3 := Aside0.mk (below_alloc (below_step HBK.out hx) (.cells #[.int .i64 r1, .int .i64 r2, .int .i64 r3] 29)); have BX3 := Aside0.mk (blk_alloc (blk_below BKx.out hx) (.cells #[.int .i64 r1, .int .i64 r2, .int .i64 r3] 29)); have BR3 := Aside0.mk (blk_new w3 (.cells #[.int .i64 r1, .int .i64 r2, .int .i64 r3] 29)); clear hx; have y0 := (blk_cell BX3.out 0).trans rfl; have y1 := (blk_cell BX3.out 1).trans rfl; have y2 := (blk_cell BX3.out 2).trans rfl; have y3 := (blk_cell BX3.out 3).trans rfl)
        | (go_at_call 10; (with_reducible refine (HT2.out _ (some ⟨g, 0, none⟩) c (cut2 (Kd.C_below HCL.out H3.out)) HN.out).mono ?_); rintro e w4 ⟨rfl, hx⟩; have H4 := Aside0.mk (below_alloc (below_step H3.out hx) (.cells #[.int .i64 r1, .int .i64 r2, .int .i64 r3] 29)); have BR4 := Aside0.mk (blk_alloc (blk_below BR3.out hx) (.cells #[.int .i64 r1, .int .i64 r2, .int .i64 r3] 29)); have BS4 := Aside0.mk (blk_new w4 (.cells #[.int .i64 r1, .int .i64 r2, .int .i64 r3] 29)); clear hx; have z0 := (blk_cell BR4.out 0).trans rfl; have z1 := (blk_cell BR4.out 1).trans rfl; have z2 := (blk_cell BR4.out 2).trans rfl; have v0 := (blk_cell BS4.out 0).trans rfl; have v1 := (blk_cell BS4.out 1).trans rfl; have v2 := (blk_cell BS4.out 2).trans rfl))
      go_roundg k
      case measure => omega
      case rel => exact ⟨i + 1, by omega, by go_num, ⟨below_step HW.out H4.out⟩⟩
end Go.Proofs.Ytofkcdnkbjpmmaa.WalkStepMoves
