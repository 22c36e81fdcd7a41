/-
  ExtentTake: the walk.
  Conditions: what comes in is of bulk at most 1048576.
-/
import Derived.Test.YtlcdnpecoaamcaaTK
import Derived.Test.YtlcdnpecoaamcaaXS
import Derived.Lib.Hide
namespace Go.Proofs.Ytlcdnpecoaamcaa.WalkExtentTake
open Go.RowKit Go.Proofs.YtlcdnpecoaamcaaW.PrintWords Go.Proofs.YtlcdnpecoaamcaaW.PrintMore Go.Proofs.Ytlcdnpecoaamcaa.X Go.Proofs.Ytlcdnpecoaamcaa.XL Go.Proofs.Ytlcdnpecoaamcaa.XO Go.Proofs.Ytlcdnpecoaamcaa.TK
set_option linter.unusedVariables false
set_option linter.unusedSimpArgs false
theorem infoB : (Try.prog.info? 5).map (fun i => (i.zero, i.size, i.bytes)) = some (some (.int .u8 0), 1, 1) := by kernel_rfl
/-- A row that isn't empty begins its block. -/
theorem R_head {e base : Nat} {ok : Nat → Prop} {w : World} {v : Value} {xs : List Int} (h : (Kd.int .u8).R e w base ok v xs) (hn : 0 < xs.length) : ∃ g c, v = .slice (some ⟨g, 0, none⟩) xs.length c := by
  have ho := Kd.own_of_R h
  rcases ho.2 with ⟨_, h0⟩ | ⟨g, cap, cur, hv, _⟩
  · omega
  · exact ⟨g, cap, hv⟩
theorem empty_R (w : World) : (Kd.int .u8).R 5 (w.alloc (.cells #[] 5)) w.heap.size (fun _ => True) (.slice (some ⟨w.heap.size, 0, none⟩) 0 0) [] := Kd.R_of_own (enc := Value.int .u8) (h1 := fun _ => rfl) ⟨rfl, .inr ⟨w.heap.size, 0, #[], rfl, Nat.le_refl _, heap_alloc_new w _, Nat.le_refl _, by simp [maxLen], rfl, rfl⟩⟩ (fun _ _ => trivial)
theorem u8_C {w : World} {b : Nat} {xs : List Int} {fr : Nat × Nat} (h : w.heap[b]? = some (.cells (xs.map (Value.int .u8)).toArray 5 fr)) (hl : xs.length ≤ 281474976710656) : Kd.C (Kd.int .u8) w (some ⟨b, 0, none⟩) xs.length xs := by
  refine Kd.C_of_reads (enc := Value.int .u8) (d := (0 : Int)) (h1 := fun _ => rfl) ⟨rfl, by omega, fun _ => ⟨_, rfl, fun j hj => ?_⟩⟩
  have h1 : w.cell? ⟨b, j, none⟩ = some (.int .u8 (xs.getD j 0)) := (cell_of_row w b j _ _ _ h).trans (by rw [List.getD_eq_getElem?_getD]; simp [hj])
  cases j with
  | zero => simpa [Addr.add] using h1
  | succ j => simpa [Addr.add] using h1
theorem xor_u8 (x y : Int) : 0 ≤ Go.bits .xor .u8 x y ∧ Go.bits .xor .u8 x y ≤ 255 := by
  unfold Go.bits
  simp only [IntKind.wrap, IntKind.bits, IntKind.signed]
  simp
  omega
set_option maxHeartbeats 8000000 in
set_option maxRecDepth 100000 in
theorem walk (A0 : Option Addr) (c0 : Nat) (l0 : List Int) (x1 : S27) (w : World) (hr0 : Kd.C (Kd.int .u8) w A0 l0.length l0) (hc0 : l0.length ≤ c0) (o0 : (okSl 1 okU8) l0) (o1 : okS27 x1) (hb : ((szSl szOne) l0 + szS27 x1 ≤ 1048576)) :
    Calls Try.prog 5 #[.slice A0 l0.length c0, .agg #[.int .i64 x1.f0, .int .i64 x1.f1, .bool x1.f2, .bool x1.f3]] w fun e w' => e = .returned (.bool true) ∧ Below w.heap.size w w' := by
  obtain ⟨a, b, L, D⟩ := x1
  have hl0 : l0.length ≤ 1048576 := by have h1 := szSl_length (szOne (α := Int)) (fun _ => Nat.le_refl _) l0; omega
  have hm0 : ∀ x ∈ l0, 0 ≤ x ∧ x ≤ 255 := fun x hx => o0.2 x hx
  simp only
  clear hb o0 o1
  have hN := takeV_len hl0 a b L D
  have hRE := ref_ev hl0 a b L D
  have hEE := ext_ev hl0 a b L D
  generalize takeV l0 a b L D = v at hN hRE hEE
  obtain ⟨r1, r2, V, re⟩ := v
  simp only at hN
  obtain ⟨kr, hRE⟩ := hRE
  obtain ⟨ke, hEE⟩ := hEE
  have HA : Aside0 (∀ W : World, Calls Try.prog 7 #[] W fun e w' => e = .returned (.bool true) ∧ Below W.heap.size W w') := by
    obtain ⟨k, h⟩ := alive_ev
    exact ⟨fun W => quoinlaw14_alive.calls k true W (h k (Nat.le_refl _))⟩
  have HRT : Aside0 (∀ (W : World) (A : Option Addr) (c : Nat), (Kd.int .u8).C W A l0.length l0 → l0.length ≤ c → Calls Try.prog 12 #[.slice A l0.length c, .agg #[.int .i64 a, .int .i64 b, .bool L, .bool D]] W fun e w' => ∃ v2_ : Value, e = .returned (.tuple #[.agg #[.bool r1, .bool r2, v2_], .int .i64 re]) ∧ Kd.R (Kd.int .u8) 5 w' W.heap.size (fun _ => True) v2_ V ∧ Below W.heap.size W w') :=
    ⟨fun W A c hC hc => quoinref14_Take.calls kr A c l0 a b L D r1 r2 V re W hC hc (hRE kr (Nat.le_refl _))⟩
  have HTK : Aside0 (∀ (W : World) (A : Option Addr) (c : Nat), (Kd.int .u8).C W A l0.length l0 → l0.length ≤ c → Calls Try.prog 13 #[.slice A l0.length c, .agg #[.int .i64 a, .int .i64 b, .bool L, .bool D]] W fun e w' => ∃ v2_ : Value, e = .returned (.tuple #[.agg #[.bool r1, .bool r2, v2_], .int .i64 re]) ∧ Kd.R (Kd.int .u8) 5 w' W.heap.size (fun _ => True) v2_ V ∧ Below W.heap.size W w') :=
    ⟨fun W A c hC hc => extent_Take.calls ke A c l0 a b L D r1 r2 V re W hC hc (hEE ke (Nat.le_refl _))⟩
  have HSM : Aside0 (∀ (W : World) (A : Option Addr) (c : Nat) (A' : Option Addr) (c' : Nat), (Kd.int .u8).C W A V.length V → V.length ≤ c → (Kd.int .u8).C W A' V.length V → V.length ≤ c' → Calls Try.prog 14 #[.agg #[.bool r1, .bool r2, .slice A V.length c], .agg #[.bool r1, .bool r2, .slice A' V.length c']] W fun e w' => e = .returned (.bool true) ∧ Below W.heap.size W w') :=
    ⟨fun W A c A' c' h1 h2 h3 h4 => quoinlaw14_same.calls r1 r2 A c V r1 r2 A' c' V true W h1 h2 h3 h4 (same_eq r1 r2 V)⟩
  have HB := Aside0.mk (below_alloc (Below.refl w.heap.size w) (.cells #[.int .i64 a, .int .i64 b, .bool L, .bool D] 27))
  have BX := Aside0.mk (blk_new w (.cells #[.int .i64 a, .int .i64 b, .bool L, .bool D] 27))
  have HT := Aside0.mk (And.intro hr0 hm0)
  clear hr0 hm0 hRE hEE
  go_enter Try.func5, Try.ntmps5
  go_wp2_with (first
    | (go_at_call 7; (with_reducible refine (HA.out _).mono ?_); rintro e w1 ⟨rfl, hx⟩; have BK1 := Aside0.mk (blk_below BX.out hx); have H1 := Aside0.mk (below_step HB.out hx); clear hx; have c0_ := (blk_cell BK1.out 0).trans rfl; have c1_ := (blk_cell BK1.out 1).trans rfl; have c2_ := (blk_cell BK1.out 2).trans rfl; have c3_ := (blk_cell BK1.out 3).trans rfl)
    | (go_at_call 12; (with_reducible refine (HRT.out _ _ _ (Kd.C_below HT.out.1 H1.out) hc0).mono ?_); rintro e w2 ⟨vw, rfl, hr, hx⟩; obtain ⟨Aw, cw, ew⟩ := Kd.R_slice hr; subst ew; have H2 := Aside0.mk (And.intro hx hr); clear hx hr; have HE3 := Aside0.mk (by have h := empty_R (w2.alloc (.cells #[.bool r1, .bool r2, .slice Aw V.length cw] 38)); rw [World.size_alloc] at h; exact h); have HB3 := Aside0.mk (by have h := below_alloc (Below.refl (w2.alloc (.cells #[.bool r1, .bool r2, .slice Aw V.length cw] 38)).heap.size (w2.alloc (.cells #[.bool r1, .bool r2, .slice Aw V.length cw] 38))) (.cells #[] 5); rw [World.size_alloc] at h; exact h))
    | (at_builtin; refine Kd.R_append_row (Value.int .u8) (0 : Int) (h1 := fun _ => rfl) (w0 := (w2.alloc (.cells #[.bool r1, .bool r2, .slice Aw V.length cw] 38))) (w2.heap.size + 1) rfl (.tmp 24) (.tmp 25) 22 5 (.int .u8 0) 1 rfl Try.underlying22 infoB rfl (by decide) (.slice (some ⟨w2.heap.size + 1, 0, none⟩) 0 0) [] l0 A0 l0.length c0 (fun _ => True) rfl rfl (fun _ _ => trivial) HE3.out (Kd.C_below HT.out.1 (below_step H1.out (below_alloc (below_alloc H2.out.1 (.cells #[.bool r1, .bool r2, .slice Aw V.length cw] 38)) (.cells #[] 5)))) HB3.out (by simp only [World.size_alloc]; omega) (by simp only [List.length_nil]; omega) ?_; intro v3 w3 hR hB _ _; have H3 := Aside0.mk (And.intro hR hB); clear hR hB)
    | (at_builtin; refine Kd.R_append_row (Value.int .u8) (0 : Int) (h1 := fun _ => rfl) (w0 := (w2.alloc (.cells #[.bool r1, .bool r2, .slice Aw V.length cw] 38))) (w2.heap.size + 1) rfl (.tmp 26) (.tmp 27) 22 5 (.int .u8 0) 1 rfl Try.underlying22 infoB rfl (by decide) v3 ([] ++ l0) [161, 162] (some ⟨w3.heap.size, 0, none⟩) 2 2 (fun _ => True) rfl rfl (fun _ _ => trivial) (Kd.R_alloc H3.out.1 (.cells #[.int .u8 161, .int .u8 162] 5)) (u8_C (xs := [161, 162]) (fr := (0, 0)) (blk_new w3 _) (by decide)) (H3.out.2.alloc (by have h := H3.out.2.size; rw [World.size_alloc] at h; exact h) _) (by have h := H3.out.2.size; simp only [World.size_alloc] at h ⊢; omega) (by simp only [List.nil_append]; omega) ?_; intro v4 w4 hR hB _ _; have H4 := Aside0.mk (And.intro hR hB); clear hR hB; refine Hid.out ?_))
  have hLe : [] ++ l0 ++ [161, 162] = l0 ++ [161, 162] := by simp
  rw [hLe] at H4
  clear hLe
  obtain ⟨gr, cr, er⟩ := R_head H4.out.1 (by simp)
  have hLl : (l0 ++ [161, 162] : List Int).length = l0.length + 2 := by simp
  rw [hLl] at er
  subst er
  have hcr : l0.length + 2 ≤ cr := by have h := (Kd.R_reads' H4.out.1).2.1; exact h
  obtain ⟨i0, hi0, hsz⟩ : ∃ i, Try.prog.info? 5 = some i ∧ i.size = 1 := ⟨_, rfl, rfl⟩
  have hcut := cut_to (P := Try.prog) 22 5 .i64 Try.underlying22 hi0 (some ⟨gr, 0, none⟩) (l0.length + 2) cr (l0.length : Int) (by omega) (by omega) hcr
  rw [Int.toNat_natCast] at hcut
  clear hi0 hsz
  have hB4 : Below (w2.alloc (.cells #[.bool r1, .bool r2, .slice Aw V.length cw] 38)).heap.size (w2.alloc (.cells #[.bool r1, .bool r2, .slice Aw V.length cw] 38)) w4 := by rw [World.size_alloc]; exact H4.out.2
  have HB4 := Aside0.mk hB4
  clear hB4
  have BW4 := Aside0.mk (blk_below (blk_new w2 (.cells #[.bool r1, .bool r2, .slice Aw V.length cw] 38)) HB4.out)
  have H14 := Aside0.mk (below_step (below_alloc H2.out.1 (.cells #[.bool r1, .bool r2, .slice Aw V.length cw] 38)) HB4.out)
  have BK4 := Aside0.mk (blk_below BK1.out H14.out)
  have RW4 := Aside0.mk (Kd.R_below (Kd.R_below H2.out.2 (below_alloc (Below.refl _ _) (.cells #[.bool r1, .bool r2, .slice Aw V.length cw] 38))) HB4.out)
  have HI := Aside0.mk (show (Kd.int .u8).C w4 (some ⟨gr, 0, none⟩) l0.length l0 from by
    have h := Kd.C_take (m := l0.length) (Kd.R_reads' H4.out.1).2.2 (by omega)
    rw [List.take_append_of_le_length (Nat.le_refl _), List.take_length] at h
    exact h)
  have hq1 := Kd.R_cell (W := w4) (enc := Value.int .u8) (h1 := fun _ => rfl) (g := gr) (cap := cr) (0 : Int) (by rw [hLl]; exact H4.out.1) (l0.length : Int) (by omega) (by rw [hLl]; omega)
  have hq2 := Kd.R_cell (W := w4) (enc := Value.int .u8) (h1 := fun _ => rfl) (g := gr) (cap := cr) (0 : Int) (by rw [hLl]; exact H4.out.1) ((l0.length + 1 : Nat) : Int) (by omega) (by rw [hLl]; omega)
  have hz1 : rdOf (0 : Int) (l0 ++ [161, 162]) (l0.length : Int) = 161 := by unfold rdOf; rw [Int.toNat_natCast, List.getD_eq_getElem?_getD, List.getElem?_append_right (Nat.le_refl _), Nat.sub_self]; rfl
  have hz2 : rdOf (0 : Int) (l0 ++ [161, 162]) ((l0.length + 1 : Nat) : Int) = 162 := by unfold rdOf; rw [Int.toNat_natCast, List.getD_eq_getElem?_getD, List.getElem?_append_right (by omega), show l0.length + 1 - l0.length = 1 from by omega]; rfl
  rw [hz1, Int.toNat_natCast] at hq1
  rw [hz2, Int.toNat_natCast] at hq2
  replace hq1 := hq1.1
  replace hq2 := hq2.1
  have HQ := Aside0.mk (And.intro hq1 hq2)
  clear hq1 hq2 hz1 hz2 H3 c0_ c1_ c2_ c3_ HE3 HB3
  have f0_ := (blk_cell BK4.out 0).trans rfl
  have f1_ := (blk_cell BK4.out 1).trans rfl
  have f2_ := (blk_cell BK4.out 2).trans rfl
  have f3_ := (blk_cell BK4.out 3).trans rfl
  have hcW : V.length ≤ cw := (Kd.R_reads' H2.out.2).2.1
  refine Lib.hid ?_
  go_wp2_with (first
    | (go_at_call 13; (with_reducible refine (HTK.out _ _ _ HI.out (by omega)).mono ?_); rintro e w5 ⟨va, rfl, hr, hx⟩; obtain ⟨Aa, ca, ea⟩ := Kd.R_slice hr; subst ea; have H5 := Aside0.mk (And.intro hx hr); clear hx hr; have BK5 := Aside0.mk (blk_below BK4.out H5.out.1); have hcA : V.length ≤ ca := (Kd.R_reads' H5.out.2).2.1; have g0_ := fun o_ => (blk_cell (blk_alloc BK5.out o_) 0).trans rfl; have g1_ := fun o_ => (blk_cell (blk_alloc BK5.out o_) 1).trans rfl; have g2_ := fun o_ => (blk_cell (blk_alloc BK5.out o_) 2).trans rfl; have g3_ := fun o_ => (blk_cell (blk_alloc BK5.out o_) 3).trans rfl)
    | (go_at_call 13; (with_reducible refine (HTK.out _ _ _ (Kd.C_below HI.out (below_alloc H5.out.1 (.cells #[.bool r1, .bool r2, .slice Aa V.length ca] 38))) (by omega)).mono ?_); rintro e w6 ⟨vb, rfl, hr, hx⟩; obtain ⟨Ab, cb, eb⟩ := Kd.R_slice hr; subst eb; have H6 := Aside0.mk (And.intro hx hr); clear hx hr; have hcB : V.length ≤ cb := (Kd.R_reads' H6.out.2).2.1; have BA6 := Aside0.mk (blk_below (blk_new w5 (.cells #[.bool r1, .bool r2, .slice Aa V.length ca] 38)) H6.out.1); have BW6 := Aside0.mk (blk_below (blk_alloc (blk_below BW4.out H5.out.1) (.cells #[.bool r1, .bool r2, .slice Aa V.length ca] 38)) H6.out.1); have ha0 := fun o_ => (blk_cell (blk_alloc BA6.out o_) 0).trans rfl; have ha1 := fun o_ => (blk_cell (blk_alloc BA6.out o_) 1).trans rfl; have ha2 := fun o_ => (blk_cell (blk_alloc BA6.out o_) 2).trans rfl; have hw0 := fun o_ => (blk_cell (blk_alloc BW6.out o_) 0).trans rfl; have hw1 := fun o_ => (blk_cell (blk_alloc BW6.out o_) 1).trans rfl; have hw2 := fun o_ => (blk_cell (blk_alloc BW6.out o_) 2).trans rfl)
    | (go_at_call 14; (with_reducible refine (HSM.out _ _ _ _ _ (Kd.C_alloc (Kd.C_below (Kd.C_alloc (Kd.R_reads' H5.out.2).2.2 (.cells #[.bool r1, .bool r2, .slice Aa V.length ca] 38)) H6.out.1) (.cells #[.bool r1, .bool r2, .slice Ab V.length cb] 38)) hcA (Kd.C_alloc (Kd.C_below (Kd.C_alloc (Kd.C_below (Kd.R_reads' RW4.out).2.2 H5.out.1) (.cells #[.bool r1, .bool r2, .slice Aa V.length ca] 38)) H6.out.1) (.cells #[.bool r1, .bool r2, .slice Ab V.length cb] 38)) hcW).mono ?_); rintro e w7 ⟨rfl, hx⟩; have H7 := Aside0.mk hx; clear hx; have BB7 := Aside0.mk (blk_below (blk_new w6 (.cells #[.bool r1, .bool r2, .slice Ab V.length cb] 38)) H7.out); have BA7 := Aside0.mk (blk_below (blk_alloc BA6.out (.cells #[.bool r1, .bool r2, .slice Ab V.length cb] 38)) H7.out); have BW7 := Aside0.mk (blk_below (blk_alloc BW6.out (.cells #[.bool r1, .bool r2, .slice Ab V.length cb] 38)) H7.out); have hb0 := (blk_cell BB7.out 0).trans rfl; have hb1 := (blk_cell BB7.out 1).trans rfl; have hb2 := (blk_cell BB7.out 2).trans rfl; have hx0 := (blk_cell BW7.out 0).trans rfl; have hx1 := (blk_cell BW7.out 1).trans rfl; have hx2 := (blk_cell BW7.out 2).trans rfl)
    | (go_at_call 14; (with_reducible refine (HSM.out _ _ _ _ _ (Kd.C_below (Kd.C_alloc (Kd.R_reads' H6.out.2).2.2 (.cells #[.bool r1, .bool r2, .slice Ab V.length cb] 38)) H7.out) hcB (Kd.C_below (Kd.C_alloc (Kd.C_below (Kd.C_alloc (Kd.C_below (Kd.R_reads' RW4.out).2.2 H5.out.1) (.cells #[.bool r1, .bool r2, .slice Aa V.length ca] 38)) H6.out.1) (.cells #[.bool r1, .bool r2, .slice Ab V.length cb] 38)) H7.out) hcW).mono ?_); rintro e w8 ⟨rfl, hx⟩; have H8 := Aside0.mk hx; clear hx; refine Hid.out ?_))
  have hs56 : w5.heap.size + 1 ≤ w6.heap.size := by have h := H6.out.1.size; rw [World.size_alloc] at h; exact h
  have hs68 : w6.heap.size + 1 ≤ w8.heap.size := by have h := H7.out.size; have h2 := H8.out.size; rw [World.size_alloc] at h; omega
  have B68 := Aside0.mk (below_step (below_step (below_alloc (Below.refl w6.heap.size w6) (.cells #[.bool r1, .bool r2, .slice Ab V.length cb] 38)) H7.out) H8.out)
  have B58 := Aside0.mk (below_step (below_step (below_alloc (Below.refl w5.heap.size w5) (.cells #[.bool r1, .bool r2, .slice Aa V.length ca] 38)) H6.out.1) B68.out)
  have BB8 := Aside0.mk (blk_below BB7.out H8.out)
  have BA8 := Aside0.mk (blk_below BA7.out H8.out)
  have HU0 := Aside0.mk (Kd.R_below (Kd.R_mono (ok' := fun k => k < w5.heap.size ∨ w8.heap.size ≤ k) (Kd.R_bound H5.out.2) (fun k hk => .inl hk.2.2.1)) B58.out)
  have HV0 := Aside0.mk (by
    have h := Kd.R_below (Kd.R_mono (ok' := fun k => w5.heap.size + 1 ≤ k ∧ k < w6.heap.size) (Kd.R_bound H6.out.2) (fun k hk => ⟨by have h := hk.2.1; rw [World.size_alloc] at h; exact h, hk.2.2.1⟩)) B68.out
    rw [World.size_alloc] at h
    exact h)
  have HB8 := Aside0.mk (below_step H5.out.1 B58.out)
  have HS := Aside0.mk (And.intro HU0.out (And.intro HV0.out (And.intro HB8.out (And.intro BA8.out (And.intro BB8.out (Nat.le_refl w8.heap.size))))))
  have HZ := Aside0.mk (And.intro hs56 hs68)
  have H45 := Aside0.mk H5.out.1.size
  clear f0_ f1_ f2_ f3_ g0_ g1_ g2_ g3_ ha0 ha1 ha2 hw0 hw1 hw2 hb0 hb1 hb2 hx0 hx1 hx2 HU0 HV0 HB8 BA8 BB8 HRT HTK HA hs56 hs68
  refine Lib.hid ?_
  go_wp2
  go_loopg [13] V.length (fun g v13 wl => ∃ (i : Nat) (U : List Int), i + g = V.length ∧ U.length = V.length ∧ v13 = .int .i64 i ∧ Aside0 ((Kd.int .u8).R 5 wl w4.heap.size (fun k => k < w5.heap.size ∨ w8.heap.size ≤ k) (.slice Aa V.length ca) U ∧ (Kd.int .u8).R 5 wl (w5.heap.size + 1) (fun k => w5.heap.size + 1 ≤ k ∧ k < w6.heap.size) (.slice Ab V.length cb) V ∧ Below w4.heap.size w4 wl ∧ wl.heap[w5.heap.size]? = some (.cells #[.bool r1, .bool r2, .slice Aa V.length ca] 38) ∧ wl.heap[w6.heap.size]? = some (.cells #[.bool r1, .bool r2, .slice Ab V.length cb] 38) ∧ w8.heap.size ≤ wl.heap.size))
  case atStart => exact ⟨0, V, by omega, rfl, rfl, ⟨HS.out⟩⟩
  case round =>
    obtain ⟨i, U, hi, hUl, rfl, HL⟩ := hrel
    clear HS
    have x2 := (blk_cell HL.out.2.2.2.1 2).trans rfl
    cases gk with
    | succ g =>
      have hlt : i < V.length := by omega
      obtain ⟨gu, cu', eu⟩ := R_head HL.out.1 (by omega)
      injection eu with eu1 eu2 eu3
      subst eu1
      clear eu2 eu3
      have hu5 := Kd.R_cell (W := wr) (enc := Value.int .u8) (h1 := fun _ => rfl) (g := gu) (cap := ca) (0 : Int) (by rw [hUl]; exact HL.out.1) (i : Int) (by omega) (by omega)
      rw [Int.toNat_natCast] at hu5
      obtain ⟨hu6, hu7⟩ := hu5
      have hokg := HL.out.1.1 gu rfl
      have hge := Kd.R_base HL.out.1 gu rfl
      have HUl := Aside0.mk hUl
      clear hUl
      have HP := Aside0.mk (And.intro (Kd.R_putg HL.out.1 (i : Int) (Go.bits .xor .u8 (rdOf 0 U (i : Int)) 85)) (And.intro (HL.out.2.2.1.setCell (p := ⟨gu, i, none⟩) hge (.int .u8 (Go.bits .xor .u8 (rdOf 0 U (i : Int)) 85))) (And.intro (Kd.R_far HL.out.2.1 (p := ⟨gu, i, none⟩) (fun k hk => by have h1 := HZ.out; show k ≠ gu; omega) (.int .u8 (Go.bits .xor .u8 (rdOf 0 U (i : Int)) 85))) (And.intro (blk_far HL.out.2.2.2.1 (p := ⟨gu, i, none⟩) (by have h1 := HZ.out; show w5.heap.size ≠ gu; omega) (.int .u8 (Go.bits .xor .u8 (rdOf 0 U (i : Int)) 85))) (blk_far HL.out.2.2.2.2.1 (p := ⟨gu, i, none⟩) (by have h1 := HZ.out; show w6.heap.size ≠ gu; omega) (.int .u8 (Go.bits .xor .u8 (rdOf 0 U (i : Int)) 85)))))))
      rw [Int.toNat_natCast] at HP
      have q8 : (0 ≤ (i : Int)) = True := eq_true (by omega)
      have q9 : ((i : Int) < (V.length : Int)) = True := eq_true (by omega)
      clear hokg hge
      go_wp2
      go_roundg g
      case measure => omega
      case rel => exact ⟨i + 1, U.set i (Go.bits .xor .u8 (rdOf 0 U (i : Int)) 85), by omega, by rw [List.length_set]; exact HUl.out, by go_num, ⟨HP.out.1.1, HP.out.2.2.1, HP.out.2.1, HP.out.2.2.2.1, HP.out.2.2.2.2, by have h := HL.out.2.2.2.2.2; simpa [World.setCell] using h⟩⟩
    | zero =>
      have q7 : ((i : Int) < (V.length : Int)) = False := eq_false (by omega)
      go_wp2
      clear x2
      go_loopg [14] 10 (fun g v14 wl => ∃ (j : Nat) (U : List Int) (A9 : Option Addr) (c9 : Nat), j + g = 10 ∧ U.length = V.length + j ∧ v14 = .int .i64 j ∧ Aside0 ((Kd.int .u8).R 5 wl w4.heap.size (fun k => k < w5.heap.size ∨ w8.heap.size ≤ k) (.slice A9 U.length c9) U ∧ (Kd.int .u8).R 5 wl (w5.heap.size + 1) (fun k => w5.heap.size + 1 ≤ k ∧ k < w6.heap.size) (.slice Ab V.length cb) V ∧ Below w4.heap.size w4 wl ∧ wl.heap[w5.heap.size]? = some (.cells #[.bool r1, .bool r2, .slice A9 U.length c9] 38) ∧ wl.heap[w6.heap.size]? = some (.cells #[.bool r1, .bool r2, .slice Ab V.length cb] 38) ∧ w8.heap.size ≤ wl.heap.size))
      case atStart => exact ⟨0, U, Aa, ca, by omega, by omega, rfl, ⟨by have h := HL.out; rw [← hUl] at h ⊢; exact h⟩⟩
      case round =>
        clear HL
        obtain ⟨j, U2, A9, c9, hj, hU2l, rfl, HL2⟩ := hrel
        have x2 := (blk_cell HL2.out.2.2.2.1 2).trans rfl
        cases gk with
        | succ g =>
          have q10 : ((j : Int) < 10) = True := eq_true (by omega)
          have HUL := Aside0.mk (And.intro hU2l hj)
          clear hU2l
          go_wp2_with (at_builtin; refine Kd.R_append (Kd.int .u8) (w0 := w4) w4.heap.size rfl (.tmp 84) (.tmp 85) 22 5 (.int .u8 0) 1 rfl Try.underlying22 infoB rfl (by decide) (by decide) (.slice A9 U2.length c9) U2 119 [.int .u8 119] (fun k => k < w5.heap.size ∨ w8.heap.size ≤ k) (fun _ => False) rfl rfl rfl (fun _ hk => hk.elim) (fun k hk => .inr (Nat.le_trans HL2.out.2.2.2.2.2 hk)) HL2.out.1 HL2.out.2.2.1 HL2.out.2.2.1.size (by have h_ := HUL.out; omega) ?_; intro v11 w11 hR hB hG hat; obtain ⟨A11, c11, e11⟩ := Kd.R_slice hR; subst e11; have BA11 := Aside0.mk (blk_grown HL2.out.2.2.2.1 hG (fun e => by have h1 := HL2.out.1.1 _ e.symm; have h2 := HZ.out; omega)); have BB11 := Aside0.mk (blk_grown HL2.out.2.2.2.2.1 hG (fun e => by have h1 := HL2.out.1.1 _ e.symm; have h2 := HZ.out; omega)); have RB11 := Aside0.mk (Kd.R_grown HL2.out.2.1 hG (fun k hk e => by have h1 := HL2.out.1.1 k e.symm; have h2 := HZ.out; omega)); have H11 := Aside0.mk (And.intro hR (And.intro hB (Nat.le_trans HL2.out.2.2.2.2.2 hG.size))); clear hR hB hG hat; have y2 := (blk_cell BA11.out 2).trans rfl; have y3 := blk_frozen BA11.out 2)
          go_roundg g
          case measure => omega
          case rel =>
            refine ⟨j + 1, U2 ++ [119], A11, c11, by have h_ := HUL.out; omega, by have h_ := HUL.out; rw [List.length_append, List.length_singleton]; omega, by go_num, ⟨Kd.R_far H11.out.1 (p := ⟨w5.heap.size, 2, none⟩) (fun k hk => by have h1 := HZ.out; show k ≠ w5.heap.size; omega) _, Kd.R_far RB11.out (p := ⟨w5.heap.size, 2, none⟩) (fun k hk => by show k ≠ w5.heap.size; omega) _, H11.out.2.1.setCell (p := ⟨w5.heap.size, 2, none⟩) H45.out _, by have h_ := blk_set BA11.out 2 (.slice A11 (U2.length + 1) c11); rw [List.length_append, List.length_singleton]; exact h_, blk_far BB11.out (p := ⟨w5.heap.size, 2, none⟩) (by have h1 := HZ.out; show w6.heap.size ≠ w5.heap.size; omega) _, by have h := H11.out.2.2; simpa [World.setCell] using h⟩⟩
        | zero =>
          have q10 : ((j : Int) < 10) = False := eq_false (by omega)
          obtain rfl : j = 10 := by omega
          rw [hU2l] at HL2 x2
          have BW9 := Aside0.mk (blk_below BW4.out HL2.out.2.2.1)
          have RW9 := Aside0.mk (Kd.R_below RW4.out HL2.out.2.2.1)
          have BBr := HL2.out.2.2.2.2.1
          have z0_ := (blk_cell BBr 0).trans rfl
          have z1_ := (blk_cell BBr 1).trans rfl
          have z2_ := (blk_cell BBr 2).trans rfl
          have y0_ := (blk_cell BW9.out 0).trans rfl
          have y1_ := (blk_cell BW9.out 1).trans rfl
          have y2_ := (blk_cell BW9.out 2).trans rfl
          have q3 : (0 ≤ (l0.length : Int)) = True := eq_true (by omega)
          have q4 : ((l0.length : Int) < (l0.length : Int) + 2) = True := eq_true (by omega)
          have q5 : ((l0.length : Int) + 1 < (l0.length : Int) + 2) = True := eq_true (by omega)
          have q6 : (0 ≤ (l0.length : Int) + 1) = True := eq_true (by omega)
          clear BBr x2
          go_wp2_with (first
            | (go_at_call 14; (with_reducible refine (HSM.out _ _ _ _ _ (Kd.R_reads' HL2.out.2.1).2.2 hcB (Kd.R_reads' RW9.out).2.2 hcW).mono ?_); rintro e w12 ⟨rfl, hx⟩; have H12 := Aside0.mk hx; clear hx; have HB12 := Aside0.mk (below_step HL2.out.2.2.1 H12.out); have k1 := Kd.C_string (P := Try.prog) (c := cr) Try.underlying22 Try.underlying5 Try.underlying9 (Kd.C_below HI.out HB12.out); have k2 := Kd.C_string (P := Try.prog) (c := c0) Try.underlying22 Try.underlying5 Try.underlying9 (Kd.C_below HT.out.1 (below_step H1.out (below_step H14.out HB12.out))); have q1_ := pw_cell_below HB12.out HQ.out.1; have q2_ := pw_cell_below HB12.out HQ.out.2))
          clear k1 k2 q1_ q2_ z0_ z1_ z2_ y0_ y1_ y2_
          have HL3 := Aside0.mk (show (Kd.int .u8).R 5 w12 (w2.heap.size + 1) (fun k => k < w5.heap.size) (.slice (some ⟨gr, 0, none⟩) (l0.length + 2) cr) (l0 ++ [161, 162]) ∧ (Kd.int .u8).R 5 w12 (w5.heap.size + 1) (fun k => w5.heap.size + 1 ≤ k ∧ k < w6.heap.size) (.slice Ab V.length cb) V ∧ Below (w2.heap.size + 1) (w2.alloc (.cells #[.bool r1, .bool r2, .slice Aw V.length cw] 38)) w12 ∧ w12.heap[w5.heap.size]? = some (.cells #[.bool r1, .bool r2, .slice A9 (V.length + 10) c9] 38) ∧ w12.heap[w6.heap.size]? = some (.cells #[.bool r1, .bool r2, .slice Ab V.length cb] 38) from
            ⟨Kd.R_below (Kd.R_mono (Kd.R_bound H4.out.1) (fun k hk => Nat.lt_of_lt_of_le hk.2.2.1 H45.out)) HB12.out, Kd.R_below HL2.out.2.1 H12.out, by have h := below_step HB4.out HB12.out; rw [World.size_alloc] at h; exact h, blk_below HL2.out.2.2.2.1 H12.out, blk_below HL2.out.2.2.2.2.1 H12.out⟩)
          go_loopg [15] l0.length (fun g v15 wl => ∃ (m : Nat) (X : List Int), m + g = l0.length ∧ X.length = l0.length + 2 ∧ v15 = .int .i64 m ∧ Aside0 ((Kd.int .u8).R 5 wl (w2.heap.size + 1) (fun k => k < w5.heap.size) (.slice (some ⟨gr, 0, none⟩) (l0.length + 2) cr) X ∧ (Kd.int .u8).R 5 wl (w5.heap.size + 1) (fun k => w5.heap.size + 1 ≤ k ∧ k < w6.heap.size) (.slice Ab V.length cb) V ∧ Below (w2.heap.size + 1) (w2.alloc (.cells #[.bool r1, .bool r2, .slice Aw V.length cw] 38)) wl ∧ wl.heap[w5.heap.size]? = some (.cells #[.bool r1, .bool r2, .slice A9 (V.length + 10) c9] 38) ∧ wl.heap[w6.heap.size]? = some (.cells #[.bool r1, .bool r2, .slice Ab V.length cb] 38)))
          case atStart => exact ⟨0, l0 ++ [161, 162], by omega, hLl, rfl, HL3⟩
          case round =>
            clear HL3
            obtain ⟨m, X, hm, hXl, rfl, HL4⟩ := hrel
            cases gk with
            | succ g =>
              have hq1 := Kd.R_cell (W := wr) (enc := Value.int .u8) (h1 := fun _ => rfl) (g := gr) (cap := cr) (0 : Int) (by rw [hXl]; exact HL4.out.1) (m : Int) (by omega) (by omega)
              rw [Int.toNat_natCast] at hq1
              obtain ⟨hq2, hq3⟩ := hq1
              have hgk := HL4.out.1.1 gr rfl
              have HP := Aside0.mk (And.intro (Kd.R_putg HL4.out.1 (m : Int) (Go.bits .xor .u8 (rdOf 0 X (m : Int)) 85)) (And.intro (HL4.out.2.2.1.setCell (p := ⟨gr, m, none⟩) (Kd.R_base HL4.out.1 gr rfl) (.int .u8 (Go.bits .xor .u8 (rdOf 0 X (m : Int)) 85))) (And.intro (Kd.R_far HL4.out.2.1 (p := ⟨gr, m, none⟩) (fun k hk => by show k ≠ gr; omega) (.int .u8 (Go.bits .xor .u8 (rdOf 0 X (m : Int)) 85))) (And.intro (blk_far HL4.out.2.2.2.1 (p := ⟨gr, m, none⟩) (by show w5.heap.size ≠ gr; omega) (.int .u8 (Go.bits .xor .u8 (rdOf 0 X (m : Int)) 85))) (blk_far HL4.out.2.2.2.2 (p := ⟨gr, m, none⟩) (by have h1 := HZ.out; show w6.heap.size ≠ gr; omega) (.int .u8 (Go.bits .xor .u8 (rdOf 0 X (m : Int)) 85)))))))
              rw [Int.toNat_natCast] at HP
              have HXl := Aside0.mk hXl
              have q12 : (0 ≤ (m : Int)) = True := eq_true (by omega)
              have q13 : ((m : Int) < (l0.length : Int)) = True := eq_true (by omega)
              clear hgk hXl
              go_wp2
              go_roundg g
              case measure => omega
              case rel => exact ⟨m + 1, X.set m (Go.bits .xor .u8 (rdOf 0 X (m : Int)) 85), by omega, by rw [List.length_set]; exact HXl.out, by go_num, ⟨HP.out.1.1, HP.out.2.2.1, HP.out.2.1, HP.out.2.2.2.1, HP.out.2.2.2.2⟩⟩
            | zero =>
              have q13 : ((m : Int) < (l0.length : Int)) = False := eq_false (by omega)
              have HBr := Aside0.mk (show Below (w2.alloc (.cells #[.bool r1, .bool r2, .slice Aw V.length cw] 38)).heap.size (w2.alloc (.cells #[.bool r1, .bool r2, .slice Aw V.length cw] 38)) wr by rw [World.size_alloc]; exact HL4.out.2.2.1)
              have BWr := Aside0.mk (blk_below (blk_new w2 (.cells #[.bool r1, .bool r2, .slice Aw V.length cw] 38)) HBr.out)
              have RWr := Aside0.mk (Kd.R_below (Kd.R_below H2.out.2 (below_alloc (Below.refl _ _) (.cells #[.bool r1, .bool r2, .slice Aw V.length cw] 38))) HBr.out)
              have z0_ := (blk_cell HL4.out.2.2.2.2 0).trans rfl
              have z1_ := (blk_cell HL4.out.2.2.2.2 1).trans rfl
              have z2_ := (blk_cell HL4.out.2.2.2.2 2).trans rfl
              have y0_ := (blk_cell BWr.out 0).trans rfl
              have y1_ := (blk_cell BWr.out 1).trans rfl
              have y2_ := (blk_cell BWr.out 2).trans rfl
              clear hXl
              go_wp2_with (first
                | (go_at_call 14; (with_reducible refine (HSM.out _ _ _ _ _ (Kd.R_reads' HL4.out.2.1).2.2 hcB (Kd.R_reads' RWr.out).2.2 hcW).mono ?_); rintro e w13 ⟨rfl, hx⟩; have H13 := Aside0.mk hx; clear hx; have u2_ := (blk_cell (blk_below HL4.out.2.2.2.1 H13.out) 2).trans rfl; have t2_ := (blk_cell (blk_below BWr.out H13.out) 2).trans rfl))
              exact bodyPost_ret (v := .bool true) (by simp [results, Try.results5, go_sem]) rfl ⟨rfl, below_step H1.out (below_step (below_alloc H2.out.1 (.cells #[.bool r1, .bool r2, .slice Aw V.length cw] 38)) (below_step HBr.out H13.out))⟩
end Go.Proofs.Ytlcdnpecoaamcaa.WalkExtentTake
