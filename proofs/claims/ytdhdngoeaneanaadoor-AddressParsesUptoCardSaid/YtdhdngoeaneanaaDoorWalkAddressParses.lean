/-
  AddressParses: the walk.
  Conditions: what comes in is of bulk at most 1048576; Go's table of powers of ten is laid.
-/
import Derived.Test.YtdhdngoeaneanaaDoorATAddressSpells
import Derived.Test.YtdhdngoeaneanaaDoorADAddressParses
import Derived.Test.YtdhdngoeaneanaaDoorXS
import Derived.Lib.Hide
namespace Go.Proofs.YtdhdngoeaneanaaDoor.WalkAddressParses
open Go.RowKit Go.Proofs.YtdhdngoeaneanaaDoorW.PrintWords Go.Proofs.YtdhdngoeaneanaaDoorW.PrintLast Go.Proofs.YtdhdngoeaneanaaDoorW.PrintMore Go.Proofs.YtdhdngoeaneanaaDoor.X Go.Proofs.YtdhdngoeaneanaaDoor.XL Go.Proofs.YtdhdngoeaneanaaDoor.XO Go.Proofs.YtdhdngoeaneanaaDoor.PT Go.Proofs.YtdhdngoeaneanaaDoor.AD
set_option linter.unusedVariables false
set_option linter.unusedSimpArgs false
theorem base_len (t : List Int) : (baseV t).2.2.2.1.length ≤ t.length := by
  cases t with
  | nil => exact Nat.le_refl _
  | cons c rest =>
    rw [show baseV (c :: rest) = baseC c rest from rfl]
    unfold baseC
    (repeat' split) <;> simp only [badA, List.length_take, List.length_cons, List.length_nil] <;> omega
theorem parse_len (t : List Int) : (parseV t).2.2.2.1.length ≤ t.length := by
  have h := base_len t
  unfold parseV endV
  (repeat' split) <;> first | exact h | exact Nat.zero_le _
/-- A row that is read, told by its value. -/
theorem V_of_C {w : World} {base : Nat} {A : Option Addr} {c : Nat} {l : List Int} (h : (Kd.int .u8).C w A l.length l) (hc : l.length ≤ c) : Kd.V (Kd.int .u8) 5 w base (fun _ => True) (.slice A l.length c) l := Kd.V_mk hc (fun W' hW => by
  have hr := Kd.reads_of_C (enc := Value.int .u8) (d := (0 : Int)) (h1 := fun _ => rfl) h
  refine Kd.C_of_reads (enc := Value.int .u8) (d := (0 : Int)) (h1 := fun _ => rfl) ⟨hr.1, hr.2.1, fun hn => ?_⟩
  obtain ⟨ad, e, hcell⟩ := hr.2.2 hn
  refine ⟨ad, e, fun j hj => ?_⟩
  have h2 := hcell j hj
  have h3 := hW (ad.add j).block trivial (World.block_lt_of_cell? w _ h2)
  unfold World.cell? at h2 ⊢
  rw [h3]
  exact h2)
/-- A row that isn't empty begins its block. -/
theorem R_head {e base : Nat} {ok : Nat → Prop} {w : World} {v : Value} {xs : List Int} (h : (Kd.int .u8).R e w base ok v xs) (hn : 0 < xs.length) : ∃ g c, v = .slice (some ⟨g, 0, none⟩) xs.length c := by
  have ho := Kd.own_of_R h
  rcases ho.2 with ⟨_, h0⟩ | ⟨g, cap, cur, hv, _⟩
  · omega
  · exact ⟨g, cap, hv⟩
theorem empty_R (w : World) : (Kd.int .u8).R 5 (w.alloc (.cells #[] 5)) w.heap.size (fun _ => True) (.slice (some ⟨w.heap.size, 0, none⟩) 0 0) [] := Kd.R_of_own (enc := Value.int .u8) (h1 := fun _ => rfl) ⟨rfl, .inr ⟨w.heap.size, 0, #[], rfl, Nat.le_refl _, heap_alloc_new w _, Nat.le_refl _, by simp [maxLen], rfl, rfl⟩⟩ (fun _ _ => trivial)
theorem xor_u8 (x y : Int) : 0 ≤ Go.bits .xor .u8 x y ∧ Go.bits .xor .u8 x y ≤ 255 := by
  unfold Go.bits
  simp only [IntKind.wrap, IntKind.bits, IntKind.signed]
  simp
  omega
set_option maxHeartbeats 8000000 in
set_option maxRecDepth 100000 in
theorem walk (A0 : Option Addr) (c0 : Nat) (l0 : List Int) (w : World) (hr0 : Kd.C (Kd.int .u8) w A0 l0.length l0) (hc0 : l0.length ≤ c0) (o0 : (okSl 1 okU8) l0) (hb : ((szSl szOne) l0 ≤ 1048576)) (htab : Tab w) :
    Calls Tryd.prog 3 #[.slice A0 l0.length c0] w fun e w' => e = .returned (.bool true) ∧ Below w.heap.size w w' := by
  have hl0 : l0.length ≤ 1048576 := by have h1 := szSl_length (szOne (α := Int)) (fun _ => Nat.le_refl _) l0; omega
  clear hb o0
  have hN := parse_len l0
  have hRE := rparse_ev l0 (by omega)
  have hEE := parse_ev l0 (by omega)
  generalize parseV l0 = v at hN hRE hEE
  obtain ⟨r1, r2, r3, V, r5, r6, r7, r8⟩ := v
  simp only at hN
  obtain ⟨kr, hRE⟩ := hRE
  obtain ⟨ke, hEE⟩ := hEE
  have HA := Aside0.mk (alive_calls (w := w) htab)
  have HRT : Aside0 (∀ (W : World) (A : Option Addr) (c : Nat), (Kd.int .u8).C W A l0.length l0 → l0.length ≤ c → Calls Tryd.prog 11 #[.slice A l0.length c] W fun e w' => ∃ v2_ : Value, e = .returned (.tuple #[.agg #[.int .u8 r1, .int .i64 r2, .int .u8 r3, v2_, .int .i64 r5, .bool r6], .int .i64 r7, .int .i64 r8]) ∧ Kd.R (Kd.int .u8) 5 w' W.heap.size (fun _ => True) v2_ V ∧ Below W.heap.size W w') :=
    ⟨fun W A c hC hc => (quoinref23_Parse.calls kr (fun _ => True) A c l0 _ _ _ _ _ _ _ _ W (V_of_C hC hc) (hRE kr (Nat.le_refl _))).mono fun e w' ⟨v, h1, h2, h3⟩ => ⟨v, h1, Kd.R_mono h2 (fun _ _ => trivial), h3⟩⟩
  have HTK : Aside0 (∀ (W : World) (A : Option Addr) (c : Nat), (Kd.int .u8).C W A l0.length l0 → l0.length ≤ c → Calls Tryd.prog 12 #[.slice A l0.length c] W fun e w' => ∃ v2_ : Value, e = .returned (.tuple #[.agg #[.int .u8 r1, .int .i64 r2, .int .u8 r3, v2_, .int .i64 r5, .bool r6], .int .i64 r7, .int .i64 r8]) ∧ Kd.R (Kd.int .u8) 5 w' W.heap.size (fun _ => True) v2_ V ∧ Below W.heap.size W w') :=
    ⟨fun W A c hC hc => address_Parse.calls ke A c l0 _ _ _ _ _ _ _ _ W hC hc (hEE ke (Nat.le_refl _))⟩
  have HSM : Aside0 (∀ (W : World) (A : Option Addr) (c : Nat) (A' : Option Addr) (c' : Nat), (Kd.int .u8).C W A V.length V → V.length ≤ c → (Kd.int .u8).C W A' V.length V → V.length ≤ c' → Calls Tryd.prog 13 #[.agg #[.int .u8 r1, .int .i64 r2, .int .u8 r3, .slice A V.length c, .int .i64 r5, .bool r6], .agg #[.int .u8 r1, .int .i64 r2, .int .u8 r3, .slice A' V.length c', .int .i64 r5, .bool r6]] W fun e w' => e = .returned (.bool true) ∧ Below W.heap.size W w') :=
    ⟨fun W A c A' c' h1 h2 h3 h4 => same_self h1 h3⟩
  have HT := Aside0.mk hr0
  clear hr0 hRE hEE htab
  go_enter Tryd.func3, Tryd.ntmps3
  go_wp2_with (first
    | (go_at_call 10; (with_reducible refine HA.out.mono ?_); rintro e w1 ⟨rfl, hx⟩; have H1 := Aside0.mk hx; clear hx)
    | (go_at_call 11; (with_reducible refine (HRT.out _ _ _ (Kd.C_below HT.out H1.out) hc0).mono ?_); rintro e w2 ⟨vw, rfl, hr, hx⟩; obtain ⟨Aw, cw, ew⟩ := Kd.R_slice hr; subst ew; have H2 := Aside0.mk (And.intro hx hr); clear hx hr; have HE3 := Aside0.mk (by have h := empty_R (w2.alloc (.cells #[.int .u8 r1, .int .i64 r2, .int .u8 r3, .slice Aw V.length cw, .int .i64 r5, .bool r6] 25)); rw [World.size_alloc] at h; exact h); have HB3 := Aside0.mk (by have h := below_alloc (Below.refl (w2.alloc (.cells #[.int .u8 r1, .int .i64 r2, .int .u8 r3, .slice Aw V.length cw, .int .i64 r5, .bool r6] 25)).heap.size (w2.alloc (.cells #[.int .u8 r1, .int .i64 r2, .int .u8 r3, .slice Aw V.length cw, .int .i64 r5, .bool r6] 25))) (.cells #[] 5); rw [World.size_alloc] at h; exact h))
    | (at_builtin; refine Kd.R_append_row (Value.int .u8) (0 : Int) (h1 := fun _ => rfl) (w0 := (w2.alloc (.cells #[.int .u8 r1, .int .i64 r2, .int .u8 r3, .slice Aw V.length cw, .int .i64 r5, .bool r6] 25))) (w2.heap.size + 1) rfl (.tmp 24) (.tmp 25) 22 5 (.int .u8 0) 1 rfl Tryd.underlying22 infoB rfl (by decide) (.slice (some ⟨w2.heap.size + 1, 0, none⟩) 0 0) [] l0 A0 l0.length c0 (fun _ => True) rfl rfl (fun _ _ => trivial) HE3.out (Kd.C_below HT.out (below_step H1.out (below_alloc (below_alloc H2.out.1 (.cells #[.int .u8 r1, .int .i64 r2, .int .u8 r3, .slice Aw V.length cw, .int .i64 r5, .bool r6] 25)) (.cells #[] 5)))) HB3.out (by simp only [World.size_alloc]; omega) (by simp only [List.length_nil]; omega) ?_; intro v3 w3 hR hB _ _; have H3 := Aside0.mk (And.intro hR hB); clear hR hB)
    | (at_builtin; refine Kd.R_append_row (Value.int .u8) (0 : Int) (h1 := fun _ => rfl) (w0 := (w2.alloc (.cells #[.int .u8 r1, .int .i64 r2, .int .u8 r3, .slice Aw V.length cw, .int .i64 r5, .bool r6] 25))) (w2.heap.size + 1) rfl (.tmp 26) (.tmp 27) 22 5 (.int .u8 0) 1 rfl Tryd.underlying22 infoB rfl (by decide) v3 ([] ++ l0) [161, 162] (some ⟨w3.heap.size, 0, none⟩) 2 2 (fun _ => True) rfl rfl (fun _ _ => trivial) (Kd.R_alloc H3.out.1 (.cells #[.int .u8 161, .int .u8 162] 5)) (u8_C (xs := [161, 162]) (fr := (0, 0)) (blk_new w3 _) (by decide)) (H3.out.2.alloc (by have h := H3.out.2.size; rw [World.size_alloc] at h; exact h) _) (by have h := H3.out.2.size; simp only [World.size_alloc] at h ⊢; omega) (by simp only [List.nil_append]; omega) ?_; intro v4 w4 hR hB _ _; have H4 := Aside0.mk (And.intro hR hB); clear hR hB; refine Hid.out ?_))
  have hLe : [] ++ l0 ++ [161, 162] = l0 ++ [161, 162] := by simp
  rw [hLe] at H4
  clear hLe
  obtain ⟨gr, cr, er⟩ := R_head H4.out.1 (by simp)
  have hLl : (l0 ++ [161, 162] : List Int).length = l0.length + 2 := by simp
  rw [hLl] at er
  subst er
  have hcr : l0.length + 2 ≤ cr := by have h := (Kd.R_reads' H4.out.1).2.1; exact h
  obtain ⟨i0, hi0, hsz⟩ : ∃ i, Tryd.prog.info? 5 = some i ∧ i.size = 1 := ⟨_, rfl, rfl⟩
  have hcut := cut_to (P := Tryd.prog) 22 5 .i64 Tryd.underlying22 hi0 (some ⟨gr, 0, none⟩) (l0.length + 2) cr (l0.length : Int) (by omega) (by omega) hcr
  rw [Int.toNat_natCast] at hcut
  clear hi0 hsz
  have hB4 : Below (w2.alloc (.cells #[.int .u8 r1, .int .i64 r2, .int .u8 r3, .slice Aw V.length cw, .int .i64 r5, .bool r6] 25)).heap.size (w2.alloc (.cells #[.int .u8 r1, .int .i64 r2, .int .u8 r3, .slice Aw V.length cw, .int .i64 r5, .bool r6] 25)) w4 := by rw [World.size_alloc]; exact H4.out.2
  have HB4 := Aside0.mk hB4
  clear hB4
  have BW4 := Aside0.mk (blk_below (blk_new w2 (.cells #[.int .u8 r1, .int .i64 r2, .int .u8 r3, .slice Aw V.length cw, .int .i64 r5, .bool r6] 25)) HB4.out)
  have H14 := Aside0.mk (below_step (below_alloc H2.out.1 (.cells #[.int .u8 r1, .int .i64 r2, .int .u8 r3, .slice Aw V.length cw, .int .i64 r5, .bool r6] 25)) HB4.out)
  have RW4 := Aside0.mk (Kd.R_below (Kd.R_below H2.out.2 (below_alloc (Below.refl _ _) (.cells #[.int .u8 r1, .int .i64 r2, .int .u8 r3, .slice Aw V.length cw, .int .i64 r5, .bool r6] 25))) HB4.out)
  have HI := Aside0.mk (show (Kd.int .u8).C w4 (some ⟨gr, 0, none⟩) l0.length l0 from by
    have h := Kd.C_take (m := l0.length) (Kd.R_reads' H4.out.1).2.2 (by omega)
    rw [List.take_append_of_le_length (Nat.le_refl _), List.take_length] at h
    exact h)
  have hq1 := Kd.R_cell (W := w4) (enc := Value.int .u8) (h1 := fun _ => rfl) (g := gr) (cap := cr) (0 : Int) (by rw [hLl]; exact H4.out.1) (l0.length : Int) (by omega) (by rw [hLl]; omega)
  have hq2 := Kd.R_cell (W := w4) (enc := Value.int .u8) (h1 := fun _ => rfl) (g := gr) (cap := cr) (0 : Int) (by rw [hLl]; exact H4.out.1) ((l0.length + 1 : Nat) : Int) (by omega) (by rw [hLl]; omega)
  have hz1 : rdOf (0 : Int) (l0 ++ [161, 162]) (l0.length : Int) = 161 := by unfold rdOf; rw [Int.toNat_natCast, List.getD_eq_getElem?_getD, List.getElem?_append_right (Nat.le_refl _), Nat.sub_self]; rfl
  have hz2 : rdOf (0 : Int) (l0 ++ [161, 162]) ((l0.length + 1 : Nat) : Int) = 162 := by unfold rdOf; rw [Int.toNat_natCast, List.getD_eq_getElem?_getD, List.getElem?_append_right (by omega), show l0.length + 1 - l0.length = 1 from by omega]; rfl
  rw [hz1, Int.toNat_natCast] at hq1
  rw [hz2, Int.toNat_natCast] at hq2
  replace hq1 := hq1.1
  replace hq2 := hq2.1
  have HQ := Aside0.mk (And.intro hq1 hq2)
  clear hq1 hq2 hz1 hz2 H3 HE3 HB3
  have hcW : V.length ≤ cw := (Kd.R_reads' H2.out.2).2.1
  have q3 : (0 ≤ (l0.length : Int)) = True := eq_true (by omega)
  have q4 : ((l0.length : Int) < (l0.length : Int) + 2) = True := eq_true (by omega)
  have q5 : ((l0.length : Int) + 1 < (l0.length : Int) + 2) = True := eq_true (by omega)
  have q6 : (0 ≤ (l0.length : Int) + 1) = True := eq_true (by omega)
  have qw : wrap64 ((l0.length : Int) + 1) = (l0.length : Int) + 1 := wrap64_id (by omega) (by omega)
  have qt : ((l0.length : Int) + 1).toNat = l0.length + 1 := by omega
  refine Lib.hid ?_
  go_wp2_with (first
    | (go_at_call 12; (with_reducible refine (HTK.out _ _ _ HI.out (by omega)).mono ?_); rintro e w5 ⟨va, rfl, hr, hx⟩; obtain ⟨Aa, ca, ea⟩ := Kd.R_slice hr; subst ea; have H5 := Aside0.mk (And.intro hx hr); clear hx hr; have hcA : V.length ≤ ca := (Kd.R_reads' H5.out.2).2.1)
    | (go_at_call 12; (with_reducible refine (HTK.out _ _ _ (Kd.C_below HI.out (below_alloc H5.out.1 (.cells #[.int .u8 r1, .int .i64 r2, .int .u8 r3, .slice Aa V.length ca, .int .i64 r5, .bool r6] 25))) (by omega)).mono ?_); rintro e w6 ⟨vb, rfl, hr, hx⟩; obtain ⟨Ab, cb, eb⟩ := Kd.R_slice hr; subst eb; have H6 := Aside0.mk (And.intro hx hr); clear hx hr; have hcB : V.length ≤ cb := (Kd.R_reads' H6.out.2).2.1; have BA6 := Aside0.mk (blk_below (blk_new w5 (.cells #[.int .u8 r1, .int .i64 r2, .int .u8 r3, .slice Aa V.length ca, .int .i64 r5, .bool r6] 25)) H6.out.1); have BW6 := Aside0.mk (blk_below (blk_alloc (blk_below BW4.out H5.out.1) (.cells #[.int .u8 r1, .int .i64 r2, .int .u8 r3, .slice Aa V.length ca, .int .i64 r5, .bool r6] 25)) H6.out.1)))
  have BBn := Aside0.mk (blk_new w6 (.cells #[.int .u8 r1, .int .i64 r2, .int .u8 r3, .slice Ab V.length cb, .int .i64 r5, .bool r6] 25))
  have BAn := Aside0.mk (blk_alloc BA6.out (.cells #[.int .u8 r1, .int .i64 r2, .int .u8 r3, .slice Ab V.length cb, .int .i64 r5, .bool r6] 25))
  have BWn := Aside0.mk (blk_alloc BW6.out (.cells #[.int .u8 r1, .int .i64 r2, .int .u8 r3, .slice Ab V.length cb, .int .i64 r5, .bool r6] 25))
  have HB6n := Aside0.mk (below_alloc (Below.refl w6.heap.size w6) (.cells #[.int .u8 r1, .int .i64 r2, .int .u8 r3, .slice Ab V.length cb, .int .i64 r5, .bool r6] 25))
  have HCa := Aside0.mk (Kd.C_alloc (Kd.C_below (Kd.C_alloc (Kd.R_reads' H5.out.2).2.2 (.cells #[.int .u8 r1, .int .i64 r2, .int .u8 r3, .slice Aa V.length ca, .int .i64 r5, .bool r6] 25)) H6.out.1) (.cells #[.int .u8 r1, .int .i64 r2, .int .u8 r3, .slice Ab V.length cb, .int .i64 r5, .bool r6] 25))
  have HCb := Aside0.mk (Kd.C_alloc (Kd.R_reads' H6.out.2).2.2 (.cells #[.int .u8 r1, .int .i64 r2, .int .u8 r3, .slice Ab V.length cb, .int .i64 r5, .bool r6] 25))
  have HCw := Aside0.mk (Kd.C_alloc (Kd.C_below (Kd.C_alloc (Kd.C_below (Kd.R_reads' RW4.out).2.2 H5.out.1) (.cells #[.int .u8 r1, .int .i64 r2, .int .u8 r3, .slice Aa V.length ca, .int .i64 r5, .bool r6] 25)) H6.out.1) (.cells #[.int .u8 r1, .int .i64 r2, .int .u8 r3, .slice Ab V.length cb, .int .i64 r5, .bool r6] 25))
  have HB4n := Aside0.mk (below_step H5.out.1 (below_step (below_alloc (Below.refl w5.heap.size w5) (.cells #[.int .u8 r1, .int .i64 r2, .int .u8 r3, .slice Aa V.length ca, .int .i64 r5, .bool r6] 25)) (below_step H6.out.1 HB6n.out)))
  have hsn : (w6.alloc (.cells #[.int .u8 r1, .int .i64 r2, .int .u8 r3, .slice Ab V.length cb, .int .i64 r5, .bool r6] 25)).heap.size = w6.heap.size + 1 := World.size_alloc ..
  generalize (w6.alloc (.cells #[.int .u8 r1, .int .i64 r2, .int .u8 r3, .slice Ab V.length cb, .int .i64 r5, .bool r6] 25)) = W at BBn BAn BWn HB6n HCa HCb HCw HB4n hsn ⊢
  have HSN := Aside0.mk hsn
  clear hsn
  refine start_ (n := 47) (S := fun w' => w'.cell? ⟨w5.heap.size, 0, none⟩ = some (.int .u8 r1) ∧ w'.cell? ⟨w5.heap.size, 1, none⟩ = some (.int .i64 r2) ∧ w'.cell? ⟨w5.heap.size, 2, none⟩ = some (.int .u8 r3) ∧ w'.cell? ⟨w5.heap.size, 3, none⟩ = some (.slice Aa V.length ca) ∧ w'.cell? ⟨w5.heap.size, 4, none⟩ = some (.int .i64 r5) ∧ w'.cell? ⟨w5.heap.size, 5, none⟩ = some (.bool r6) ∧ w'.cell? ⟨w2.heap.size, 0, none⟩ = some (.int .u8 r1) ∧ w'.cell? ⟨w2.heap.size, 1, none⟩ = some (.int .i64 r2) ∧ w'.cell? ⟨w2.heap.size, 2, none⟩ = some (.int .u8 r3) ∧ w'.cell? ⟨w2.heap.size, 3, none⟩ = some (.slice Aw V.length cw) ∧ w'.cell? ⟨w2.heap.size, 4, none⟩ = some (.int .i64 r5) ∧ w'.cell? ⟨w2.heap.size, 5, none⟩ = some (.bool r6) ∧ w'.cell? ⟨w6.heap.size, 0, none⟩ = some (.int .u8 r1) ∧ w'.cell? ⟨w6.heap.size, 1, none⟩ = some (.int .i64 r2) ∧ w'.cell? ⟨w6.heap.size, 2, none⟩ = some (.int .u8 r3) ∧ w'.cell? ⟨w6.heap.size, 3, none⟩ = some (.slice Ab V.length cb) ∧ w'.cell? ⟨w6.heap.size, 4, none⟩ = some (.int .i64 r5) ∧ w'.cell? ⟨w6.heap.size, 5, none⟩ = some (.bool r6) ∧ (convert 22 9 (.slice (some ⟨gr, 0, none⟩) l0.length cr)).run Tryd.prog w' = .ok (.string (strOfNums l0)) w' ∧ (convert 22 9 (.slice A0 l0.length c0)).run Tryd.prog w' = .ok (.string (strOfNums l0)) w' ∧ w'.cell? ⟨gr, l0.length, none⟩ = some (.int .u8 161) ∧ w'.cell? ⟨gr, l0.length + 1, none⟩ = some (.int .u8 162)) (ds := []) #[false, false, false, false, false, false, false, false, false, false, false, false, false, false, false, false, false, false, false, false, false, false, false, false, false, false, false, false, false, false, false, false, false, false, false, false, false, false, false, false, false, false, false, false, false, false, false] (by kernel_rfl) rfl rfl ⟨(blk_cell (blk_below BAn.out (below_drew (Below.refl W.heap.size W))) 0).trans rfl, (blk_cell (blk_below BAn.out (below_drew (Below.refl W.heap.size W))) 1).trans rfl, (blk_cell (blk_below BAn.out (below_drew (Below.refl W.heap.size W))) 2).trans rfl, (blk_cell (blk_below BAn.out (below_drew (Below.refl W.heap.size W))) 3).trans rfl, (blk_cell (blk_below BAn.out (below_drew (Below.refl W.heap.size W))) 4).trans rfl, (blk_cell (blk_below BAn.out (below_drew (Below.refl W.heap.size W))) 5).trans rfl, (blk_cell (blk_below BWn.out (below_drew (Below.refl W.heap.size W))) 0).trans rfl, (blk_cell (blk_below BWn.out (below_drew (Below.refl W.heap.size W))) 1).trans rfl, (blk_cell (blk_below BWn.out (below_drew (Below.refl W.heap.size W))) 2).trans rfl, (blk_cell (blk_below BWn.out (below_drew (Below.refl W.heap.size W))) 3).trans rfl, (blk_cell (blk_below BWn.out (below_drew (Below.refl W.heap.size W))) 4).trans rfl, (blk_cell (blk_below BWn.out (below_drew (Below.refl W.heap.size W))) 5).trans rfl, (blk_cell (blk_below BBn.out (below_drew (Below.refl W.heap.size W))) 0).trans rfl, (blk_cell (blk_below BBn.out (below_drew (Below.refl W.heap.size W))) 1).trans rfl, (blk_cell (blk_below BBn.out (below_drew (Below.refl W.heap.size W))) 2).trans rfl, (blk_cell (blk_below BBn.out (below_drew (Below.refl W.heap.size W))) 3).trans rfl, (blk_cell (blk_below BBn.out (below_drew (Below.refl W.heap.size W))) 4).trans rfl, (blk_cell (blk_below BBn.out (below_drew (Below.refl W.heap.size W))) 5).trans rfl, Kd.C_string (P := Tryd.prog) (c := cr) Tryd.underlying22 Tryd.underlying5 Tryd.underlying9 (Kd.C_below HI.out (below_step HB4n.out (below_drew (Below.refl W.heap.size W)))), Kd.C_string (P := Tryd.prog) (c := c0) Tryd.underlying22 Tryd.underlying5 Tryd.underlying9 (Kd.C_below HT.out (below_step H1.out (below_step H14.out (below_step HB4n.out (below_drew (Below.refl W.heap.size W)))))), pw_cell_below (below_step HB4n.out (below_drew (Below.refl W.heap.size W))) HQ.out.1, pw_cell_below (below_step HB4n.out (below_drew (Below.refl W.heap.size W))) HQ.out.2⟩ (fun hHeld => ?_)
  have HY0 := Aside0.mk (below_drew (Below.refl W.heap.size W))
  generalize W.drew = Wc0 at HY0 hHeld ⊢
  refine take_ (i := 0) (N := some 47) (v := ?_) (a' := ?_) #[true, false, false, false, false, false, false, false, false, false, false, false, false, false, false, false, false, false, false, false, false, false, false, false, false, false, false, false, false, false, false, false, false, false, false, false, false, false, false, false, false, false, false, false, false, false, false] rfl rfl (by kernel_rfl) (fun _ _ _ h => h) (Or.inl ⟨by rfl, ?_⟩) hHeld ?_ ?_
  rotate_left
  · rintro w' ⟨s0, s1, s2, s3, s4, s5, s6, s7, s8, s9, s10, s11, s12, s13, s14, s15, s16, s17, s18, s19, s20, s21⟩
    go_simp
    with_reducible rfl
  rotate_left
  · simp only [Act.put, List.setIfInBounds_toArray, List.set_cons_zero, List.set_cons_succ, i64_w, i32_w]
    rfl
  refine take_ (i := 1) (N := some 48) (v := ?_) (a' := ?_) #[true, true, false, false, false, false, false, false, false, false, false, false, false, false, false, false, false, false, false, false, false, false, false, false, false, false, false, false, false, false, false, false, false, false, false, false, false, false, false, false, false, false, false, false, false, false, false] rfl rfl (by kernel_rfl) (fun _ _ _ h => h) (Or.inl ⟨by rfl, ?_⟩) hHeld ?_ ?_
  rotate_left
  · rintro w' ⟨s0, s1, s2, s3, s4, s5, s6, s7, s8, s9, s10, s11, s12, s13, s14, s15, s16, s17, s18, s19, s20, s21⟩
    go_simp
    with_reducible rfl
  rotate_left
  · simp only [Act.put, List.setIfInBounds_toArray, List.set_cons_zero, List.set_cons_succ, i64_w, i32_w]
    rfl
  refine one_ (i := 2) (N := some 49) #[true, true, true, false, false, false, false, false, false, false, false, false, false, false, false, false, false, false, false, false, false, false, false, false, false, false, false, false, false, false, false, false, false, false, false, false, false, false, false, false, false, false, false, false, false, false, false] rfl rfl (by kernel_rfl) (by decide) (fun K hK => ?_)
  refine goes_ Tryd.func13 (by kernel_rfl) rfl #[.agg #[.int .u8 r1, .int .i64 r2, .int .u8 r3, .slice Aa V.length ca, .int .i64 r5, .bool r6], .agg #[.int .u8 r1, .int .i64 r2, .int .u8 r3, .slice Aw V.length cw, .int .i64 r5, .bool r6]] (by rfl) rfl rfl (by simp only [List.map_toArray, List.map_cons, List.map_nil]; rfl) ?_
  with_reducible refine (HSM.out Wc0 Aa ca Aw cw (Kd.C_below HCa.out HY0.out) hcA (Kd.C_below HCw.out HY0.out) hcW).mono ?_
  rintro e Wc1 ⟨rfl, hB1⟩
  refine ⟨_, rfl, ?_⟩
  have HY1 := Aside0.mk (below_step HY0.out hB1)
  clear hB1
  refine hK.out _ _ ⟨(blk_cell (blk_below BAn.out HY1.out) 0).trans rfl, (blk_cell (blk_below BAn.out HY1.out) 1).trans rfl, (blk_cell (blk_below BAn.out HY1.out) 2).trans rfl, (blk_cell (blk_below BAn.out HY1.out) 3).trans rfl, (blk_cell (blk_below BAn.out HY1.out) 4).trans rfl, (blk_cell (blk_below BAn.out HY1.out) 5).trans rfl, (blk_cell (blk_below BWn.out HY1.out) 0).trans rfl, (blk_cell (blk_below BWn.out HY1.out) 1).trans rfl, (blk_cell (blk_below BWn.out HY1.out) 2).trans rfl, (blk_cell (blk_below BWn.out HY1.out) 3).trans rfl, (blk_cell (blk_below BWn.out HY1.out) 4).trans rfl, (blk_cell (blk_below BWn.out HY1.out) 5).trans rfl, (blk_cell (blk_below BBn.out HY1.out) 0).trans rfl, (blk_cell (blk_below BBn.out HY1.out) 1).trans rfl, (blk_cell (blk_below BBn.out HY1.out) 2).trans rfl, (blk_cell (blk_below BBn.out HY1.out) 3).trans rfl, (blk_cell (blk_below BBn.out HY1.out) 4).trans rfl, (blk_cell (blk_below BBn.out HY1.out) 5).trans rfl, Kd.C_string (P := Tryd.prog) (c := cr) Tryd.underlying22 Tryd.underlying5 Tryd.underlying9 (Kd.C_below HI.out (below_step HB4n.out HY1.out)), Kd.C_string (P := Tryd.prog) (c := c0) Tryd.underlying22 Tryd.underlying5 Tryd.underlying9 (Kd.C_below HT.out (below_step H1.out (below_step H14.out (below_step HB4n.out HY1.out)))), pw_cell_below (below_step HB4n.out HY1.out) HQ.out.1, pw_cell_below (below_step HB4n.out HY1.out) HQ.out.2⟩ (fun hHeld => ?_)
  clear hK K
  refine norm_ (a' := ?_) ?_ ?_
  rotate_left
  · show Act.put _ (some 49) _ = _
    simp only [Act.put, List.setIfInBounds_toArray, List.set_cons_zero, List.set_cons_succ, i64_w, i32_w]
    rfl
  refine pure_ (i := 3) (N := some 50) (v := ?_) (a' := ?_) #[true, true, true, true, false, false, false, false, false, false, false, false, false, false, false, false, false, false, false, false, false, false, false, false, false, false, false, false, false, false, false, false, false, false, false, false, false, false, false, false, false, false, false, false, false, false, false] rfl rfl (by kernel_rfl) (fun _ _ _ h => h) (Or.inl ⟨by rfl, ?_⟩) ?_ ?_
  rotate_left
  · intro w'
    go_simp
    with_reducible rfl
  rotate_left
  · simp only [Act.put, List.setIfInBounds_toArray, List.set_cons_zero, List.set_cons_succ, i64_w, i32_w]
    rfl
  refine pure_ (i := 4) (N := some 51) (v := ?_) (a' := ?_) #[true, true, true, true, true, false, false, false, false, false, false, false, false, false, false, false, false, false, false, false, false, false, false, false, false, false, false, false, false, false, false, false, false, false, false, false, false, false, false, false, false, false, false, false, false, false, false] rfl rfl (by kernel_rfl) (fun _ _ _ h => h) (Or.inl ⟨by rfl, ?_⟩) ?_ ?_
  rotate_left
  · intro w'
    go_simp
    with_reducible rfl
  rotate_left
  · simp only [Act.put, List.setIfInBounds_toArray, List.set_cons_zero, List.set_cons_succ, i64_w, i32_w]
    rfl
  refine take_ (i := 5) (N := some 52) (v := ?_) (a' := ?_) #[true, true, true, true, true, true, false, false, false, false, false, false, false, false, false, false, false, false, false, false, false, false, false, false, false, false, false, false, false, false, false, false, false, false, false, false, false, false, false, false, false, false, false, false, false, false, false] rfl rfl (by kernel_rfl) (fun _ _ _ h => h) (Or.inl ⟨by rfl, ?_⟩) hHeld ?_ ?_
  rotate_left
  · rintro w' ⟨s0, s1, s2, s3, s4, s5, s6, s7, s8, s9, s10, s11, s12, s13, s14, s15, s16, s17, s18, s19, s20, s21⟩
    go_simp
    with_reducible rfl
  rotate_left
  · simp only [Act.put, List.setIfInBounds_toArray, List.set_cons_zero, List.set_cons_succ, i64_w, i32_w]
    rfl
  refine take_ (i := 6) (N := some 53) (v := ?_) (a' := ?_) #[true, true, true, true, true, true, true, false, false, false, false, false, false, false, false, false, false, false, false, false, false, false, false, false, false, false, false, false, false, false, false, false, false, false, false, false, false, false, false, false, false, false, false, false, false, false, false] rfl rfl (by kernel_rfl) (fun _ _ _ h => h) (Or.inl ⟨by rfl, ?_⟩) hHeld ?_ ?_
  rotate_left
  · rintro w' ⟨s0, s1, s2, s3, s4, s5, s6, s7, s8, s9, s10, s11, s12, s13, s14, s15, s16, s17, s18, s19, s20, s21⟩
    go_simp
    with_reducible rfl
  rotate_left
  · simp only [Act.put, List.setIfInBounds_toArray, List.set_cons_zero, List.set_cons_succ, i64_w, i32_w]
    rfl
  refine one_ (i := 7) (N := some 54) #[true, true, true, true, true, true, true, true, false, false, false, false, false, false, false, false, false, false, false, false, false, false, false, false, false, false, false, false, false, false, false, false, false, false, false, false, false, false, false, false, false, false, false, false, false, false, false] rfl rfl (by kernel_rfl) (by decide) (fun K hK => ?_)
  refine goes_ Tryd.func13 (by kernel_rfl) rfl #[.agg #[.int .u8 r1, .int .i64 r2, .int .u8 r3, .slice Ab V.length cb, .int .i64 r5, .bool r6], .agg #[.int .u8 r1, .int .i64 r2, .int .u8 r3, .slice Aw V.length cw, .int .i64 r5, .bool r6]] (by rfl) rfl rfl (by simp only [List.map_toArray, List.map_cons, List.map_nil]; rfl) ?_
  with_reducible refine (HSM.out Wc1 Ab cb Aw cw (Kd.C_below HCb.out HY1.out) hcB (Kd.C_below HCw.out HY1.out) hcW).mono ?_
  rintro e w8 ⟨rfl, hB2⟩
  refine ⟨_, rfl, ?_⟩
  have HY2 := Aside0.mk (below_step HY1.out hB2)
  clear hB2
  refine hK.out _ _ ⟨(blk_cell (blk_below BAn.out HY2.out) 0).trans rfl, (blk_cell (blk_below BAn.out HY2.out) 1).trans rfl, (blk_cell (blk_below BAn.out HY2.out) 2).trans rfl, (blk_cell (blk_below BAn.out HY2.out) 3).trans rfl, (blk_cell (blk_below BAn.out HY2.out) 4).trans rfl, (blk_cell (blk_below BAn.out HY2.out) 5).trans rfl, (blk_cell (blk_below BWn.out HY2.out) 0).trans rfl, (blk_cell (blk_below BWn.out HY2.out) 1).trans rfl, (blk_cell (blk_below BWn.out HY2.out) 2).trans rfl, (blk_cell (blk_below BWn.out HY2.out) 3).trans rfl, (blk_cell (blk_below BWn.out HY2.out) 4).trans rfl, (blk_cell (blk_below BWn.out HY2.out) 5).trans rfl, (blk_cell (blk_below BBn.out HY2.out) 0).trans rfl, (blk_cell (blk_below BBn.out HY2.out) 1).trans rfl, (blk_cell (blk_below BBn.out HY2.out) 2).trans rfl, (blk_cell (blk_below BBn.out HY2.out) 3).trans rfl, (blk_cell (blk_below BBn.out HY2.out) 4).trans rfl, (blk_cell (blk_below BBn.out HY2.out) 5).trans rfl, Kd.C_string (P := Tryd.prog) (c := cr) Tryd.underlying22 Tryd.underlying5 Tryd.underlying9 (Kd.C_below HI.out (below_step HB4n.out HY2.out)), Kd.C_string (P := Tryd.prog) (c := c0) Tryd.underlying22 Tryd.underlying5 Tryd.underlying9 (Kd.C_below HT.out (below_step H1.out (below_step H14.out (below_step HB4n.out HY2.out)))), pw_cell_below (below_step HB4n.out HY2.out) HQ.out.1, pw_cell_below (below_step HB4n.out HY2.out) HQ.out.2⟩ (fun hHeld => ?_)
  clear hK K
  refine norm_ (a' := ?_) ?_ ?_
  rotate_left
  · show Act.put _ (some 54) _ = _
    simp only [Act.put, List.setIfInBounds_toArray, List.set_cons_zero, List.set_cons_succ, i64_w, i32_w]
    rfl
  refine pure_ (i := 8) (N := some 55) (v := ?_) (a' := ?_) #[true, true, true, true, true, true, true, true, true, false, false, false, false, false, false, false, false, false, false, false, false, false, false, false, false, false, false, false, false, false, false, false, false, false, false, false, false, false, false, false, false, false, false, false, false, false, false] rfl rfl (by kernel_rfl) (fun _ _ _ h => h) (Or.inl ⟨by rfl, ?_⟩) ?_ ?_
  rotate_left
  · intro w'
    go_simp
    with_reducible rfl
  rotate_left
  · simp only [Act.put, List.setIfInBounds_toArray, List.set_cons_zero, List.set_cons_succ, i64_w, i32_w]
    rfl
  refine pure_ (i := 9) (N := some 56) (v := ?_) (a' := ?_) #[true, true, true, true, true, true, true, true, true, true, false, false, false, false, false, false, false, false, false, false, false, false, false, false, false, false, false, false, false, false, false, false, false, false, false, false, false, false, false, false, false, false, false, false, false, false, false] rfl rfl (by kernel_rfl) (fun _ _ _ h => h) (Or.inl ⟨by rfl, ?_⟩) ?_ ?_
  rotate_left
  · intro w'
    go_simp
    with_reducible rfl
  rotate_left
  · simp only [Act.put, List.setIfInBounds_toArray, List.set_cons_zero, List.set_cons_succ, i64_w, i32_w]
    rfl
  refine pure_ (i := 10) (N := some 57) (v := ?_) (a' := ?_) #[true, true, true, true, true, true, true, true, true, true, true, false, false, false, false, false, false, false, false, false, false, false, false, false, false, false, false, false, false, false, false, false, false, false, false, false, false, false, false, false, false, false, false, false, false, false, false] rfl rfl (by kernel_rfl) (fun _ _ _ h => h) (Or.inl ⟨by rfl, ?_⟩) ?_ ?_
  rotate_left
  · intro w'
    go_simp
    with_reducible rfl
  rotate_left
  · simp only [Act.put, List.setIfInBounds_toArray, List.set_cons_zero, List.set_cons_succ, i64_w, i32_w]
    rfl
  refine pure_ (i := 11) (N := some 58) (v := ?_) (a' := ?_) #[true, true, true, true, true, true, true, true, true, true, true, true, false, false, false, false, false, false, false, false, false, false, false, false, false, false, false, false, false, false, false, false, false, false, false, false, false, false, false, false, false, false, false, false, false, false, false] rfl rfl (by kernel_rfl) (fun _ _ _ h => h) (Or.inl ⟨by rfl, ?_⟩) ?_ ?_
  rotate_left
  · intro w'
    go_simp
    with_reducible rfl
  rotate_left
  · simp only [Act.put, List.setIfInBounds_toArray, List.set_cons_zero, List.set_cons_succ, i64_w, i32_w]
    rfl
  refine pure_ (i := 12) (N := some 59) (v := ?_) (a' := ?_) #[true, true, true, true, true, true, true, true, true, true, true, true, true, false, false, false, false, false, false, false, false, false, false, false, false, false, false, false, false, false, false, false, false, false, false, false, false, false, false, false, false, false, false, false, false, false, false] rfl rfl (by kernel_rfl) (fun _ _ _ h => h) (Or.inl ⟨by rfl, ?_⟩) ?_ ?_
  rotate_left
  · intro w'
    go_simp
    with_reducible rfl
  rotate_left
  · simp only [Act.put, List.setIfInBounds_toArray, List.set_cons_zero, List.set_cons_succ, i64_w, i32_w]
    rfl
  refine pure_ (i := 13) (N := some 60) (v := ?_) (a' := ?_) #[true, true, true, true, true, true, true, true, true, true, true, true, true, true, false, false, false, false, false, false, false, false, false, false, false, false, false, false, false, false, false, false, false, false, false, false, false, false, false, false, false, false, false, false, false, false, false] rfl rfl (by kernel_rfl) (fun _ _ _ h => h) (Or.inl ⟨by rfl, ?_⟩) ?_ ?_
  rotate_left
  · intro w'
    go_simp
    with_reducible rfl
  rotate_left
  · simp only [Act.put, List.setIfInBounds_toArray, List.set_cons_zero, List.set_cons_succ, i64_w, i32_w]
    rfl
  refine pure_ (i := 14) (N := some 61) (v := ?_) (a' := ?_) #[true, true, true, true, true, true, true, true, true, true, true, true, true, true, true, false, false, false, false, false, false, false, false, false, false, false, false, false, false, false, false, false, false, false, false, false, false, false, false, false, false, false, false, false, false, false, false] rfl rfl (by kernel_rfl) (fun _ _ _ h => h) (Or.inl ⟨by rfl, ?_⟩) ?_ ?_
  rotate_left
  · intro w'
    go_simp
    with_reducible rfl
  rotate_left
  · simp only [Act.put, List.setIfInBounds_toArray, List.set_cons_zero, List.set_cons_succ, i64_w, i32_w]
    rfl
  refine pure_ (i := 15) (N := some 62) (v := ?_) (a' := ?_) #[true, true, true, true, true, true, true, true, true, true, true, true, true, true, true, true, false, false, false, false, false, false, false, false, false, false, false, false, false, false, false, false, false, false, false, false, false, false, false, false, false, false, false, false, false, false, false] rfl rfl (by kernel_rfl) (fun _ _ _ h => h) (Or.inl ⟨by rfl, ?_⟩) ?_ ?_
  rotate_left
  · intro w'
    go_simp
    with_reducible rfl
  rotate_left
  · simp only [Act.put, List.setIfInBounds_toArray, List.set_cons_zero, List.set_cons_succ, i64_w, i32_w]
    rfl
  refine pure_ (i := 16) (N := some 63) (v := ?_) (a' := ?_) #[true, true, true, true, true, true, true, true, true, true, true, true, true, true, true, true, true, false, false, false, false, false, false, false, false, false, false, false, false, false, false, false, false, false, false, false, false, false, false, false, false, false, false, false, false, false, false] rfl rfl (by kernel_rfl) (fun _ _ _ h => h) (Or.inl ⟨by rfl, ?_⟩) ?_ ?_
  rotate_left
  · intro w'
    go_simp
    with_reducible rfl
  rotate_left
  · simp only [Act.put, List.setIfInBounds_toArray, List.set_cons_zero, List.set_cons_succ, i64_w, i32_w]
    rfl
  refine pure_ (i := 17) (N := some 64) (v := ?_) (a' := ?_) #[true, true, true, true, true, true, true, true, true, true, true, true, true, true, true, true, true, true, false, false, false, false, false, false, false, false, false, false, false, false, false, false, false, false, false, false, false, false, false, false, false, false, false, false, false, false, false] rfl rfl (by kernel_rfl) (fun _ _ _ h => h) (Or.inl ⟨by rfl, ?_⟩) ?_ ?_
  rotate_left
  · intro w'
    go_simp
    with_reducible rfl
  rotate_left
  · simp only [Act.put, List.setIfInBounds_toArray, List.set_cons_zero, List.set_cons_succ, i64_w, i32_w]
    rfl
  refine pure_ (i := 18) (N := some 65) (v := ?_) (a' := ?_) #[true, true, true, true, true, true, true, true, true, true, true, true, true, true, true, true, true, true, true, false, false, false, false, false, false, false, false, false, false, false, false, false, false, false, false, false, false, false, false, false, false, false, false, false, false, false, false] rfl rfl (by kernel_rfl) (fun _ _ _ h => h) (Or.inl ⟨by rfl, ?_⟩) ?_ ?_
  rotate_left
  · intro w'
    go_simp
    with_reducible rfl
  rotate_left
  · simp only [Act.put, List.setIfInBounds_toArray, List.set_cons_zero, List.set_cons_succ, i64_w, i32_w]
    rfl
  refine pure_ (i := 19) (N := some 66) (v := ?_) (a' := ?_) #[true, true, true, true, true, true, true, true, true, true, true, true, true, true, true, true, true, true, true, true, false, false, false, false, false, false, false, false, false, false, false, false, false, false, false, false, false, false, false, false, false, false, false, false, false, false, false] rfl rfl (by kernel_rfl) (fun _ _ _ h => h) (Or.inl ⟨by rfl, ?_⟩) ?_ ?_
  rotate_left
  · intro w'
    go_simp
    with_reducible rfl
  rotate_left
  · simp only [Act.put, List.setIfInBounds_toArray, List.set_cons_zero, List.set_cons_succ, i64_w, i32_w]
    rfl
  refine pure_ (i := 20) (N := some 67) (v := ?_) (a' := ?_) #[true, true, true, true, true, true, true, true, true, true, true, true, true, true, true, true, true, true, true, true, true, false, false, false, false, false, false, false, false, false, false, false, false, false, false, false, false, false, false, false, false, false, false, false, false, false, false] rfl rfl (by kernel_rfl) (fun _ _ _ h => h) (Or.inl ⟨by rfl, ?_⟩) ?_ ?_
  rotate_left
  · intro w'
    go_simp
    with_reducible rfl
  rotate_left
  · simp only [Act.put, List.setIfInBounds_toArray, List.set_cons_zero, List.set_cons_succ, i64_w, i32_w]
    rfl
  refine pure_ (i := 21) (N := some 68) (v := ?_) (a' := ?_) #[true, true, true, true, true, true, true, true, true, true, true, true, true, true, true, true, true, true, true, true, true, true, false, false, false, false, false, false, false, false, false, false, false, false, false, false, false, false, false, false, false, false, false, false, false, false, false] rfl rfl (by kernel_rfl) (fun _ _ _ h => h) (Or.inl ⟨by rfl, ?_⟩) ?_ ?_
  rotate_left
  · intro w'
    go_simp
    with_reducible rfl
  rotate_left
  · simp only [Act.put, List.setIfInBounds_toArray, List.set_cons_zero, List.set_cons_succ, i64_w, i32_w]
    rfl
  refine pure_ (i := 22) (N := some 69) (v := ?_) (a' := ?_) #[true, true, true, true, true, true, true, true, true, true, true, true, true, true, true, true, true, true, true, true, true, true, true, false, false, false, false, false, false, false, false, false, false, false, false, false, false, false, false, false, false, false, false, false, false, false, false] rfl rfl (by kernel_rfl) (fun _ _ _ h => h) (Or.inl ⟨by rfl, ?_⟩) ?_ ?_
  rotate_left
  · intro w'
    go_simp
    with_reducible rfl
  rotate_left
  · simp only [Act.put, List.setIfInBounds_toArray, List.set_cons_zero, List.set_cons_succ, i64_w, i32_w]
    rfl
  refine pure_ (i := 23) (N := some 70) (v := ?_) (a' := ?_) #[true, true, true, true, true, true, true, true, true, true, true, true, true, true, true, true, true, true, true, true, true, true, true, true, false, false, false, false, false, false, false, false, false, false, false, false, false, false, false, false, false, false, false, false, false, false, false] rfl rfl (by kernel_rfl) (fun _ _ _ h => h) (Or.inl ⟨by rfl, ?_⟩) ?_ ?_
  rotate_left
  · intro w'
    go_simp
    with_reducible rfl
  rotate_left
  · simp only [Act.put, List.setIfInBounds_toArray, List.set_cons_zero, List.set_cons_succ, i64_w, i32_w]
    rfl
  refine pure_ (i := 24) (N := some 71) (v := ?_) (a' := ?_) #[true, true, true, true, true, true, true, true, true, true, true, true, true, true, true, true, true, true, true, true, true, true, true, true, true, false, false, false, false, false, false, false, false, false, false, false, false, false, false, false, false, false, false, false, false, false, false] rfl rfl (by kernel_rfl) (fun _ _ _ h => h) (Or.inl ⟨by rfl, ?_⟩) ?_ ?_
  rotate_left
  · intro w'
    go_simp
    with_reducible rfl
  rotate_left
  · simp only [Act.put, List.setIfInBounds_toArray, List.set_cons_zero, List.set_cons_succ, i64_w, i32_w]
    rfl
  refine pure_ (i := 26) (N := some 73) (v := ?_) (a' := ?_) #[true, true, true, true, true, true, true, true, true, true, true, true, true, true, true, true, true, true, true, true, true, true, true, true, true, false, true, false, false, false, false, false, false, false, false, false, false, false, false, false, false, false, false, false, false, false, false] rfl rfl (by kernel_rfl) (fun _ _ _ h => h) (Or.inl ⟨by rfl, ?_⟩) ?_ ?_
  rotate_left
  · intro w'
    go_simp
    with_reducible rfl
  rotate_left
  · simp only [Act.put, List.setIfInBounds_toArray, List.set_cons_zero, List.set_cons_succ, i64_w, i32_w]
    rfl
  refine take_ (i := 25) (N := some 72) (v := ?_) (a' := ?_) #[true, true, true, true, true, true, true, true, true, true, true, true, true, true, true, true, true, true, true, true, true, true, true, true, true, true, true, false, false, false, false, false, false, false, false, false, false, false, false, false, false, false, false, false, false, false, false] rfl rfl (by kernel_rfl) (fun _ _ _ h => h) (Or.inl ⟨by rfl, ?_⟩) hHeld ?_ ?_
  rotate_left
  · rintro w' ⟨s0, s1, s2, s3, s4, s5, s6, s7, s8, s9, s10, s11, s12, s13, s14, s15, s16, s17, s18, s19, s20, s21⟩
    go_simp
    with_reducible rfl
  rotate_left
  · simp only [Act.put, List.setIfInBounds_toArray, List.set_cons_zero, List.set_cons_succ, i64_w, i32_w]
    rfl
  refine take_ (i := 27) (N := some 74) (v := ?_) (a' := ?_) #[true, true, true, true, true, true, true, true, true, true, true, true, true, true, true, true, true, true, true, true, true, true, true, true, true, true, true, true, false, false, false, false, false, false, false, false, false, false, false, false, false, false, false, false, false, false, false] rfl rfl (by kernel_rfl) (fun _ _ _ h => h) (Or.inl ⟨by rfl, ?_⟩) hHeld ?_ ?_
  rotate_left
  · rintro w' ⟨s0, s1, s2, s3, s4, s5, s6, s7, s8, s9, s10, s11, s12, s13, s14, s15, s16, s17, s18, s19, s20, s21⟩
    go_simp
    with_reducible rfl
  rotate_left
  · simp only [Act.put, List.setIfInBounds_toArray, List.set_cons_zero, List.set_cons_succ, i64_w, i32_w]
    rfl
  refine pure_ (i := 28) (N := some 75) (v := ?_) (a' := ?_) #[true, true, true, true, true, true, true, true, true, true, true, true, true, true, true, true, true, true, true, true, true, true, true, true, true, true, true, true, true, false, false, false, false, false, false, false, false, false, false, false, false, false, false, false, false, false, false] rfl rfl (by kernel_rfl) (fun _ _ _ h => h) (Or.inl ⟨by rfl, ?_⟩) ?_ ?_
  rotate_left
  · intro w'
    go_simp
    with_reducible rfl
  rotate_left
  · simp only [Act.put, List.setIfInBounds_toArray, List.set_cons_zero, List.set_cons_succ, i64_w, i32_w]
    rfl
  refine pure_ (i := 29) (N := some 76) (v := ?_) (a' := ?_) #[true, true, true, true, true, true, true, true, true, true, true, true, true, true, true, true, true, true, true, true, true, true, true, true, true, true, true, true, true, true, false, false, false, false, false, false, false, false, false, false, false, false, false, false, false, false, false] rfl rfl (by kernel_rfl) (fun _ _ _ h => h) (Or.inl ⟨by rfl, ?_⟩) ?_ ?_
  rotate_left
  · intro w'
    go_simp
    with_reducible rfl
  rotate_left
  · simp only [Act.put, List.setIfInBounds_toArray, List.set_cons_zero, List.set_cons_succ, i64_w, i32_w]
    rfl
  refine pure_ (i := 30) (N := some 77) (v := ?_) (a' := ?_) #[true, true, true, true, true, true, true, true, true, true, true, true, true, true, true, true, true, true, true, true, true, true, true, true, true, true, true, true, true, true, true, false, false, false, false, false, false, false, false, false, false, false, false, false, false, false, false] rfl rfl (by kernel_rfl) (fun _ _ _ h => h) (Or.inl ⟨by rfl, ?_⟩) ?_ ?_
  rotate_left
  · intro w'
    go_simp
    with_reducible rfl
  rotate_left
  · simp only [Act.put, List.setIfInBounds_toArray, List.set_cons_zero, List.set_cons_succ, i64_w, i32_w]
    rfl
  refine pure_ (i := 31) (N := some 78) (v := ?_) (a' := ?_) #[true, true, true, true, true, true, true, true, true, true, true, true, true, true, true, true, true, true, true, true, true, true, true, true, true, true, true, true, true, true, true, true, false, false, false, false, false, false, false, false, false, false, false, false, false, false, false] rfl rfl (by kernel_rfl) (fun _ _ _ h => h) (Or.inl ⟨by rfl, ?_⟩) ?_ ?_
  rotate_left
  · intro w'
    go_simp
    with_reducible rfl
  rotate_left
  · simp only [Act.put, List.setIfInBounds_toArray, List.set_cons_zero, List.set_cons_succ, i64_w, i32_w]
    rfl
  refine pure_ (i := 32) (N := some 79) (v := ?_) (a' := ?_) #[true, true, true, true, true, true, true, true, true, true, true, true, true, true, true, true, true, true, true, true, true, true, true, true, true, true, true, true, true, true, true, true, true, false, false, false, false, false, false, false, false, false, false, false, false, false, false] rfl rfl (by kernel_rfl) (fun _ _ _ h => h) (Or.inl ⟨by rfl, ?_⟩) ?_ ?_
  rotate_left
  · intro w'
    go_simp
    with_reducible rfl
  rotate_left
  · simp only [Act.put, List.setIfInBounds_toArray, List.set_cons_zero, List.set_cons_succ, i64_w, i32_w]
    rfl
  refine pure_ (i := 33) (N := some 80) (v := ?_) (a' := ?_) #[true, true, true, true, true, true, true, true, true, true, true, true, true, true, true, true, true, true, true, true, true, true, true, true, true, true, true, true, true, true, true, true, true, true, false, false, false, false, false, false, false, false, false, false, false, false, false] rfl rfl (by kernel_rfl) (fun _ _ _ h => h) (Or.inl ⟨by rfl, ?_⟩) ?_ ?_
  rotate_left
  · intro w'
    go_simp
    with_reducible rfl
  rotate_left
  · simp only [Act.put, List.setIfInBounds_toArray, List.set_cons_zero, List.set_cons_succ, i64_w, i32_w]
    rfl
  refine pure_ (i := 34) (N := some 81) (v := ?_) (a' := ?_) #[true, true, true, true, true, true, true, true, true, true, true, true, true, true, true, true, true, true, true, true, true, true, true, true, true, true, true, true, true, true, true, true, true, true, true, false, false, false, false, false, false, false, false, false, false, false, false] rfl rfl (by kernel_rfl) (fun _ _ _ h => h) (Or.inl ⟨by rfl, ?_⟩) ?_ ?_
  rotate_left
  · intro w'
    go_simp
    with_reducible rfl
  rotate_left
  · simp only [Act.put, List.setIfInBounds_toArray, List.set_cons_zero, List.set_cons_succ, i64_w, i32_w]
    rfl
  refine take_ (i := 35) (N := some 82) (v := ?_) (a' := ?_) #[true, true, true, true, true, true, true, true, true, true, true, true, true, true, true, true, true, true, true, true, true, true, true, true, true, true, true, true, true, true, true, true, true, true, true, true, false, false, false, false, false, false, false, false, false, false, false] rfl rfl (by kernel_rfl) (fun _ _ _ h => h) (Or.inl ⟨by rfl, ?_⟩) hHeld ?_ ?_
  rotate_left
  · rintro w' ⟨s0, s1, s2, s3, s4, s5, s6, s7, s8, s9, s10, s11, s12, s13, s14, s15, s16, s17, s18, s19, s20, s21⟩
    go_simp
    with_reducible rfl
  rotate_left
  · simp only [Act.put, List.setIfInBounds_toArray, List.set_cons_zero, List.set_cons_succ, i64_w, i32_w]
    rfl
  refine pure_ (i := 36) (N := some 83) (v := ?_) (a' := ?_) #[true, true, true, true, true, true, true, true, true, true, true, true, true, true, true, true, true, true, true, true, true, true, true, true, true, true, true, true, true, true, true, true, true, true, true, true, true, false, false, false, false, false, false, false, false, false, false] rfl rfl (by kernel_rfl) (fun _ _ _ h => h) (Or.inl ⟨by rfl, ?_⟩) ?_ ?_
  rotate_left
  · intro w'
    go_simp
    with_reducible rfl
  rotate_left
  · simp only [Act.put, List.setIfInBounds_toArray, List.set_cons_zero, List.set_cons_succ, i64_w, i32_w]
    rfl
  refine pure_ (i := 37) (N := some 84) (v := ?_) (a' := ?_) #[true, true, true, true, true, true, true, true, true, true, true, true, true, true, true, true, true, true, true, true, true, true, true, true, true, true, true, true, true, true, true, true, true, true, true, true, true, true, false, false, false, false, false, false, false, false, false] rfl rfl (by kernel_rfl) (fun _ _ _ h => h) (Or.inl ⟨by rfl, ?_⟩) ?_ ?_
  rotate_left
  · intro w'
    go_simp
    with_reducible rfl
  rotate_left
  · simp only [Act.put, List.setIfInBounds_toArray, List.set_cons_zero, List.set_cons_succ, i64_w, i32_w]
    rfl
  refine pure_ (i := 38) (N := some 85) (v := ?_) (a' := ?_) #[true, true, true, true, true, true, true, true, true, true, true, true, true, true, true, true, true, true, true, true, true, true, true, true, true, true, true, true, true, true, true, true, true, true, true, true, true, true, true, false, false, false, false, false, false, false, false] rfl rfl (by kernel_rfl) (fun _ _ _ h => h) (Or.inl ⟨by rfl, ?_⟩) ?_ ?_
  rotate_left
  · intro w'
    go_simp
    with_reducible rfl
  rotate_left
  · simp only [Act.put, List.setIfInBounds_toArray, List.set_cons_zero, List.set_cons_succ, i64_w, i32_w]
    rfl
  refine pure_ (i := 39) (N := some 86) (v := ?_) (a' := ?_) #[true, true, true, true, true, true, true, true, true, true, true, true, true, true, true, true, true, true, true, true, true, true, true, true, true, true, true, true, true, true, true, true, true, true, true, true, true, true, true, true, false, false, false, false, false, false, false] rfl rfl (by kernel_rfl) (fun _ _ _ h => h) (Or.inl ⟨by rfl, ?_⟩) ?_ ?_
  rotate_left
  · intro w'
    go_simp
    with_reducible rfl
  rotate_left
  · simp only [Act.put, List.setIfInBounds_toArray, List.set_cons_zero, List.set_cons_succ, i64_w, i32_w]
    rfl
  refine pure_ (i := 40) (N := some 87) (v := ?_) (a' := ?_) #[true, true, true, true, true, true, true, true, true, true, true, true, true, true, true, true, true, true, true, true, true, true, true, true, true, true, true, true, true, true, true, true, true, true, true, true, true, true, true, true, true, false, false, false, false, false, false] rfl rfl (by kernel_rfl) (fun _ _ _ h => h) (Or.inl ⟨by rfl, ?_⟩) ?_ ?_
  rotate_left
  · intro w'
    go_simp
    with_reducible rfl
  rotate_left
  · simp only [Act.put, List.setIfInBounds_toArray, List.set_cons_zero, List.set_cons_succ, i64_w, i32_w]
    rfl
  refine pure_ (i := 41) (N := some 88) (v := ?_) (a' := ?_) #[true, true, true, true, true, true, true, true, true, true, true, true, true, true, true, true, true, true, true, true, true, true, true, true, true, true, true, true, true, true, true, true, true, true, true, true, true, true, true, true, true, true, false, false, false, false, false] rfl rfl (by kernel_rfl) (fun _ _ _ h => h) (Or.inl ⟨by rfl, ?_⟩) ?_ ?_
  rotate_left
  · intro w'
    go_simp
    with_reducible rfl
  rotate_left
  · simp only [Act.put, List.setIfInBounds_toArray, List.set_cons_zero, List.set_cons_succ, i64_w, i32_w]
    rfl
  refine pure_ (i := 42) (N := some 89) (v := ?_) (a' := ?_) #[true, true, true, true, true, true, true, true, true, true, true, true, true, true, true, true, true, true, true, true, true, true, true, true, true, true, true, true, true, true, true, true, true, true, true, true, true, true, true, true, true, true, true, false, false, false, false] rfl rfl (by kernel_rfl) (fun _ _ _ h => h) (Or.inl ⟨by rfl, ?_⟩) ?_ ?_
  rotate_left
  · intro w'
    go_simp
    with_reducible rfl
  rotate_left
  · simp only [Act.put, List.setIfInBounds_toArray, List.set_cons_zero, List.set_cons_succ, i64_w, i32_w]
    rfl
  refine pure_ (i := 43) (N := some 90) (v := ?_) (a' := ?_) #[true, true, true, true, true, true, true, true, true, true, true, true, true, true, true, true, true, true, true, true, true, true, true, true, true, true, true, true, true, true, true, true, true, true, true, true, true, true, true, true, true, true, true, true, false, false, false] rfl rfl (by kernel_rfl) (fun _ _ _ h => h) (Or.inl ⟨by rfl, ?_⟩) ?_ ?_
  rotate_left
  · intro w'
    go_simp
    with_reducible rfl
  rotate_left
  · simp only [Act.put, List.setIfInBounds_toArray, List.set_cons_zero, List.set_cons_succ, i64_w, i32_w]
    rfl
  refine take_ (i := 44) (N := some 91) (v := ?_) (a' := ?_) #[true, true, true, true, true, true, true, true, true, true, true, true, true, true, true, true, true, true, true, true, true, true, true, true, true, true, true, true, true, true, true, true, true, true, true, true, true, true, true, true, true, true, true, true, true, false, false] rfl rfl (by kernel_rfl) (fun _ _ _ h => h) (Or.inl ⟨by rfl, ?_⟩) hHeld ?_ ?_
  rotate_left
  · rintro w' ⟨s0, s1, s2, s3, s4, s5, s6, s7, s8, s9, s10, s11, s12, s13, s14, s15, s16, s17, s18, s19, s20, s21⟩
    go_simp
    with_reducible rfl
  rotate_left
  · simp only [Act.put, List.setIfInBounds_toArray, List.set_cons_zero, List.set_cons_succ, i64_w, i32_w]
    rfl
  refine pure_ (i := 45) (N := some 92) (v := ?_) (a' := ?_) #[true, true, true, true, true, true, true, true, true, true, true, true, true, true, true, true, true, true, true, true, true, true, true, true, true, true, true, true, true, true, true, true, true, true, true, true, true, true, true, true, true, true, true, true, true, true, false] rfl rfl (by kernel_rfl) (fun _ _ _ h => h) (Or.inl ⟨by rfl, ?_⟩) ?_ ?_
  rotate_left
  · intro w'
    go_simp
    with_reducible rfl
  rotate_left
  · simp only [Act.put, List.setIfInBounds_toArray, List.set_cons_zero, List.set_cons_succ, i64_w, i32_w]
    rfl
  refine pure_ (i := 46) (N := some 93) (v := ?_) (a' := ?_) #[true, true, true, true, true, true, true, true, true, true, true, true, true, true, true, true, true, true, true, true, true, true, true, true, true, true, true, true, true, true, true, true, true, true, true, true, true, true, true, true, true, true, true, true, true, true, true] rfl rfl (by kernel_rfl) (fun _ _ _ h => h) (Or.inl ⟨by rfl, ?_⟩) ?_ ?_
  rotate_left
  · intro w'
    go_simp
    with_reducible rfl
  rotate_left
  · simp only [Act.put, List.setIfInBounds_toArray, List.set_cons_zero, List.set_cons_succ, i64_w, i32_w]
    rfl
  refine done_ (by kernel_rfl) ?_

  clear hHeld
  have hs56 : w5.heap.size + 1 ≤ w6.heap.size := by have h := H6.out.1.size; rw [World.size_alloc] at h; exact h
  have hs68 : w6.heap.size + 1 ≤ w8.heap.size := by have h := HY2.out.size; have h2 := HSN.out; omega
  have B68 := Aside0.mk (below_step HB6n.out HY2.out)
  have B58 := Aside0.mk (below_step (below_step (below_alloc (Below.refl w5.heap.size w5) (.cells #[.int .u8 r1, .int .i64 r2, .int .u8 r3, .slice Aa V.length ca, .int .i64 r5, .bool r6] 25)) H6.out.1) B68.out)
  have BB8 := Aside0.mk (blk_below BBn.out HY2.out)
  have BA8 := Aside0.mk (blk_below BAn.out HY2.out)
  have HU0 := Aside0.mk (Kd.R_below (Kd.R_mono (ok' := fun k => k < w5.heap.size ∨ w8.heap.size ≤ k) (Kd.R_bound H5.out.2) (fun k hk => .inl hk.2.2.1)) B58.out)
  have HV0 := Aside0.mk (by
    have h := Kd.R_below (Kd.R_mono (ok' := fun k => w5.heap.size + 1 ≤ k ∧ k < w6.heap.size) (Kd.R_bound H6.out.2) (fun k hk => ⟨by have h := hk.2.1; rw [World.size_alloc] at h; exact h, hk.2.2.1⟩)) B68.out
    rw [World.size_alloc] at h
    exact h)
  have HB8 := Aside0.mk (below_step H5.out.1 B58.out)
  have HS := Aside0.mk (And.intro HU0.out (And.intro HV0.out (And.intro HB8.out (And.intro BA8.out (And.intro BB8.out (Nat.le_refl w8.heap.size))))))
  have HZ := Aside0.mk (And.intro hs56 hs68)
  have H45 := Aside0.mk H5.out.1.size
  clear q3 q4 q5 q6 qw qt HY0 HY1 HY2 HCa HCb HCw HU0 HV0 HB8 BA8 BB8 HRT HTK HA hs56 hs68
  go_wp2
  go_loopg [13] V.length (fun g v13 wl => ∃ (i : Nat) (U : List Int), i + g = V.length ∧ U.length = V.length ∧ v13 = .int .i64 i ∧ Aside0 ((Kd.int .u8).R 5 wl w4.heap.size (fun k => k < w5.heap.size ∨ w8.heap.size ≤ k) (.slice Aa V.length ca) U ∧ (Kd.int .u8).R 5 wl (w5.heap.size + 1) (fun k => w5.heap.size + 1 ≤ k ∧ k < w6.heap.size) (.slice Ab V.length cb) V ∧ Below w4.heap.size w4 wl ∧ wl.heap[w5.heap.size]? = some (.cells #[.int .u8 r1, .int .i64 r2, .int .u8 r3, .slice Aa V.length ca, .int .i64 r5, .bool r6] 25) ∧ wl.heap[w6.heap.size]? = some (.cells #[.int .u8 r1, .int .i64 r2, .int .u8 r3, .slice Ab V.length cb, .int .i64 r5, .bool r6] 25) ∧ w8.heap.size ≤ wl.heap.size))
  case atStart => exact ⟨0, V, by omega, rfl, rfl, ⟨HS.out⟩⟩
  case round =>
    obtain ⟨i, U, hi, hUl, rfl, HL⟩ := hrel
    clear HS
    have x2 := (blk_cell HL.out.2.2.2.1 3).trans rfl
    cases gk with
    | succ g =>
      have hlt : i < V.length := by omega
      obtain ⟨gu, cu', eu⟩ := R_head HL.out.1 (by omega)
      injection eu with eu1 eu2 eu3
      subst eu1
      clear eu2 eu3
      have hu5 := Kd.R_cell (W := wr) (enc := Value.int .u8) (h1 := fun _ => rfl) (g := gu) (cap := ca) (0 : Int) (by rw [hUl]; exact HL.out.1) (i : Int) (by omega) (by omega)
      rw [Int.toNat_natCast] at hu5
      obtain ⟨hu6, hu7⟩ := hu5
      have hokg := HL.out.1.1 gu rfl
      have hge := Kd.R_base HL.out.1 gu rfl
      have HUl := Aside0.mk hUl
      clear hUl
      have HP := Aside0.mk (And.intro (Kd.R_putg HL.out.1 (i : Int) (Go.bits .xor .u8 (rdOf 0 U (i : Int)) 85)) (And.intro (HL.out.2.2.1.setCell (p := ⟨gu, i, none⟩) hge (.int .u8 (Go.bits .xor .u8 (rdOf 0 U (i : Int)) 85))) (And.intro (Kd.R_far HL.out.2.1 (p := ⟨gu, i, none⟩) (fun k hk => by have h1 := HZ.out; show k ≠ gu; omega) (.int .u8 (Go.bits .xor .u8 (rdOf 0 U (i : Int)) 85))) (And.intro (blk_far HL.out.2.2.2.1 (p := ⟨gu, i, none⟩) (by have h1 := HZ.out; show w5.heap.size ≠ gu; omega) (.int .u8 (Go.bits .xor .u8 (rdOf 0 U (i : Int)) 85))) (blk_far HL.out.2.2.2.2.1 (p := ⟨gu, i, none⟩) (by have h1 := HZ.out; show w6.heap.size ≠ gu; omega) (.int .u8 (Go.bits .xor .u8 (rdOf 0 U (i : Int)) 85)))))))
      rw [Int.toNat_natCast] at HP
      have q8 : (0 ≤ (i : Int)) = True := eq_true (by omega)
      have q9 : ((i : Int) < (V.length : Int)) = True := eq_true (by omega)
      clear hokg hge
      go_wp2
      go_roundg g
      case measure => omega
      case rel => exact ⟨i + 1, U.set i (Go.bits .xor .u8 (rdOf 0 U (i : Int)) 85), by omega, by rw [List.length_set]; exact HUl.out, by go_num, ⟨HP.out.1.1, HP.out.2.2.1, HP.out.2.1, HP.out.2.2.2.1, HP.out.2.2.2.2, by have h := HL.out.2.2.2.2.2; simpa [World.setCell] using h⟩⟩
    | zero =>
      have q7 : ((i : Int) < (V.length : Int)) = False := eq_false (by omega)
      go_wp2
      clear x2
      go_loopg [14] 10 (fun g v14 wl => ∃ (j : Nat) (U : List Int) (A9 : Option Addr) (c9 : Nat), j + g = 10 ∧ U.length = V.length + j ∧ v14 = .int .i64 j ∧ Aside0 ((Kd.int .u8).R 5 wl w4.heap.size (fun k => k < w5.heap.size ∨ w8.heap.size ≤ k) (.slice A9 U.length c9) U ∧ (Kd.int .u8).R 5 wl (w5.heap.size + 1) (fun k => w5.heap.size + 1 ≤ k ∧ k < w6.heap.size) (.slice Ab V.length cb) V ∧ Below w4.heap.size w4 wl ∧ wl.heap[w5.heap.size]? = some (.cells #[.int .u8 r1, .int .i64 r2, .int .u8 r3, .slice A9 U.length c9, .int .i64 r5, .bool r6] 25) ∧ wl.heap[w6.heap.size]? = some (.cells #[.int .u8 r1, .int .i64 r2, .int .u8 r3, .slice Ab V.length cb, .int .i64 r5, .bool r6] 25) ∧ w8.heap.size ≤ wl.heap.size))
      case atStart => exact ⟨0, U, Aa, ca, by omega, by omega, rfl, ⟨by have h := HL.out; rw [← hUl] at h ⊢; exact h⟩⟩
      case round =>
        clear HL
        obtain ⟨j, U2, A9, c9, hj, hU2l, rfl, HL2⟩ := hrel
        have x2 := (blk_cell HL2.out.2.2.2.1 3).trans rfl
        cases gk with
        | succ g =>
          have q10 : ((j : Int) < 10) = True := eq_true (by omega)
          have HUL := Aside0.mk (And.intro hU2l hj)
          clear hU2l
          go_wp2_with (at_builtin; refine Kd.R_append (Kd.int .u8) (w0 := w4) w4.heap.size rfl (.tmp 113) (.tmp 114) 22 5 (.int .u8 0) 1 rfl Tryd.underlying22 infoB rfl (by decide) (by decide) (.slice A9 U2.length c9) U2 119 [.int .u8 119] (fun k => k < w5.heap.size ∨ w8.heap.size ≤ k) (fun _ => False) rfl rfl rfl (fun _ hk => hk.elim) (fun k hk => .inr (Nat.le_trans HL2.out.2.2.2.2.2 hk)) HL2.out.1 HL2.out.2.2.1 HL2.out.2.2.1.size (by have h_ := HUL.out; omega) ?_; intro v11 w11 hR hB hG hat; obtain ⟨A11, c11, e11⟩ := Kd.R_slice hR; subst e11; have BA11 := Aside0.mk (blk_grown HL2.out.2.2.2.1 hG (fun e => by have h1 := HL2.out.1.1 _ e.symm; have h2 := HZ.out; omega)); have BB11 := Aside0.mk (blk_grown HL2.out.2.2.2.2.1 hG (fun e => by have h1 := HL2.out.1.1 _ e.symm; have h2 := HZ.out; omega)); have RB11 := Aside0.mk (Kd.R_grown HL2.out.2.1 hG (fun k hk e => by have h1 := HL2.out.1.1 k e.symm; have h2 := HZ.out; omega)); have H11 := Aside0.mk (And.intro hR (And.intro hB (Nat.le_trans HL2.out.2.2.2.2.2 hG.size))); clear hR hB hG hat; have y2 := (blk_cell BA11.out 3).trans rfl; have y3 := blk_frozen BA11.out 3)
          go_roundg g
          case measure => omega
          case rel =>
            refine ⟨j + 1, U2 ++ [119], A11, c11, by have h_ := HUL.out; omega, by have h_ := HUL.out; rw [List.length_append, List.length_singleton]; omega, by go_num, ⟨Kd.R_far H11.out.1 (p := ⟨w5.heap.size, 3, none⟩) (fun k hk => by have h1 := HZ.out; show k ≠ w5.heap.size; omega) _, Kd.R_far RB11.out (p := ⟨w5.heap.size, 3, none⟩) (fun k hk => by show k ≠ w5.heap.size; omega) _, H11.out.2.1.setCell (p := ⟨w5.heap.size, 3, none⟩) H45.out _, by have h_ := blk_set BA11.out 3 (.slice A11 (U2.length + 1) c11); rw [List.length_append, List.length_singleton]; exact h_, blk_far BB11.out (p := ⟨w5.heap.size, 3, none⟩) (by have h1 := HZ.out; show w6.heap.size ≠ w5.heap.size; omega) _, by have h := H11.out.2.2; simpa [World.setCell] using h⟩⟩
        | zero =>
          have q10 : ((j : Int) < 10) = False := eq_false (by omega)
          obtain rfl : j = 10 := by omega
          rw [hU2l] at HL2 x2
          have BW9 := Aside0.mk (blk_below BW4.out HL2.out.2.2.1)
          have RW9 := Aside0.mk (Kd.R_below RW4.out HL2.out.2.2.1)
          have q3 : (0 ≤ (l0.length : Int)) = True := eq_true (by omega)
          have q4 : ((l0.length : Int) < (l0.length : Int) + 2) = True := eq_true (by omega)
          have q5 : ((l0.length : Int) + 1 < (l0.length : Int) + 2) = True := eq_true (by omega)
          have q6 : (0 ≤ (l0.length : Int) + 1) = True := eq_true (by omega)
          clear x2
          go_wp2
          refine start_ (n := 22) (S := fun w' => w'.cell? ⟨w6.heap.size, 0, none⟩ = some (.int .u8 r1) ∧ w'.cell? ⟨w6.heap.size, 1, none⟩ = some (.int .i64 r2) ∧ w'.cell? ⟨w6.heap.size, 2, none⟩ = some (.int .u8 r3) ∧ w'.cell? ⟨w6.heap.size, 3, none⟩ = some (.slice Ab V.length cb) ∧ w'.cell? ⟨w6.heap.size, 4, none⟩ = some (.int .i64 r5) ∧ w'.cell? ⟨w6.heap.size, 5, none⟩ = some (.bool r6) ∧ w'.cell? ⟨w2.heap.size, 0, none⟩ = some (.int .u8 r1) ∧ w'.cell? ⟨w2.heap.size, 1, none⟩ = some (.int .i64 r2) ∧ w'.cell? ⟨w2.heap.size, 2, none⟩ = some (.int .u8 r3) ∧ w'.cell? ⟨w2.heap.size, 3, none⟩ = some (.slice Aw V.length cw) ∧ w'.cell? ⟨w2.heap.size, 4, none⟩ = some (.int .i64 r5) ∧ w'.cell? ⟨w2.heap.size, 5, none⟩ = some (.bool r6) ∧ (convert 22 9 (.slice (some ⟨gr, 0, none⟩) l0.length cr)).run Tryd.prog w' = .ok (.string (strOfNums l0)) w' ∧ (convert 22 9 (.slice A0 l0.length c0)).run Tryd.prog w' = .ok (.string (strOfNums l0)) w' ∧ w'.cell? ⟨gr, l0.length, none⟩ = some (.int .u8 161)) (ds := []) #[false, false, false, false, false, false, false, false, false, false, false, false, false, false, false, false, false, false, false, false, false, false] (by kernel_rfl) rfl rfl ⟨(blk_cell (blk_below HL2.out.2.2.2.2.1 (below_drew (Below.refl wr.heap.size wr))) 0).trans rfl, (blk_cell (blk_below HL2.out.2.2.2.2.1 (below_drew (Below.refl wr.heap.size wr))) 1).trans rfl, (blk_cell (blk_below HL2.out.2.2.2.2.1 (below_drew (Below.refl wr.heap.size wr))) 2).trans rfl, (blk_cell (blk_below HL2.out.2.2.2.2.1 (below_drew (Below.refl wr.heap.size wr))) 3).trans rfl, (blk_cell (blk_below HL2.out.2.2.2.2.1 (below_drew (Below.refl wr.heap.size wr))) 4).trans rfl, (blk_cell (blk_below HL2.out.2.2.2.2.1 (below_drew (Below.refl wr.heap.size wr))) 5).trans rfl, (blk_cell (blk_below BW9.out (below_drew (Below.refl wr.heap.size wr))) 0).trans rfl, (blk_cell (blk_below BW9.out (below_drew (Below.refl wr.heap.size wr))) 1).trans rfl, (blk_cell (blk_below BW9.out (below_drew (Below.refl wr.heap.size wr))) 2).trans rfl, (blk_cell (blk_below BW9.out (below_drew (Below.refl wr.heap.size wr))) 3).trans rfl, (blk_cell (blk_below BW9.out (below_drew (Below.refl wr.heap.size wr))) 4).trans rfl, (blk_cell (blk_below BW9.out (below_drew (Below.refl wr.heap.size wr))) 5).trans rfl, Kd.C_string (P := Tryd.prog) (c := cr) Tryd.underlying22 Tryd.underlying5 Tryd.underlying9 (Kd.C_below HI.out (below_step HL2.out.2.2.1 (below_drew (Below.refl wr.heap.size wr)))), Kd.C_string (P := Tryd.prog) (c := c0) Tryd.underlying22 Tryd.underlying5 Tryd.underlying9 (Kd.C_below HT.out (below_step H1.out (below_step H14.out (below_step HL2.out.2.2.1 (below_drew (Below.refl wr.heap.size wr)))))), pw_cell_below (below_step HL2.out.2.2.1 (below_drew (Below.refl wr.heap.size wr))) HQ.out.1⟩ (fun hHeld => ?_)
          have HY0 := Aside0.mk (below_drew (Below.refl wr.heap.size wr))
          generalize wr.drew = Wc0 at HY0 hHeld ⊢
          refine take_ (i := 0) (N := some 117) (v := ?_) (a' := ?_) #[true, false, false, false, false, false, false, false, false, false, false, false, false, false, false, false, false, false, false, false, false, false] rfl rfl (by kernel_rfl) (fun _ _ _ h => h) (Or.inl ⟨by rfl, ?_⟩) hHeld ?_ ?_
          rotate_left
          · rintro w' ⟨s0, s1, s2, s3, s4, s5, s6, s7, s8, s9, s10, s11, s12, s13, s14⟩
            go_simp
            with_reducible rfl
          rotate_left
          · simp only [Act.put, List.setIfInBounds_toArray, List.set_cons_zero, List.set_cons_succ, i64_w, i32_w]
            rfl
          refine take_ (i := 1) (N := some 118) (v := ?_) (a' := ?_) #[true, true, false, false, false, false, false, false, false, false, false, false, false, false, false, false, false, false, false, false, false, false] rfl rfl (by kernel_rfl) (fun _ _ _ h => h) (Or.inl ⟨by rfl, ?_⟩) hHeld ?_ ?_
          rotate_left
          · rintro w' ⟨s0, s1, s2, s3, s4, s5, s6, s7, s8, s9, s10, s11, s12, s13, s14⟩
            go_simp
            with_reducible rfl
          rotate_left
          · simp only [Act.put, List.setIfInBounds_toArray, List.set_cons_zero, List.set_cons_succ, i64_w, i32_w]
            rfl
          refine one_ (i := 2) (N := some 119) #[true, true, true, false, false, false, false, false, false, false, false, false, false, false, false, false, false, false, false, false, false, false] rfl rfl (by kernel_rfl) (by decide) (fun K hK => ?_)
          refine goes_ Tryd.func13 (by kernel_rfl) rfl #[.agg #[.int .u8 r1, .int .i64 r2, .int .u8 r3, .slice Ab V.length cb, .int .i64 r5, .bool r6], .agg #[.int .u8 r1, .int .i64 r2, .int .u8 r3, .slice Aw V.length cw, .int .i64 r5, .bool r6]] (by rfl) rfl rfl (by simp only [List.map_toArray, List.map_cons, List.map_nil]; rfl) ?_
          with_reducible refine (HSM.out Wc0 Ab cb Aw cw (Kd.C_below (Kd.R_reads' HL2.out.2.1).2.2 HY0.out) hcB (Kd.C_below (Kd.R_reads' RW9.out).2.2 HY0.out) hcW).mono ?_
          rintro e w12 ⟨rfl, hB1⟩
          refine ⟨_, rfl, ?_⟩
          have HY1 := Aside0.mk (below_step HY0.out hB1)
          clear hB1
          refine hK.out _ _ ⟨(blk_cell (blk_below HL2.out.2.2.2.2.1 HY1.out) 0).trans rfl, (blk_cell (blk_below HL2.out.2.2.2.2.1 HY1.out) 1).trans rfl, (blk_cell (blk_below HL2.out.2.2.2.2.1 HY1.out) 2).trans rfl, (blk_cell (blk_below HL2.out.2.2.2.2.1 HY1.out) 3).trans rfl, (blk_cell (blk_below HL2.out.2.2.2.2.1 HY1.out) 4).trans rfl, (blk_cell (blk_below HL2.out.2.2.2.2.1 HY1.out) 5).trans rfl, (blk_cell (blk_below BW9.out HY1.out) 0).trans rfl, (blk_cell (blk_below BW9.out HY1.out) 1).trans rfl, (blk_cell (blk_below BW9.out HY1.out) 2).trans rfl, (blk_cell (blk_below BW9.out HY1.out) 3).trans rfl, (blk_cell (blk_below BW9.out HY1.out) 4).trans rfl, (blk_cell (blk_below BW9.out HY1.out) 5).trans rfl, Kd.C_string (P := Tryd.prog) (c := cr) Tryd.underlying22 Tryd.underlying5 Tryd.underlying9 (Kd.C_below HI.out (below_step HL2.out.2.2.1 HY1.out)), Kd.C_string (P := Tryd.prog) (c := c0) Tryd.underlying22 Tryd.underlying5 Tryd.underlying9 (Kd.C_below HT.out (below_step H1.out (below_step H14.out (below_step HL2.out.2.2.1 HY1.out)))), pw_cell_below (below_step HL2.out.2.2.1 HY1.out) HQ.out.1⟩ (fun hHeld => ?_)
          clear hK K
          refine norm_ (a' := ?_) ?_ ?_
          rotate_left
          · show Act.put _ (some 119) _ = _
            simp only [Act.put, List.setIfInBounds_toArray, List.set_cons_zero, List.set_cons_succ, i64_w, i32_w]
            rfl
          refine pure_ (i := 3) (N := some 120) (v := ?_) (a' := ?_) #[true, true, true, true, false, false, false, false, false, false, false, false, false, false, false, false, false, false, false, false, false, false] rfl rfl (by kernel_rfl) (fun _ _ _ h => h) (Or.inl ⟨by rfl, ?_⟩) ?_ ?_
          rotate_left
          · intro w'
            go_simp
            with_reducible rfl
          rotate_left
          · simp only [Act.put, List.setIfInBounds_toArray, List.set_cons_zero, List.set_cons_succ, i64_w, i32_w]
            rfl
          refine pure_ (i := 4) (N := some 121) (v := ?_) (a' := ?_) #[true, true, true, true, true, false, false, false, false, false, false, false, false, false, false, false, false, false, false, false, false, false] rfl rfl (by kernel_rfl) (fun _ _ _ h => h) (Or.inl ⟨by rfl, ?_⟩) ?_ ?_
          rotate_left
          · intro w'
            go_simp
            with_reducible rfl
          rotate_left
          · simp only [Act.put, List.setIfInBounds_toArray, List.set_cons_zero, List.set_cons_succ, i64_w, i32_w]
            rfl
          refine pure_ (i := 5) (N := some 122) (v := ?_) (a' := ?_) #[true, true, true, true, true, true, false, false, false, false, false, false, false, false, false, false, false, false, false, false, false, false] rfl rfl (by kernel_rfl) (fun _ _ _ h => h) (Or.inl ⟨by rfl, ?_⟩) ?_ ?_
          rotate_left
          · intro w'
            go_simp
            with_reducible rfl
          rotate_left
          · simp only [Act.put, List.setIfInBounds_toArray, List.set_cons_zero, List.set_cons_succ, i64_w, i32_w]
            rfl
          refine pure_ (i := 6) (N := some 123) (v := ?_) (a' := ?_) #[true, true, true, true, true, true, true, false, false, false, false, false, false, false, false, false, false, false, false, false, false, false] rfl rfl (by kernel_rfl) (fun _ _ _ h => h) (Or.inl ⟨by rfl, ?_⟩) ?_ ?_
          rotate_left
          · intro w'
            go_simp
            with_reducible rfl
          rotate_left
          · simp only [Act.put, List.setIfInBounds_toArray, List.set_cons_zero, List.set_cons_succ, i64_w, i32_w]
            rfl
          refine pure_ (i := 7) (N := some 124) (v := ?_) (a' := ?_) #[true, true, true, true, true, true, true, true, false, false, false, false, false, false, false, false, false, false, false, false, false, false] rfl rfl (by kernel_rfl) (fun _ _ _ h => h) (Or.inl ⟨by rfl, ?_⟩) ?_ ?_
          rotate_left
          · intro w'
            go_simp
            with_reducible rfl
          rotate_left
          · simp only [Act.put, List.setIfInBounds_toArray, List.set_cons_zero, List.set_cons_succ, i64_w, i32_w]
            rfl
          refine pure_ (i := 8) (N := some 125) (v := ?_) (a' := ?_) #[true, true, true, true, true, true, true, true, true, false, false, false, false, false, false, false, false, false, false, false, false, false] rfl rfl (by kernel_rfl) (fun _ _ _ h => h) (Or.inl ⟨by rfl, ?_⟩) ?_ ?_
          rotate_left
          · intro w'
            go_simp
            with_reducible rfl
          rotate_left
          · simp only [Act.put, List.setIfInBounds_toArray, List.set_cons_zero, List.set_cons_succ, i64_w, i32_w]
            rfl
          refine pure_ (i := 10) (N := some 127) (v := ?_) (a' := ?_) #[true, true, true, true, true, true, true, true, true, false, true, false, false, false, false, false, false, false, false, false, false, false] rfl rfl (by kernel_rfl) (fun _ _ _ h => h) (Or.inl ⟨by rfl, ?_⟩) ?_ ?_
          rotate_left
          · intro w'
            go_simp
            with_reducible rfl
          rotate_left
          · simp only [Act.put, List.setIfInBounds_toArray, List.set_cons_zero, List.set_cons_succ, i64_w, i32_w]
            rfl
          refine take_ (i := 9) (N := some 126) (v := ?_) (a' := ?_) #[true, true, true, true, true, true, true, true, true, true, true, false, false, false, false, false, false, false, false, false, false, false] rfl rfl (by kernel_rfl) (fun _ _ _ h => h) (Or.inl ⟨by rfl, ?_⟩) hHeld ?_ ?_
          rotate_left
          · rintro w' ⟨s0, s1, s2, s3, s4, s5, s6, s7, s8, s9, s10, s11, s12, s13, s14⟩
            go_simp
            with_reducible rfl
          rotate_left
          · simp only [Act.put, List.setIfInBounds_toArray, List.set_cons_zero, List.set_cons_succ, i64_w, i32_w]
            rfl
          refine take_ (i := 11) (N := some 128) (v := ?_) (a' := ?_) #[true, true, true, true, true, true, true, true, true, true, true, true, false, false, false, false, false, false, false, false, false, false] rfl rfl (by kernel_rfl) (fun _ _ _ h => h) (Or.inl ⟨by rfl, ?_⟩) hHeld ?_ ?_
          rotate_left
          · rintro w' ⟨s0, s1, s2, s3, s4, s5, s6, s7, s8, s9, s10, s11, s12, s13, s14⟩
            go_simp
            with_reducible rfl
          rotate_left
          · simp only [Act.put, List.setIfInBounds_toArray, List.set_cons_zero, List.set_cons_succ, i64_w, i32_w]
            rfl
          refine pure_ (i := 12) (N := some 129) (v := ?_) (a' := ?_) #[true, true, true, true, true, true, true, true, true, true, true, true, true, false, false, false, false, false, false, false, false, false] rfl rfl (by kernel_rfl) (fun _ _ _ h => h) (Or.inl ⟨by rfl, ?_⟩) ?_ ?_
          rotate_left
          · intro w'
            go_simp
            with_reducible rfl
          rotate_left
          · simp only [Act.put, List.setIfInBounds_toArray, List.set_cons_zero, List.set_cons_succ, i64_w, i32_w]
            rfl
          refine pure_ (i := 13) (N := some 130) (v := ?_) (a' := ?_) #[true, true, true, true, true, true, true, true, true, true, true, true, true, true, false, false, false, false, false, false, false, false] rfl rfl (by kernel_rfl) (fun _ _ _ h => h) (Or.inl ⟨by rfl, ?_⟩) ?_ ?_
          rotate_left
          · intro w'
            go_simp
            with_reducible rfl
          rotate_left
          · simp only [Act.put, List.setIfInBounds_toArray, List.set_cons_zero, List.set_cons_succ, i64_w, i32_w]
            rfl
          refine pure_ (i := 14) (N := some 131) (v := ?_) (a' := ?_) #[true, true, true, true, true, true, true, true, true, true, true, true, true, true, true, false, false, false, false, false, false, false] rfl rfl (by kernel_rfl) (fun _ _ _ h => h) (Or.inl ⟨by rfl, ?_⟩) ?_ ?_
          rotate_left
          · intro w'
            go_simp
            with_reducible rfl
          rotate_left
          · simp only [Act.put, List.setIfInBounds_toArray, List.set_cons_zero, List.set_cons_succ, i64_w, i32_w]
            rfl
          refine pure_ (i := 15) (N := some 132) (v := ?_) (a' := ?_) #[true, true, true, true, true, true, true, true, true, true, true, true, true, true, true, true, false, false, false, false, false, false] rfl rfl (by kernel_rfl) (fun _ _ _ h => h) (Or.inl ⟨by rfl, ?_⟩) ?_ ?_
          rotate_left
          · intro w'
            go_simp
            with_reducible rfl
          rotate_left
          · simp only [Act.put, List.setIfInBounds_toArray, List.set_cons_zero, List.set_cons_succ, i64_w, i32_w]
            rfl
          refine pure_ (i := 16) (N := some 133) (v := ?_) (a' := ?_) #[true, true, true, true, true, true, true, true, true, true, true, true, true, true, true, true, true, false, false, false, false, false] rfl rfl (by kernel_rfl) (fun _ _ _ h => h) (Or.inl ⟨by rfl, ?_⟩) ?_ ?_
          rotate_left
          · intro w'
            go_simp
            with_reducible rfl
          rotate_left
          · simp only [Act.put, List.setIfInBounds_toArray, List.set_cons_zero, List.set_cons_succ, i64_w, i32_w]
            rfl
          refine pure_ (i := 17) (N := some 134) (v := ?_) (a' := ?_) #[true, true, true, true, true, true, true, true, true, true, true, true, true, true, true, true, true, true, false, false, false, false] rfl rfl (by kernel_rfl) (fun _ _ _ h => h) (Or.inl ⟨by rfl, ?_⟩) ?_ ?_
          rotate_left
          · intro w'
            go_simp
            with_reducible rfl
          rotate_left
          · simp only [Act.put, List.setIfInBounds_toArray, List.set_cons_zero, List.set_cons_succ, i64_w, i32_w]
            rfl
          refine pure_ (i := 18) (N := some 135) (v := ?_) (a' := ?_) #[true, true, true, true, true, true, true, true, true, true, true, true, true, true, true, true, true, true, true, false, false, false] rfl rfl (by kernel_rfl) (fun _ _ _ h => h) (Or.inl ⟨by rfl, ?_⟩) ?_ ?_
          rotate_left
          · intro w'
            go_simp
            with_reducible rfl
          rotate_left
          · simp only [Act.put, List.setIfInBounds_toArray, List.set_cons_zero, List.set_cons_succ, i64_w, i32_w]
            rfl
          refine take_ (i := 19) (N := some 136) (v := ?_) (a' := ?_) #[true, true, true, true, true, true, true, true, true, true, true, true, true, true, true, true, true, true, true, true, false, false] rfl rfl (by kernel_rfl) (fun _ _ _ h => h) (Or.inl ⟨by rfl, ?_⟩) hHeld ?_ ?_
          rotate_left
          · rintro w' ⟨s0, s1, s2, s3, s4, s5, s6, s7, s8, s9, s10, s11, s12, s13, s14⟩
            go_simp
            with_reducible rfl
          rotate_left
          · simp only [Act.put, List.setIfInBounds_toArray, List.set_cons_zero, List.set_cons_succ, i64_w, i32_w]
            rfl
          refine pure_ (i := 20) (N := some 137) (v := ?_) (a' := ?_) #[true, true, true, true, true, true, true, true, true, true, true, true, true, true, true, true, true, true, true, true, true, false] rfl rfl (by kernel_rfl) (fun _ _ _ h => h) (Or.inl ⟨by rfl, ?_⟩) ?_ ?_
          rotate_left
          · intro w'
            go_simp
            with_reducible rfl
          rotate_left
          · simp only [Act.put, List.setIfInBounds_toArray, List.set_cons_zero, List.set_cons_succ, i64_w, i32_w]
            rfl
          refine pure_ (i := 21) (N := some 138) (v := ?_) (a' := ?_) #[true, true, true, true, true, true, true, true, true, true, true, true, true, true, true, true, true, true, true, true, true, true] rfl rfl (by kernel_rfl) (fun _ _ _ h => h) (Or.inl ⟨by rfl, ?_⟩) ?_ ?_
          rotate_left
          · intro w'
            go_simp
            with_reducible rfl
          rotate_left
          · simp only [Act.put, List.setIfInBounds_toArray, List.set_cons_zero, List.set_cons_succ, i64_w, i32_w]
            rfl
          refine done_ (by kernel_rfl) ?_

          clear hHeld
          have H12 := Aside0.mk HY1.out
          have HB12 := Aside0.mk (below_step HL2.out.2.2.1 H12.out)
          clear HY0 HY1
          have HL3 := Aside0.mk (show (Kd.int .u8).R 5 w12 (w2.heap.size + 1) (fun k => k < w5.heap.size) (.slice (some ⟨gr, 0, none⟩) (l0.length + 2) cr) (l0 ++ [161, 162]) ∧ (Kd.int .u8).R 5 w12 (w5.heap.size + 1) (fun k => w5.heap.size + 1 ≤ k ∧ k < w6.heap.size) (.slice Ab V.length cb) V ∧ Below (w2.heap.size + 1) (w2.alloc (.cells #[.int .u8 r1, .int .i64 r2, .int .u8 r3, .slice Aw V.length cw, .int .i64 r5, .bool r6] 25)) w12 ∧ w12.heap[w5.heap.size]? = some (.cells #[.int .u8 r1, .int .i64 r2, .int .u8 r3, .slice A9 (V.length + 10) c9, .int .i64 r5, .bool r6] 25) ∧ w12.heap[w6.heap.size]? = some (.cells #[.int .u8 r1, .int .i64 r2, .int .u8 r3, .slice Ab V.length cb, .int .i64 r5, .bool r6] 25) from
            ⟨Kd.R_below (Kd.R_mono (Kd.R_bound H4.out.1) (fun k hk => Nat.lt_of_lt_of_le hk.2.2.1 H45.out)) HB12.out, Kd.R_below HL2.out.2.1 H12.out, by have h := below_step HB4.out HB12.out; rw [World.size_alloc] at h; exact h, blk_below HL2.out.2.2.2.1 H12.out, blk_below HL2.out.2.2.2.2.1 H12.out⟩)
          go_wp2
          go_loopg [15] l0.length (fun g v15 wl => ∃ (m : Nat) (X : List Int), m + g = l0.length ∧ X.length = l0.length + 2 ∧ v15 = .int .i64 m ∧ Aside0 ((Kd.int .u8).R 5 wl (w2.heap.size + 1) (fun k => k < w5.heap.size) (.slice (some ⟨gr, 0, none⟩) (l0.length + 2) cr) X ∧ (Kd.int .u8).R 5 wl (w5.heap.size + 1) (fun k => w5.heap.size + 1 ≤ k ∧ k < w6.heap.size) (.slice Ab V.length cb) V ∧ Below (w2.heap.size + 1) (w2.alloc (.cells #[.int .u8 r1, .int .i64 r2, .int .u8 r3, .slice Aw V.length cw, .int .i64 r5, .bool r6] 25)) wl ∧ wl.heap[w5.heap.size]? = some (.cells #[.int .u8 r1, .int .i64 r2, .int .u8 r3, .slice A9 (V.length + 10) c9, .int .i64 r5, .bool r6] 25) ∧ wl.heap[w6.heap.size]? = some (.cells #[.int .u8 r1, .int .i64 r2, .int .u8 r3, .slice Ab V.length cb, .int .i64 r5, .bool r6] 25)))
          case atStart => exact ⟨0, l0 ++ [161, 162], by omega, hLl, rfl, HL3⟩
          case round =>
            clear HL3
            obtain ⟨m, X, hm, hXl, rfl, HL4⟩ := hrel
            cases gk with
            | succ g =>
              have hq1 := Kd.R_cell (W := wr) (enc := Value.int .u8) (h1 := fun _ => rfl) (g := gr) (cap := cr) (0 : Int) (by rw [hXl]; exact HL4.out.1) (m : Int) (by omega) (by omega)
              rw [Int.toNat_natCast] at hq1
              obtain ⟨hq2, hq3⟩ := hq1
              have hgk := HL4.out.1.1 gr rfl
              have HP := Aside0.mk (And.intro (Kd.R_putg HL4.out.1 (m : Int) (Go.bits .xor .u8 (rdOf 0 X (m : Int)) 85)) (And.intro (HL4.out.2.2.1.setCell (p := ⟨gr, m, none⟩) (Kd.R_base HL4.out.1 gr rfl) (.int .u8 (Go.bits .xor .u8 (rdOf 0 X (m : Int)) 85))) (And.intro (Kd.R_far HL4.out.2.1 (p := ⟨gr, m, none⟩) (fun k hk => by show k ≠ gr; omega) (.int .u8 (Go.bits .xor .u8 (rdOf 0 X (m : Int)) 85))) (And.intro (blk_far HL4.out.2.2.2.1 (p := ⟨gr, m, none⟩) (by show w5.heap.size ≠ gr; omega) (.int .u8 (Go.bits .xor .u8 (rdOf 0 X (m : Int)) 85))) (blk_far HL4.out.2.2.2.2 (p := ⟨gr, m, none⟩) (by have h1 := HZ.out; show w6.heap.size ≠ gr; omega) (.int .u8 (Go.bits .xor .u8 (rdOf 0 X (m : Int)) 85)))))))
              rw [Int.toNat_natCast] at HP
              have HXl := Aside0.mk hXl
              have q12 : (0 ≤ (m : Int)) = True := eq_true (by omega)
              have q13 : ((m : Int) < (l0.length : Int)) = True := eq_true (by omega)
              clear hgk hXl
              go_wp2
              go_roundg g
              case measure => omega
              case rel => exact ⟨m + 1, X.set m (Go.bits .xor .u8 (rdOf 0 X (m : Int)) 85), by omega, by rw [List.length_set]; exact HXl.out, by go_num, ⟨HP.out.1.1, HP.out.2.2.1, HP.out.2.1, HP.out.2.2.2.1, HP.out.2.2.2.2⟩⟩
            | zero =>
              have q13 : ((m : Int) < (l0.length : Int)) = False := eq_false (by omega)
              have HBr := Aside0.mk (show Below (w2.alloc (.cells #[.int .u8 r1, .int .i64 r2, .int .u8 r3, .slice Aw V.length cw, .int .i64 r5, .bool r6] 25)).heap.size (w2.alloc (.cells #[.int .u8 r1, .int .i64 r2, .int .u8 r3, .slice Aw V.length cw, .int .i64 r5, .bool r6] 25)) wr by rw [World.size_alloc]; exact HL4.out.2.2.1)
              have BWr := Aside0.mk (blk_below (blk_new w2 (.cells #[.int .u8 r1, .int .i64 r2, .int .u8 r3, .slice Aw V.length cw, .int .i64 r5, .bool r6] 25)) HBr.out)
              have RWr := Aside0.mk (Kd.R_below (Kd.R_below H2.out.2 (below_alloc (Below.refl _ _) (.cells #[.int .u8 r1, .int .i64 r2, .int .u8 r3, .slice Aw V.length cw, .int .i64 r5, .bool r6] 25))) HBr.out)
              have z0_ := (blk_cell HL4.out.2.2.2.2 0).trans rfl
              have z1_ := (blk_cell HL4.out.2.2.2.2 1).trans rfl
              have z2_ := (blk_cell HL4.out.2.2.2.2 2).trans rfl
              have z3_ := (blk_cell HL4.out.2.2.2.2 3).trans rfl
              have z4_ := (blk_cell HL4.out.2.2.2.2 4).trans rfl
              have z5_ := (blk_cell HL4.out.2.2.2.2 5).trans rfl
              have y0_ := (blk_cell BWr.out 0).trans rfl
              have y1_ := (blk_cell BWr.out 1).trans rfl
              have y2_ := (blk_cell BWr.out 2).trans rfl
              have y3_ := (blk_cell BWr.out 3).trans rfl
              have y4_ := (blk_cell BWr.out 4).trans rfl
              have y5_ := (blk_cell BWr.out 5).trans rfl
              clear hXl
              go_wp2_with (first
                | (go_at_call 13; (with_reducible refine (HSM.out _ _ _ _ _ (Kd.R_reads' HL4.out.2.1).2.2 hcB (Kd.R_reads' RWr.out).2.2 hcW).mono ?_); rintro e w13 ⟨rfl, hx⟩; have H13 := Aside0.mk hx; clear hx; have u2_ := (blk_cell (blk_below HL4.out.2.2.2.1 H13.out) 3).trans rfl; have t2_ := (blk_cell (blk_below BWr.out H13.out) 3).trans rfl))
              exact bodyPost_ret (v := .bool true) (by simp [results, Tryd.results3, go_sem]) rfl ⟨rfl, below_step H1.out (below_step (below_alloc H2.out.1 (.cells #[.int .u8 r1, .int .i64 r2, .int .u8 r3, .slice Aw V.length cw, .int .i64 r5, .bool r6] 25)) (below_step HBr.out H13.out))⟩
end Go.Proofs.YtdhdngoeaneanaaDoor.WalkAddressParses
