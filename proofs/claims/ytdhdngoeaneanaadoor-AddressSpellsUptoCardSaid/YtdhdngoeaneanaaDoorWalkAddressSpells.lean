/-
  AddressSpells: the walk.
  Conditions: what comes in is of bulk at most 1048576; Go's table of powers of ten is laid.
-/
import Derived.Test.YtdhdngoeaneanaaDoorATAddressSpells
import Derived.Test.YtdhdngoeaneanaaDoorADAddressSpells
import Derived.Test.YtdhdngoeaneanaaDoorXS
import Derived.Test.YtdhdngoeaneanaaDoorX51
import Derived.Lib.Hide
namespace Go.Proofs.YtdhdngoeaneanaaDoor.WalkAddressSpells
open Go.RowKit Go.Proofs.YtdhdngoeaneanaaDoorW.PrintWords Go.Proofs.YtdhdngoeaneanaaDoorW.PrintLast Go.Proofs.YtdhdngoeaneanaaDoorW.PrintMore Go.Proofs.YtdhdngoeaneanaaDoor.X Go.Proofs.YtdhdngoeaneanaaDoor.XL Go.Proofs.YtdhdngoeaneanaaDoor.XO Go.Proofs.YtdhdngoeaneanaaDoor.PT Go.Proofs.YtdhdngoeaneanaaDoor.AD
set_option linter.unusedVariables false
set_option linter.unusedSimpArgs false
theorem R_head {e base : Nat} {ok : Nat → Prop} {w : World} {v : Value} {xs : List Int} (h : (Kd.int .u8).R e w base ok v xs) (hn : 0 < xs.length) : ∃ g c, v = .slice (some ⟨g, 0, none⟩) xs.length c := by
  have ho := Kd.own_of_R h
  rcases ho.2 with ⟨_, h0⟩ | ⟨g, cap, cur, hv, _⟩
  · omega
  · exact ⟨g, cap, hv⟩
theorem empty_R (w : World) : (Kd.int .u8).R 5 (w.alloc (.cells #[] 5)) w.heap.size (fun _ => True) (.slice (some ⟨w.heap.size, 0, none⟩) 0 0) [] := Kd.R_of_own (enc := Value.int .u8) (h1 := fun _ => rfl) ⟨rfl, .inr ⟨w.heap.size, 0, #[], rfl, Nat.le_refl _, heap_alloc_new w _, Nat.le_refl _, by simp [maxLen], rfl, rfl⟩⟩ (fun _ _ => trivial)
theorem xor_u8 (x y : Int) : 0 ≤ Go.bits .xor .u8 x y ∧ Go.bits .xor .u8 x y ≤ 255 := by
  unfold Go.bits
  simp only [IntKind.wrap, IntKind.bits, IntKind.signed]
  simp
  omega
set_option maxHeartbeats 16000000 in
set_option maxRecDepth 100000 in
theorem walk (x0 : S25) (A0_3 : Option Addr) (c0_3 : Nat) (w : World) (hr0_3 : Kd.C (Kd.int .u8) w A0_3 x0.f3.length x0.f3) (hc0_3 : x0.f3.length ≤ c0_3) (o0 : okS25 x0) (hb : (szS25 x0 ≤ 1048576)) (htab : Tab w) :
    Calls Tryd.prog 4 #[.agg #[.int .u8 x0.f0, .int .i64 x0.f1, .int .u8 x0.f2, .slice A0_3 x0.f3.length c0_3, .int .i64 x0.f4, .bool x0.f5]] w fun e w' => e = .returned (.bool true) ∧ Below w.heap.size w w' := by
  obtain ⟨base, num, name, text, add, given⟩ := x0
  simp only at hr0_3 hc0_3 hb ⊢
  have hl : text.length ≤ 1048576 := by have h1 := szSl_length (szOne (α := Int)) (fun _ => Nat.le_refl _) text; unfold szS25 at hb; simp only at hb; omega
  clear hb o0
  have BX := Aside0.mk (blk_new w (.cells #[.int .u8 base, .int .i64 num, .int .u8 name, .slice A0_3 text.length c0_3, .int .i64 add, .bool given] 25))
  have HB := Aside0.mk (below_alloc (Below.refl w.heap.size w) (.cells #[.int .u8 base, .int .i64 num, .int .u8 name, .slice A0_3 text.length c0_3, .int .i64 add, .bool given] 25))
  have HA := Aside0.mk (alive_calls (w := w.alloc (.cells #[.int .u8 base, .int .i64 num, .int .u8 name, .slice A0_3 text.length c0_3, .int .i64 add, .bool given] 25)) (htab.below (below_alloc (Below.refl w.heap.size w) (.cells #[.int .u8 base, .int .i64 num, .int .u8 name, .slice A0_3 text.length c0_3, .int .i64 add, .bool given] 25))))
  obtain ⟨s, hse⟩ : ∃ s, s = spellV base num name text add given := ⟨_, rfl⟩
  have hsl : s.length ≤ 1048700 := by
    rw [hse]
    unfold spellV
    split
    · rename_i hs
      have h1 : (headV base num name text).length ≤ text.length + 21 := head_len (sound_num hs)
      obtain ⟨_, _, _, _, _, _, _, _, _, e7, e8⟩ := back (name := name) hs
      have h2 : (tailV base add).length ≤ 22 := tail_len ⟨e7, e8⟩
      rw [List.length_append]
      omega
    · exact Nat.zero_le _
  have HSP : Aside0 (∀ (W : World) (A : Option Addr) (c : Nat), Below w.heap.size w W → (Kd.int .u8).C W A text.length text → text.length ≤ c → Calls Tryd.prog 15 #[.agg #[.int .u8 base, .int .i64 num, .int .u8 name, .slice A text.length c, .int .i64 add, .bool given]] W fun e w' => ∃ v, e = .returned v ∧ (Kd.int .u8).R 5 w' W.heap.size (fun _ => True) v s ∧ Below W.heap.size W w') := ⟨fun W A c h hC hc => by
    cases hs : soundV base num text add given with
    | false =>
      have h1 := spell_no (name := name) hC hc hl hs
      rw [show s = [] from by rw [hse]; unfold spellV; rw [hs]; rfl]
      exact h1.mono fun e w' ⟨h2, h3⟩ => ⟨_, h2, Kd.R_nil _ _ _ _ _, h3⟩
    | true =>
      have h1 := spell_yes (name := name) hC hc hl (htab.below h) hs
      rw [show s = headV base num name text ++ tailV base add from by rw [hse]; unfold spellV; rw [if_pos hs]]
      exact h1⟩
  have HRS : Aside0 (∀ W : World, Below w.heap.size w W → Calls Tryd.prog 14 #[.agg #[.int .u8 base, .int .i64 num, .int .u8 name, .slice A0_3 text.length c0_3, .int .i64 add, .bool given]] W fun e w' => ∃ v, e = .returned v ∧ (Kd.int .u8).R 5 w' W.heap.size (fun _ => True) v s ∧ Below W.heap.size W w') := by
    obtain ⟨k, h⟩ := rspell_ev base num name text add given hl
    rw [← hse] at h
    exact ⟨fun W hW => quoinref23_Spell.calls k base num name A0_3 c0_3 text add given s W (Kd.C_below hr0_3 hW) hc0_3 (h k (Nat.le_refl _))⟩
  have HS : Aside0 (∀ (W : World) (A : Option Addr) (c : Nat) (A' : Option Addr) (c' : Nat), (Kd.int .u8).C W A text.length text → text.length ≤ c → (Kd.int .u8).C W A' text.length text → text.length ≤ c' → Calls Tryd.prog 13 #[.agg #[.int .u8 base, .int .i64 num, .int .u8 name, .slice A text.length c, .int .i64 add, .bool given], .agg #[.int .u8 base, .int .i64 num, .int .u8 name, .slice A' text.length c', .int .i64 add, .bool given]] W fun e w' => e = .returned (.bool true) ∧ Below W.heap.size W w') :=
    ⟨fun W A c A' c' h1 h2 h3 h4 => quoinlaw23_same.calls base num name A c text add given base num name A' c' text add given true W h1 h2 h3 h4 (by unfold quoinlaw23_same.f; simp)⟩
  clear hse
  have HT := Aside0.mk hr0_3
  clear hr0_3 htab
  go_enter Tryd.func4, Tryd.ntmps4
  go_wp2_with (first
    | (go_at_call 10; (with_reducible refine HA.out.mono ?_); rintro e w1 ⟨rfl, hx⟩; have H1 := Aside0.mk (below_step HB.out hx); have BX1 := Aside0.mk (blk_below BX.out hx); clear hx; have x0 := fun o_ => (blk_cell (blk_alloc BX1.out o_) 0).trans rfl; have x1 := fun o_ => (blk_cell (blk_alloc BX1.out o_) 1).trans rfl; have x2 := fun o_ => (blk_cell (blk_alloc BX1.out o_) 2).trans rfl; have x3 := fun o_ => (blk_cell (blk_alloc BX1.out o_) 3).trans rfl; have x4 := fun o_ => (blk_cell (blk_alloc BX1.out o_) 4).trans rfl; have x5 := fun o_ => (blk_cell (blk_alloc BX1.out o_) 5).trans rfl; have xp0 := (blk_cell BX1.out 0).trans rfl; have xp1 := (blk_cell BX1.out 1).trans rfl; have xp2 := (blk_cell BX1.out 2).trans rfl; have xp3 := (blk_cell BX1.out 3).trans rfl; have xp4 := (blk_cell BX1.out 4).trans rfl; have xp5 := (blk_cell BX1.out 5).trans rfl; have e3 := (blk_cell (blk_alloc (blk_alloc BX1.out (.cells #[.int .u8 base, .int .i64 num, .int .u8 name, .slice A0_3 text.length c0_3, .int .i64 add, .bool given] 25)) (.cells #[] 5)) 3).trans rfl; have HE3 := Aside0.mk (by have h := empty_R (w1.alloc (.cells #[.int .u8 base, .int .i64 num, .int .u8 name, .slice A0_3 text.length c0_3, .int .i64 add, .bool given] 25)); rw [World.size_alloc] at h; exact h); have HB3 := Aside0.mk (by have h := below_alloc (Below.refl (w1.alloc (.cells #[.int .u8 base, .int .i64 num, .int .u8 name, .slice A0_3 text.length c0_3, .int .i64 add, .bool given] 25)).heap.size (w1.alloc (.cells #[.int .u8 base, .int .i64 num, .int .u8 name, .slice A0_3 text.length c0_3, .int .i64 add, .bool given] 25))) (.cells #[] 5); rw [World.size_alloc] at h; exact h))
    | (at_builtin; refine Kd.R_append_row (Value.int .u8) (0 : Int) (h1 := fun _ => rfl) (w0 := (w1.alloc (.cells #[.int .u8 base, .int .i64 num, .int .u8 name, .slice A0_3 text.length c0_3, .int .i64 add, .bool given] 25))) (w1.heap.size + 1) rfl (.tmp 13) (.tmp 15) 22 5 (.int .u8 0) 1 rfl Tryd.underlying22 infoB rfl (by decide) (.slice (some ⟨w1.heap.size + 1, 0, none⟩) 0 0) [] text A0_3 text.length c0_3 (fun _ => True) rfl rfl (fun _ _ => trivial) HE3.out (Kd.C_below HT.out (below_step H1.out (below_alloc (below_alloc (Below.refl w1.heap.size w1) (.cells #[.int .u8 base, .int .i64 num, .int .u8 name, .slice A0_3 text.length c0_3, .int .i64 add, .bool given] 25)) (.cells #[] 5)))) HB3.out (by simp only [World.size_alloc]; omega) (by simp only [List.length_nil]; omega) ?_; intro v3 w3 hR hB _ _; have H3 := Aside0.mk (And.intro hR hB); clear hR hB)
    | (at_builtin; refine Kd.R_append_row (Value.int .u8) (0 : Int) (h1 := fun _ => rfl) (w0 := (w1.alloc (.cells #[.int .u8 base, .int .i64 num, .int .u8 name, .slice A0_3 text.length c0_3, .int .i64 add, .bool given] 25))) (w1.heap.size + 1) rfl (.tmp 16) (.tmp 17) 22 5 (.int .u8 0) 1 rfl Tryd.underlying22 infoB rfl (by decide) v3 ([] ++ text) [161, 162] (some ⟨w3.heap.size, 0, none⟩) 2 2 (fun _ => True) rfl rfl (fun _ _ => trivial) (Kd.R_alloc H3.out.1 (.cells #[.int .u8 161, .int .u8 162] 5)) (u8_C (xs := [161, 162]) (fr := (0, 0)) (blk_new w3 _) (by decide)) (H3.out.2.alloc (by have h := H3.out.2.size; rw [World.size_alloc] at h; exact h) _) (by have h := H3.out.2.size; simp only [World.size_alloc] at h ⊢; omega) (by simp only [List.nil_append]; omega) ?_; intro v4 w4 hR hB _ _; have H4 := Aside0.mk (And.intro hR hB); clear hR hB; refine Hid.out ?_))
  have hLe : [] ++ text ++ [161, 162] = text ++ [161, 162] := by simp
  rw [hLe] at H4
  clear hLe
  obtain ⟨gr, cr, er⟩ := R_head H4.out.1 (by simp)
  have hLl : (text ++ [161, 162] : List Int).length = text.length + 2 := by simp
  rw [hLl] at er
  subst er
  have hcr : text.length + 2 ≤ cr := by have h := (Kd.R_reads' H4.out.1).2.1; exact h
  have hcr2 : text.length ≤ cr := by omega
  obtain ⟨i0, hi0, hsz⟩ : ∃ i, Tryd.prog.info? 5 = some i ∧ i.size = 1 := ⟨_, rfl, rfl⟩
  have hcut := cut_to (P := Tryd.prog) 22 5 .i64 Tryd.underlying22 hi0 (some ⟨gr, 0, none⟩) (text.length + 2) cr (text.length : Int) (by omega) (by omega) hcr
  rw [Int.toNat_natCast] at hcut
  clear hi0 hsz
  have hB4 : Below (w1.alloc (.cells #[.int .u8 base, .int .i64 num, .int .u8 name, .slice A0_3 text.length c0_3, .int .i64 add, .bool given] 25)).heap.size (w1.alloc (.cells #[.int .u8 base, .int .i64 num, .int .u8 name, .slice A0_3 text.length c0_3, .int .i64 add, .bool given] 25)) w4 := by rw [World.size_alloc]; exact H4.out.2
  have HB4 := Aside0.mk hB4
  clear hB4
  have hgr : w1.heap.size + 1 ≤ gr := Kd.R_base H4.out.1 gr rfl
  have BO4 := Aside0.mk (blk_below (blk_new w1 (.cells #[.int .u8 base, .int .i64 num, .int .u8 name, .slice A0_3 text.length c0_3, .int .i64 add, .bool given] 25)) HB4.out)
  have BX4 := Aside0.mk (blk_below (blk_alloc BX1.out (.cells #[.int .u8 base, .int .i64 num, .int .u8 name, .slice A0_3 text.length c0_3, .int .i64 add, .bool given] 25)) HB4.out)
  have H14 := Aside0.mk (below_step (below_alloc (Below.refl w1.heap.size w1) (.cells #[.int .u8 base, .int .i64 num, .int .u8 name, .slice A0_3 text.length c0_3, .int .i64 add, .bool given] 25)) HB4.out)
  have HI := Aside0.mk (show (Kd.int .u8).C w4 (some ⟨gr, 0, none⟩) text.length text from by
    have h := Kd.C_take (m := text.length) (Kd.R_reads' H4.out.1).2.2 (by omega)
    rw [List.take_append_of_le_length (Nat.le_refl _), List.take_length] at h
    exact h)
  have hq1 := Kd.R_cell (W := w4) (enc := Value.int .u8) (h1 := fun _ => rfl) (g := gr) (cap := cr) (0 : Int) (by rw [hLl]; exact H4.out.1) (text.length : Int) (by omega) (by rw [hLl]; omega)
  have hq2 := Kd.R_cell (W := w4) (enc := Value.int .u8) (h1 := fun _ => rfl) (g := gr) (cap := cr) (0 : Int) (by rw [hLl]; exact H4.out.1) ((text.length + 1 : Nat) : Int) (by omega) (by rw [hLl]; omega)
  have hz1 : rdOf (0 : Int) (text ++ [161, 162]) (text.length : Int) = 161 := by unfold rdOf; rw [Int.toNat_natCast, List.getD_eq_getElem?_getD, List.getElem?_append_right (Nat.le_refl _), Nat.sub_self]; rfl
  have hz2 : rdOf (0 : Int) (text ++ [161, 162]) ((text.length + 1 : Nat) : Int) = 162 := by unfold rdOf; rw [Int.toNat_natCast, List.getD_eq_getElem?_getD, List.getElem?_append_right (by omega), show text.length + 1 - text.length = 1 from by omega]; rfl
  rw [hz1, Int.toNat_natCast] at hq1
  rw [hz2, Int.toNat_natCast] at hq2
  clear hq1 hq2 hz1 hz2 H3 e3 HE3 HB3 x0 xp0 x1 xp1 x2 xp2 x3 xp3 x4 xp4 x5 xp5
  -- behind the store into own
  have hww : w.heap.size < w1.heap.size := blk_lt BX1.out
  have RF5 := Aside0.mk (Kd.R_far (Kd.R_mono (ok' := fun k => w1.heap.size + 1 ≤ k) (Kd.R_bound H4.out.1) (fun k hk => hk.2.1)) (p := ⟨w1.heap.size, 3, none⟩) (fun k hk => by show k ≠ w1.heap.size; omega) (.slice (some ⟨gr, 0, none⟩) text.length cr))
  have BO5 := Aside0.mk (blk_set BO4.out 3 (.slice (some ⟨gr, 0, none⟩) text.length cr))
  have BX5 := Aside0.mk (blk_far BX4.out (p := ⟨w1.heap.size, 3, none⟩) (by show w.heap.size ≠ w1.heap.size; omega) (.slice (some ⟨gr, 0, none⟩) text.length cr))
  have H15 := Aside0.mk (H14.out.setCell (p := ⟨w1.heap.size, 3, none⟩) (Nat.le_refl _) (.slice (some ⟨gr, 0, none⟩) text.length cr))
  have HI5 := Aside0.mk (show (Kd.int .u8).C (w4.setCell ⟨w1.heap.size, 3, none⟩ (.slice (some ⟨gr, 0, none⟩) text.length cr)) (some ⟨gr, 0, none⟩) text.length text from by
    have h := Kd.C_take (m := text.length) (Kd.R_reads' RF5.out).2.2 (by omega)
    rw [List.take_append_of_le_length (Nat.le_refl _), List.take_length] at h
    exact h)
  have hq1 := Kd.R_cell (W := (w4.setCell ⟨w1.heap.size, 3, none⟩ (.slice (some ⟨gr, 0, none⟩) text.length cr))) (enc := Value.int .u8) (h1 := fun _ => rfl) (g := gr) (cap := cr) (0 : Int) (by rw [hLl]; exact RF5.out) (text.length : Int) (by omega) (by rw [hLl]; omega)
  have hq2 := Kd.R_cell (W := (w4.setCell ⟨w1.heap.size, 3, none⟩ (.slice (some ⟨gr, 0, none⟩) text.length cr))) (enc := Value.int .u8) (h1 := fun _ => rfl) (g := gr) (cap := cr) (0 : Int) (by rw [hLl]; exact RF5.out) ((text.length + 1 : Nat) : Int) (by omega) (by rw [hLl]; omega)
  have hz1 : rdOf (0 : Int) (text ++ [161, 162]) (text.length : Int) = 161 := by unfold rdOf; rw [Int.toNat_natCast, List.getD_eq_getElem?_getD, List.getElem?_append_right (Nat.le_refl _), Nat.sub_self]; rfl
  have hz2 : rdOf (0 : Int) (text ++ [161, 162]) ((text.length + 1 : Nat) : Int) = 162 := by unfold rdOf; rw [Int.toNat_natCast, List.getD_eq_getElem?_getD, List.getElem?_append_right (by omega), show text.length + 1 - text.length = 1 from by omega]; rfl
  rw [hz1, Int.toNat_natCast] at hq1
  rw [hz2, Int.toNat_natCast] at hq2
  have HQ := Aside0.mk (And.intro hq1.1 hq2.1)
  clear hq1 hq2 hz1 hz2 hww
  have f3 := (blk_cell BX4.out 3).trans rfl
  have o3 := (blk_cell BO4.out 3).trans rfl
  have o4 := blk_frozen BO4.out 3
  have g0 := (blk_cell BX5.out 0).trans rfl
  have g1 := (blk_cell BX5.out 1).trans rfl
  have g2 := (blk_cell BX5.out 2).trans rfl
  have g3 := (blk_cell BX5.out 3).trans rfl
  have g4 := (blk_cell BX5.out 4).trans rfl
  have g5 := (blk_cell BX5.out 5).trans rfl
  refine Lib.hid ?_
  go_wp2_with (go_at_call 14; (with_reducible refine (HRS.out _ (below_step H1.out H15.out)).mono ?_); rintro e w6 ⟨vw, rfl, hr, hx⟩; obtain ⟨Aw, cw, ew⟩ := Kd.R_slice hr; subst ew; have HW6 := Aside0.mk hr; have HB6 := Aside0.mk (below_step (below_step H1.out H15.out) hx); have BX6 := Aside0.mk (blk_below BX5.out hx); have BO6 := Aside0.mk (show w6.heap[w1.heap.size]? = some (.cells #[.int .u8 base, .int .i64 num, .int .u8 name, .slice (some ⟨gr, 0, none⟩) text.length cr, .int .i64 add, .bool given] 25) from blk_below BO5.out hx); have HI6 := Aside0.mk (Kd.C_below HI5.out hx); have HQ6 := Aside0.mk (And.intro (pw_cell_below hx HQ.out.1) (pw_cell_below hx HQ.out.2)); clear hr hx)
  clear f3 o3 o4 g0 g1 g2 g3 g4 g5
  refine start_ (n := 6) (S := fun w' => w'.cell? ⟨w1.heap.size, 0, none⟩ = some (.int .u8 base) ∧ w'.cell? ⟨w1.heap.size, 1, none⟩ = some (.int .i64 num) ∧ w'.cell? ⟨w1.heap.size, 2, none⟩ = some (.int .u8 name) ∧ w'.cell? ⟨w1.heap.size, 3, none⟩ = some (.slice (some ⟨gr, 0, none⟩) text.length cr) ∧ w'.cell? ⟨w1.heap.size, 4, none⟩ = some (.int .i64 add) ∧ w'.cell? ⟨w1.heap.size, 5, none⟩ = some (.bool given)) (ds := []) #[false, false, false, false, false, false] (by kernel_rfl) rfl rfl ⟨(blk_cell (blk_below BO6.out (below_drew (Below.refl w6.heap.size w6))) 0).trans rfl, (blk_cell (blk_below BO6.out (below_drew (Below.refl w6.heap.size w6))) 1).trans rfl, (blk_cell (blk_below BO6.out (below_drew (Below.refl w6.heap.size w6))) 2).trans rfl, (blk_cell (blk_below BO6.out (below_drew (Below.refl w6.heap.size w6))) 3).trans rfl, (blk_cell (blk_below BO6.out (below_drew (Below.refl w6.heap.size w6))) 4).trans rfl, (blk_cell (blk_below BO6.out (below_drew (Below.refl w6.heap.size w6))) 5).trans rfl⟩ (fun hHeld => ?_)
  have HY0 := Aside0.mk (below_drew (Below.refl w6.heap.size w6))
  generalize w6.drew = Wc0 at HY0 hHeld ⊢
  refine take_ (i := 0) (N := some 27) (v := ?_) (a' := ?_) #[true, false, false, false, false, false] rfl rfl (by kernel_rfl) (fun _ _ _ h => h) (Or.inl ⟨by rfl, ?_⟩) hHeld ?_ ?_
  rotate_left
  · rintro w' ⟨s0, s1, s2, s3, s4, s5⟩
    go_simp
    with_reducible rfl
  rotate_left
  · simp only [Act.put, List.setIfInBounds_toArray, List.set_cons_zero, List.set_cons_succ, i64_w, i32_w]
    rfl
  refine take_ (i := 2) (N := some 29) (v := ?_) (a' := ?_) #[true, false, true, false, false, false] rfl rfl (by kernel_rfl) (fun _ _ _ h => h) (Or.inl ⟨by rfl, ?_⟩) hHeld ?_ ?_
  rotate_left
  · rintro w' ⟨s0, s1, s2, s3, s4, s5⟩
    go_simp
    with_reducible rfl
  rotate_left
  · simp only [Act.put, List.setIfInBounds_toArray, List.set_cons_zero, List.set_cons_succ, i64_w, i32_w]
    rfl
  refine one_ (i := 1) (N := some 28) #[true, true, true, false, false, false] rfl rfl (by kernel_rfl) (by decide) (fun K hK => ?_)
  refine goes_ Tryd.func15 (by kernel_rfl) rfl #[.agg #[.int .u8 base, .int .i64 num, .int .u8 name, .slice (some ⟨gr, 0, none⟩) text.length cr, .int .i64 add, .bool given]] (by rfl) rfl rfl (by simp only [List.map_toArray, List.map_cons, List.map_nil]; rfl) ?_
  with_reducible refine (HSP.out Wc0 (some ⟨gr, 0, none⟩) cr (below_step HB6.out HY0.out) (Kd.C_below HI6.out HY0.out) hcr2).mono ?_
  rintro e Wc1 ⟨v6, rfl, hR1, hB1⟩
  refine ⟨_, rfl, ?_⟩
  have HY1 := Aside0.mk (below_step HY0.out hB1)
  have HR1 := Aside0.mk hR1
  have HZ1 := Aside0.mk hB1
  clear hR1 hB1
  refine hK.out _ _ ⟨(blk_cell (blk_below BO6.out HY1.out) 0).trans rfl, (blk_cell (blk_below BO6.out HY1.out) 1).trans rfl, (blk_cell (blk_below BO6.out HY1.out) 2).trans rfl, (blk_cell (blk_below BO6.out HY1.out) 3).trans rfl, (blk_cell (blk_below BO6.out HY1.out) 4).trans rfl, (blk_cell (blk_below BO6.out HY1.out) 5).trans rfl⟩ (fun hHeld => ?_)
  clear hK K
  refine norm_ (a' := ?_) ?_ ?_
  rotate_left
  · show Act.put _ (some 28) _ = _
    simp only [Act.put, List.setIfInBounds_toArray, List.set_cons_zero, List.set_cons_succ, i64_w, i32_w]
    rfl
  refine one_ (i := 3) (N := some 30) #[true, true, true, true, false, false] rfl rfl (by kernel_rfl) (by decide) (fun K hK => ?_)
  refine goes_ Tryd.func15 (by kernel_rfl) rfl #[.agg #[.int .u8 base, .int .i64 num, .int .u8 name, .slice (some ⟨gr, 0, none⟩) text.length cr, .int .i64 add, .bool given]] (by rfl) rfl rfl (by simp only [List.map_toArray, List.map_cons, List.map_nil]; rfl) ?_
  with_reducible refine (HSP.out Wc1 (some ⟨gr, 0, none⟩) cr (below_step HB6.out HY1.out) (Kd.C_below HI6.out HY1.out) hcr2).mono ?_
  rintro e w8 ⟨v7, rfl, hR2, hB2⟩
  refine ⟨_, rfl, ?_⟩
  have HY2 := Aside0.mk (below_step HY1.out hB2)
  have HR2 := Aside0.mk hR2
  have HZ2 := Aside0.mk hB2
  clear hR2 hB2
  refine hK.out _ _ ⟨(blk_cell (blk_below BO6.out HY2.out) 0).trans rfl, (blk_cell (blk_below BO6.out HY2.out) 1).trans rfl, (blk_cell (blk_below BO6.out HY2.out) 2).trans rfl, (blk_cell (blk_below BO6.out HY2.out) 3).trans rfl, (blk_cell (blk_below BO6.out HY2.out) 4).trans rfl, (blk_cell (blk_below BO6.out HY2.out) 5).trans rfl⟩ (fun hHeld => ?_)
  clear hK K
  refine norm_ (a' := ?_) ?_ ?_
  rotate_left
  · show Act.put _ (some 30) _ = _
    simp only [Act.put, List.setIfInBounds_toArray, List.set_cons_zero, List.set_cons_succ, i64_w, i32_w]
    rfl
  refine pure_ (i := 4) (N := some 6) (v := ?_) (a' := ?_) #[true, true, true, true, true, false] rfl rfl (by kernel_rfl) (fun _ _ _ h => h) (Or.inl ⟨by rfl, ?_⟩) ?_ ?_
  rotate_left
  · intro w'
    go_simp
    with_reducible rfl
  rotate_left
  · simp only [Act.put, List.setIfInBounds_toArray, List.set_cons_zero, List.set_cons_succ, i64_w, i32_w]
    rfl
  refine pure_ (i := 5) (N := some 7) (v := ?_) (a' := ?_) #[true, true, true, true, true, true] rfl rfl (by kernel_rfl) (fun _ _ _ h => h) (Or.inl ⟨by rfl, ?_⟩) ?_ ?_
  rotate_left
  · intro w'
    go_simp
    with_reducible rfl
  rotate_left
  · simp only [Act.put, List.setIfInBounds_toArray, List.set_cons_zero, List.set_cons_succ, i64_w, i32_w]
    rfl
  refine done_ (by kernel_rfl) ?_

  have hRb := Kd.R_lower (Kd.R_below (Kd.R_mono (ok' := fun k_ => some k_ ≠ (v7 : Value).ownBlock) (Kd.R_bound HR1.out) (fun k hk e => by have h1 := Kd.R_base HR2.out k e.symm; have h2 := hk.2.2.1; omega)) HZ2.out) HY0.out.size
  have hRc := Kd.R_lower (Kd.R_mono (ok' := fun k_ => some k_ ≠ (v6 : Value).ownBlock) (Kd.R_bound HR2.out) (fun k hk e => by have h1 := (Kd.R_bound HR1.out).1 k e.symm; have h2 := hk.2.1; omega)) HY1.out.size
  have hB8 := HY2.out
  clear HR1 HR2 HZ1 HZ2 HY0 HY1 HY2
  clear hHeld
  obtain ⟨A6, c6, e6⟩ := Kd.R_slice hRb
  subst e6
  obtain ⟨A7, c7, e7⟩ := Kd.R_slice hRc
  subst e7
  have kb := Kd.C_string (P := Tryd.prog) (c := c6) Tryd.underlying22 Tryd.underlying5 Tryd.underlying9 (Kd.R_reads' hRb).2.2
  have kc := Kd.C_string (P := Tryd.prog) (c := c7) Tryd.underlying22 Tryd.underlying5 Tryd.underlying9 (Kd.R_reads' hRc).2.2
  have kw := Kd.C_string (P := Tryd.prog) (c := cw) Tryd.underlying22 Tryd.underlying5 Tryd.underlying9 (Kd.C_below (Kd.R_reads' HW6.out).2.2 hB8)
  have hTi := Kd.R_tight rfl hRc
  have HL0 := Aside0.mk (show (Kd.int .u8).R 5 w8 w6.heap.size (fun k => (some k ≠ (Value.slice A7 s.length c7).ownBlock ∧ k < w8.heap.size) ∨ w8.heap.size ≤ k) (.slice A6 s.length c6) s ∧ (Kd.int .u8).R 5 w8 w6.heap.size (fun k => some k = (Value.slice A7 s.length c7).ownBlock ∧ k < w8.heap.size) (.slice A7 s.length c7) s ∧ Below w6.heap.size w6 w8 ∧ w8.heap.size ≤ w8.heap.size from
    ⟨Kd.R_mono (Kd.R_bound hRb) (fun k hk => .inl ⟨hk.1, hk.2.2.1⟩), Kd.R_mono (Kd.R_bound hTi) (fun k hk => ⟨hk.1, hk.2.2.1⟩), hB8, Nat.le_refl _⟩)
  clear hRb hRc hB8 hTi
  go_wp2
  clear kb kc kw
  go_loopg [8] s.length (fun g v8 wl => ∃ (i : Nat) (U : List Int), i + g = s.length ∧ U.length = s.length ∧ v8 = .int .i64 i ∧ Aside0 ((Kd.int .u8).R 5 wl w6.heap.size (fun k => (some k ≠ (Value.slice A7 s.length c7).ownBlock ∧ k < w8.heap.size) ∨ w8.heap.size ≤ k) (.slice A6 s.length c6) U ∧ (Kd.int .u8).R 5 wl w6.heap.size (fun k => some k = (Value.slice A7 s.length c7).ownBlock ∧ k < w8.heap.size) (.slice A7 s.length c7) s ∧ Below w6.heap.size w6 wl ∧ w8.heap.size ≤ wl.heap.size))
  case atStart => exact ⟨0, s, by omega, rfl, rfl, HL0⟩
  case round =>
    obtain ⟨i, U, hi, hUl, rfl, HL⟩ := hrel
    clear HL0
    cases gk with
    | succ g =>
      have hlt : i < s.length := by omega
      obtain ⟨gu, cu', eu⟩ := R_head HL.out.1 (by omega)
      injection eu with eu1 eu2 eu3
      subst eu1
      clear eu2 eu3
      have hu5 := Kd.R_cell (W := wr) (enc := Value.int .u8) (h1 := fun _ => rfl) (g := gu) (cap := c6) (0 : Int) (by rw [hUl]; exact HL.out.1) (i : Int) (by omega) (by omega)
      rw [Int.toNat_natCast] at hu5
      obtain ⟨hu6, hu7⟩ := hu5
      have hokg := HL.out.1.1 gu rfl
      have hge := Kd.R_base HL.out.1 gu rfl
      have HUl := Aside0.mk hUl
      clear hUl
      have HP := Aside0.mk (And.intro (Kd.R_putg HL.out.1 (i : Int) (Go.bits .xor .u8 (rdOf 0 U (i : Int)) 85)) (And.intro (HL.out.2.2.1.setCell (p := ⟨gu, i, none⟩) hge (.int .u8 (Go.bits .xor .u8 (rdOf 0 U (i : Int)) 85))) (Kd.R_far HL.out.2.1 (p := ⟨gu, i, none⟩) (fun k hk e => by have h2 : k = gu := e; rcases hokg with h | h; exact h.1 (by rw [← h2]; exact hk.1); have h1 := hk.2; omega) (.int .u8 (Go.bits .xor .u8 (rdOf 0 U (i : Int)) 85)))))
      rw [Int.toNat_natCast] at HP
      have q8 : (0 ≤ (i : Int)) = True := eq_true (by omega)
      have q9 : ((i : Int) < (s.length : Int)) = True := eq_true (by omega)
      clear hokg hge
      go_wp2
      go_roundg g
      case measure => omega
      case rel => exact ⟨i + 1, U.set i (Go.bits .xor .u8 (rdOf 0 U (i : Int)) 85), by omega, by rw [List.length_set]; exact HUl.out, by go_num, ⟨HP.out.1.1, HP.out.2.2, HP.out.2.1, by have h := HL.out.2.2.2; simpa [World.setCell] using h⟩⟩
    | zero =>
      have q7 : ((i : Int) < (s.length : Int)) = False := eq_false (by omega)
      go_wp2
      go_loopg [6, 9] 10 (fun g v6 v9 wl => ∃ (j : Nat) (U : List Int), j + g = 10 ∧ U.length = s.length + j ∧ v9 = .int .i64 j ∧ Aside0 ((Kd.int .u8).R 5 wl w6.heap.size (fun k => (some k ≠ (Value.slice A7 s.length c7).ownBlock ∧ k < w8.heap.size) ∨ w8.heap.size ≤ k) v6 U ∧ (Kd.int .u8).R 5 wl w6.heap.size (fun k => some k = (Value.slice A7 s.length c7).ownBlock ∧ k < w8.heap.size) (.slice A7 s.length c7) s ∧ Below w6.heap.size w6 wl ∧ w8.heap.size ≤ wl.heap.size))
      case atStart => exact ⟨0, U, by omega, by omega, rfl, HL⟩
      case round =>
        clear HL
        obtain ⟨j, U2, hj, hU2l, rfl, HL2⟩ := hrel
        obtain ⟨A9, c9, e9⟩ := Kd.R_slice HL2.out.1
        subst e9
        cases gk with
        | succ g =>
          have q10 : ((j : Int) < 10) = True := eq_true (by omega)
          have HUL := Aside0.mk (And.intro hU2l hj)
          clear hU2l
          go_wp2_with (at_builtin; refine Kd.R_append (Kd.int .u8) (w0 := w6) w6.heap.size rfl (.tmp 59) (.tmp 60) 22 5 (.int .u8 0) 1 rfl Tryd.underlying22 infoB rfl (by decide) (by decide) (.slice A9 U2.length c9) U2 119 [.int .u8 119] (fun k => (some k ≠ (Value.slice A7 s.length c7).ownBlock ∧ k < w8.heap.size) ∨ w8.heap.size ≤ k) (fun _ => False) rfl rfl rfl (fun _ hk => hk.elim) (fun k hk => .inr (Nat.le_trans HL2.out.2.2.2 hk)) HL2.out.1 HL2.out.2.2.1 HL2.out.2.2.1.size (by have h_ := HUL.out; omega) ?_; intro v11 w11 hR hB hG hat; have H11 := Aside0.mk (And.intro hR (And.intro (Kd.R_grown HL2.out.2.1 hG (fun k hk e => by rcases HL2.out.1.1 k e.symm with h | h; exact h.1 hk.1; have := hk.2; omega)) (And.intro hB (Nat.le_trans HL2.out.2.2.2 hG.size)))); clear hR hB hG hat)
          go_roundg g
          case measure => omega
          case rel => exact ⟨j + 1, U2 ++ [119], by have h_ := HUL.out; omega, by have h_ := HUL.out; rw [List.length_append, List.length_singleton]; omega, by go_num, H11⟩
        | zero =>
          have q10 : ((j : Int) < 10) = False := eq_false (by omega)
          obtain rfl : j = 10 := by omega
          have BOr := Aside0.mk (blk_below BO6.out HL2.out.2.2.1)
          have BXr := Aside0.mk (blk_below BX6.out HL2.out.2.2.1)
          have kc := Kd.C_string (P := Tryd.prog) (c := c7) Tryd.underlying22 Tryd.underlying5 Tryd.underlying9 (Kd.R_reads' HL2.out.2.1).2.2
          have kw := Kd.C_string (P := Tryd.prog) (c := cw) Tryd.underlying22 Tryd.underlying5 Tryd.underlying9 (Kd.C_below (Kd.R_reads' HW6.out).2.2 HL2.out.2.2.1)
          have zo0 := (blk_cell BOr.out 0).trans rfl
          have zo1 := (blk_cell BOr.out 1).trans rfl
          have zo2 := (blk_cell BOr.out 2).trans rfl
          have zo3 := (blk_cell BOr.out 3).trans rfl
          have zo4 := (blk_cell BOr.out 4).trans rfl
          have zo5 := (blk_cell BOr.out 5).trans rfl
          have zx0 := (blk_cell BXr.out 0).trans rfl
          have zx1 := (blk_cell BXr.out 1).trans rfl
          have zx2 := (blk_cell BXr.out 2).trans rfl
          have zx3 := (blk_cell BXr.out 3).trans rfl
          have zx4 := (blk_cell BXr.out 4).trans rfl
          have zx5 := (blk_cell BXr.out 5).trans rfl
          have q3 : (0 ≤ (text.length : Int)) = True := eq_true (by omega)
          have q4 : ((text.length : Int) < (text.length : Int) + 2) = True := eq_true (by omega)
          have q5 : ((text.length : Int) + 1 < (text.length : Int) + 2) = True := eq_true (by omega)
          have q6 : (0 ≤ (text.length : Int) + 1) = True := eq_true (by omega)
          have q11 : ((U2.length : Int) == (s.length : Int) + 10) = true := beq_iff_eq.2 (by omega)
          have HUL := Aside0.mk hU2l
          clear hU2l
          go_wp2_with (go_at_call 13; (with_reducible refine (HS.out _ _ _ _ _ (Kd.C_below HI6.out HL2.out.2.2.1) hcr2 (Kd.C_below HT.out (below_step HB6.out HL2.out.2.2.1)) hc0_3).mono ?_); rintro e w13 ⟨rfl, hx⟩; have H13 := Aside0.mk (below_step HL2.out.2.2.1 hx); have t3 := (blk_cell (blk_below BXr.out hx) 3).trans rfl; have q1_ := pw_cell_below H13.out HQ6.out.1; have q2_ := pw_cell_below H13.out HQ6.out.2; clear hx)
          exact bodyPost_ret (v := .bool true) (by simp [results, Tryd.results4, go_sem]) rfl ⟨rfl, below_step HB6.out H13.out⟩
end Go.Proofs.YtdhdngoeaneanaaDoor.WalkAddressSpells
