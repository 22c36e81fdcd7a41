/-
  AddressBack: the walk.
  Conditions: what comes in is of bulk at most 1048576; Go's table of powers of ten is laid.
-/
import Derived.Test.YtdhdngoeaneanaaDoorATAddressBack
import Derived.Test.YtdhdngoeaneanaaDoorADAddressBack
import Derived.Test.YtdhdngoeaneanaaDoorXS
import Derived.Lib.Hide
import Derived.Deep.RegionWith
namespace Go.Proofs.YtdhdngoeaneanaaDoor.WalkAddressBack
open Go.RowKit Go.Proofs.YtdhdngoeaneanaaDoorW.PrintWords Go.Proofs.YtdhdngoeaneanaaDoorW.PrintMore Go.Proofs.YtdhdngoeaneanaaDoor.X Go.Proofs.YtdhdngoeaneanaaDoor.XL Go.Proofs.YtdhdngoeaneanaaDoor.XO Go.Proofs.YtdhdngoeaneanaaDoor.PT Go.Proofs.YtdhdngoeaneanaaDoor.AD
set_option linter.unusedVariables false
set_option linter.unusedSimpArgs false
set_option maxHeartbeats 8000000 in
set_option maxRecDepth 100000 in
theorem walk (x0 : S25) (A0_3 : Option Addr) (c0_3 : Nat) (w : World) (hr0_3 : Kd.C (Kd.int .u8) w A0_3 x0.f3.length x0.f3) (hc0_3 : x0.f3.length ≤ c0_3) (o0 : okS25 x0) (hb : (szS25 x0 ≤ 1048576)) (htab : Tab w) :
    Calls Tryd.prog 6 #[.agg #[.int .u8 x0.f0, .int .i64 x0.f1, .int .u8 x0.f2, .slice A0_3 x0.f3.length c0_3, .int .i64 x0.f4, .bool x0.f5]] w fun e w' => e = .returned (.bool true) ∧ Below w.heap.size w w' := by
  obtain ⟨base, num, name, text, add, given⟩ := x0
  simp only at hr0_3 hc0_3 hb ⊢
  have hl : text.length ≤ 1048576 := by have h1 := szSl_length (szOne (α := Int)) (fun _ => Nat.le_refl _) text; unfold szS25 at hb; simp only at hb; omega
  clear hb o0
  have BX := Aside0.mk (blk_new w (.cells #[.int .u8 base, .int .i64 num, .int .u8 name, .slice A0_3 text.length c0_3, .int .i64 add, .bool given] 25))
  have HB := Aside0.mk (below_alloc (Below.refl w.heap.size w) (.cells #[.int .u8 base, .int .i64 num, .int .u8 name, .slice A0_3 text.length c0_3, .int .i64 add, .bool given] 25))
  have HA := Aside0.mk (alive_calls (w := w.alloc (.cells #[.int .u8 base, .int .i64 num, .int .u8 name, .slice A0_3 text.length c0_3, .int .i64 add, .bool given] 25)) (htab.below (below_alloc (Below.refl w.heap.size w) (.cells #[.int .u8 base, .int .i64 num, .int .u8 name, .slice A0_3 text.length c0_3, .int .i64 add, .bool given] 25))))
  cases hs : soundV base num text add given with
  | false =>
    have HS1 : Aside0 (∀ W, Below w.heap.size w W → Calls Tryd.prog 15 #[.agg #[.int .u8 base, .int .i64 num, .int .u8 name, .slice A0_3 text.length c0_3, .int .i64 add, .bool given]] W fun e w' => e = .returned (.slice none 0 0) ∧ Below W.heap.size W w') := ⟨fun W h => spell_no (Kd.C_below hr0_3 h) hc0_3 (by omega) hs⟩
    go_enter Tryd.func6, Tryd.ntmps6
    go_wp2_with (first
      | (go_at_call 10; (with_reducible refine HA.out.mono ?_); rintro e w1 ⟨rfl, hx⟩; have H1 := Aside0.mk (below_step HB.out hx); have BX1 := Aside0.mk (blk_below BX.out hx); clear hx; have x0 := (blk_cell BX1.out 0).trans rfl; have x1 := (blk_cell BX1.out 1).trans rfl; have x2 := (blk_cell BX1.out 2).trans rfl; have x3 := (blk_cell BX1.out 3).trans rfl; have x4 := (blk_cell BX1.out 4).trans rfl; have x5 := (blk_cell BX1.out 5).trans rfl)
      | (go_at_call 15; (with_reducible refine (HS1.out _ H1.out).mono ?_); rintro e w2 ⟨rfl, hx⟩; have H2 := Aside0.mk (below_step H1.out hx); clear hx))
    exact bodyPost_ret (v := .bool true) (by simp [results, Tryd.results6, go_sem]) rfl ⟨rfl, H2.out⟩
  | true =>
    obtain ⟨num2, name2, text2, e1, e2, e3, e4, e5, e6, e7, e8⟩ := back (name := name) hs
    have hsl : (headV base num name text ++ tailV base add).length ≤ 2097152 := by
      rw [List.length_append]
      have h1 : (headV base num name text).length ≤ text.length + 21 := head_len (sound_num hs)
      have h2 : (tailV base add).length ≤ 22 := tail_len ⟨e7, e8⟩
      omega
    have HS1 : Aside0 (∀ W, Below w.heap.size w W → Calls Tryd.prog 15 #[.agg #[.int .u8 base, .int .i64 num, .int .u8 name, .slice A0_3 text.length c0_3, .int .i64 add, .bool given]] W fun e w' => ∃ v, e = .returned v ∧ (Kd.int .u8).R 5 w' W.heap.size (fun _ => True) v (headV base num name text ++ tailV base add) ∧ Below W.heap.size W w') := ⟨fun W h => spell_yes (Kd.C_below hr0_3 h) hc0_3 (by omega) (htab.below h) hs⟩
    have HS2 : Aside0 (∀ (W : World) (A : Option Addr) (c : Nat), Below w.heap.size w W → (Kd.int .u8).C W A text2.length text2 → text2.length ≤ c → Calls Tryd.prog 15 #[.agg #[.int .u8 base, .int .i64 num2, .int .u8 name2, .slice A text2.length c, .int .i64 add, .bool true]] W fun e w' => ∃ v, e = .returned v ∧ (Kd.int .u8).R 5 w' W.heap.size (fun _ => True) v (headV base num name text ++ tailV base add) ∧ Below W.heap.size W w') := ⟨fun W A c h hC hc => by
      have h1 := spell_yes (name := name2) hC hc (by omega) (htab.below h) e2
      rw [e3] at h1
      exact h1⟩
    obtain ⟨k1, hE⟩ := parse_ev _ hsl
    rw [e1] at hE
    clear e1 e2 e3 hs
    generalize headV base num name text ++ tailV base add = s at HS1 HS2 hE e4 hsl
    have HP : Aside0 (∀ (W : World) (A : Option Addr) (c : Nat), (Kd.int .u8).C W A s.length s → s.length ≤ c → Calls Tryd.prog 12 #[.slice A s.length c] W fun e w' => ∃ v : Value, e = .returned (.tuple #[.agg #[.int .u8 base, .int .i64 num2, .int .u8 name2, v, .int .i64 add, .bool true], .int .i64 s.length, .int .i64 0]) ∧ Kd.R (Kd.int .u8) 5 w' W.heap.size (fun _ => True) v text2 ∧ Below W.heap.size W w') := ⟨fun W A c hC hc => address_Parse.calls k1 A c s _ _ _ _ _ _ _ _ W hC hc (hE k1 (Nat.le_refl _))⟩
    subst e5
    have q1 : ((s.length : Int) == 0) = false := beq_eq_false_iff_ne.2 (by omega)
    clear hE e4 e6 e7 e8
    go_enter Tryd.func6, Tryd.ntmps6
    go_wp2_with (first
      | (go_at_call 10; (with_reducible refine HA.out.mono ?_); rintro e w1 ⟨rfl, hx⟩; have H1 := Aside0.mk (below_step HB.out hx); have BX1 := Aside0.mk (blk_below BX.out hx); clear hx; have x0 := (blk_cell BX1.out 0).trans rfl; have x1 := (blk_cell BX1.out 1).trans rfl; have x2 := (blk_cell BX1.out 2).trans rfl; have x3 := (blk_cell BX1.out 3).trans rfl; have x4 := (blk_cell BX1.out 4).trans rfl; have x5 := (blk_cell BX1.out 5).trans rfl)
      | (go_at_call 15; (with_reducible refine (HS1.out _ H1.out).mono ?_); rintro e w2 ⟨v2, rfl, hr, hx⟩; obtain ⟨A2, c2, ee2⟩ := Kd.R_slice hr; subst ee2; have hc2 : s.length ≤ c2 := (Kd.R_reads' hr).2.1; have H2 := Aside0.mk (And.intro (below_step H1.out hx) (Kd.R_reads' hr).2.2); have BX2 := Aside0.mk (blk_below BX1.out hx); clear hr hx)
      | (go_at_call 12; (with_reducible refine (HP.out _ _ _ H2.out.2 hc2).mono ?_); rintro e w3 ⟨v4, rfl, hr, hx⟩; obtain ⟨A4, c4, ee4⟩ := Kd.R_slice hr; subst ee4; have hc4 : text2.length ≤ c4 := (Kd.R_reads' hr).2.1; have H3 := Aside0.mk (And.intro (below_step H2.out.1 hx) (And.intro (Kd.C_below H2.out.2 hx) (Kd.R_reads' hr).2.2)); have BX3 := Aside0.mk (blk_below BX2.out hx); have BY3 := Aside0.mk (blk_new w3 (.cells #[.int .u8 base, .int .i64 num2, .int .u8 name2, .slice A4 text2.length c4, .int .i64 add, .bool true] 25)); clear hr hx; have y0 := fun o_ => (blk_cell (blk_alloc BX3.out o_) 0).trans rfl; have y1 := fun o_ => (blk_cell (blk_alloc BX3.out o_) 1).trans rfl; have y2 := fun o_ => (blk_cell (blk_alloc BX3.out o_) 2).trans rfl; have y3 := fun o_ => (blk_cell (blk_alloc BX3.out o_) 3).trans rfl; have y4 := fun o_ => (blk_cell (blk_alloc BX3.out o_) 4).trans rfl; have y5 := fun o_ => (blk_cell (blk_alloc BX3.out o_) 5).trans rfl; have z0 := (blk_cell BY3.out 0).trans rfl; have z1 := (blk_cell BY3.out 1).trans rfl; have z2 := (blk_cell BY3.out 2).trans rfl; have z3 := (blk_cell BY3.out 3).trans rfl; have z4 := (blk_cell BY3.out 4).trans rfl; have z5 := (blk_cell BY3.out 5).trans rfl))
    have BZ := BY3.out
    have HW := below_alloc H3.out.1 (.cells #[.int .u8 base, .int .i64 num2, .int .u8 name2, .slice A4 text2.length c4, .int .i64 add, .bool true] 25)
    have HCs := Kd.C_alloc H3.out.2.1 (.cells #[.int .u8 base, .int .i64 num2, .int .u8 name2, .slice A4 text2.length c4, .int .i64 add, .bool true] 25)
    have HCt := Kd.C_alloc H3.out.2.2 (.cells #[.int .u8 base, .int .i64 num2, .int .u8 name2, .slice A4 text2.length c4, .int .i64 add, .bool true] 25)
    clear x0 y0 z0 x1 y1 z1 x2 y2 z2 x3 y3 z3 x4 y4 z4 x5 y5 z5
    generalize (w3.alloc (.cells #[.int .u8 base, .int .i64 num2, .int .u8 name2, .slice A4 text2.length c4, .int .i64 add, .bool true] 25)) = W at BZ HW HCs HCt ⊢
    have kA := Kd.C_string (P := Tryd.prog) (c := c2) Tryd.underlying22 Tryd.underlying5 Tryd.underlying9 (Kd.C_drew HCs)
    have HK := Aside0.mk (And.intro HW (And.intro HCs HCt))
    have u0 := (blk_cell BZ 0).trans rfl
    have u1 := (blk_cell BZ 1).trans rfl
    have u2 := (blk_cell BZ 2).trans rfl
    have u3 := (blk_cell BZ 3).trans rfl
    have u4 := (blk_cell BZ 4).trans rfl
    have u5 := (blk_cell BZ 5).trans rfl
    clear HW HCs HCt BZ
    go_region_with (go_at_call 15; (with_reducible refine (HS2.out _ _ _ (below_drew HK.out.1) (Kd.C_drew HK.out.2.2) hc4).mono ?_); rintro e w5 ⟨v5, rfl, hr, hx⟩; obtain ⟨A5, c5, ee5⟩ := Kd.R_slice hr; subst ee5; have kB := Kd.C_string (P := Tryd.prog) (c := c5) Tryd.underlying22 Tryd.underlying5 Tryd.underlying9 (Kd.R_reads' hr).2.2; have kC := Kd.C_string (P := Tryd.prog) (c := c2) Tryd.underlying22 Tryd.underlying5 Tryd.underlying9 (Kd.C_below (Kd.C_drew HK.out.2.1) hx); have H5 := Aside0.mk (below_step (below_drew HK.out.1) hx); clear hr hx)
    all_goals go_wp2
    all_goals exact bodyPost_ret (v := .bool true) (by simp [results, Tryd.results6, go_sem]) rfl ⟨rfl, H5.out⟩
end Go.Proofs.YtdhdngoeaneanaaDoor.WalkAddressBack
