/-
  AddressLongest: the walk.
  Conditions: the line has at most 1048576 bytes; Go's table of powers of ten is laid.
-/
import Derived.Test.YtdhdngoeaneanaaDoorATL
import Derived.Test.YtdhdngoeaneanaaDoorADL
import Derived.Test.YtdhdngoeaneanaaDoorXS
import Derived.Test.YtdhdngoeaneanaaDoorX51
import Derived.Lib.Hide
namespace Go.Proofs.YtdhdngoeaneanaaDoor.WalkAddressLongest
open Go.RowKit Go.Proofs.YtdhdngoeaneanaaDoorW.PrintWords Go.Proofs.YtdhdngoeaneanaaDoorW.PrintMore Go.Proofs.YtdhdngoeaneanaaDoor.X Go.Proofs.YtdhdngoeaneanaaDoor.XL Go.Proofs.YtdhdngoeaneanaaDoor.XO Go.Proofs.YtdhdngoeaneanaaDoor.PT Go.Proofs.YtdhdngoeaneanaaDoor.AD
set_option linter.unusedVariables false
set_option linter.unusedSimpArgs false
set_option maxHeartbeats 8000000 in
set_option maxRecDepth 100000 in
theorem walk (A0 : Option Addr) (c0 : Nat) (l0 : List Int) (w : World) (hr0 : Kd.C (Kd.int .u8) w A0 l0.length l0) (hc0 : l0.length ≤ c0) (o0 : (okSl 1 okU8) l0) (hb : ((szSl szOne) l0 ≤ 1048576)) (htab : Tab w) :
    Calls Tryd.prog 7 #[.slice A0 l0.length c0] w fun e w' => e = .returned (.bool true) ∧ Below w.heap.size w w' := by
  have hl : l0.length ≤ 1048576 := by have h1 := szSl_length (szOne (α := Int)) (fun _ => Nat.le_refl _) l0; omega
  clear hb o0
  have HA : Aside0 _ := ⟨alive_calls htab⟩
  have hE := parse_ev l0 hl
  by_cases he : (parseV l0).2.2.2.2.2.2.2 = 0
  · obtain ⟨g1, g2, g3, g4, g5⟩ := longest l0 hl he
    have hE2 := parse_ev (l0.take (parseV l0).2.2.2.2.2.2.1.toNat) (by rw [List.length_take]; omega)
    rw [g4] at hE2
    clear g4
    generalize parseV l0 = r at he hE hE2 g1 g2 g3 g5
    obtain ⟨b1, b2, b3, b4, b5, b6, b7, b8⟩ := r
    simp only at he g1 g2 g3 g5 hE2
    subst he
    obtain ⟨N, rfl⟩ : ∃ N : Nat, b7 = (N : Int) := ⟨b7.toNat, by omega⟩
    rw [Int.toNat_natCast] at hE2
    rw [show b6 = decide (0 < N) from by rw [g3]; exact decide_eq_decide.2 (by omega)] at hE hE2
    clear g3
    obtain ⟨k1, hE⟩ := hE
    obtain ⟨k2, hE2⟩ := hE2
    have hN : N ≤ l0.length := by omega
    have HP1 : Aside0 (∀ W, Below w.heap.size w W → Calls Tryd.prog 12 #[.slice A0 l0.length c0] W fun e w' => ∃ v : Value, e = .returned (.tuple #[.agg #[.int .u8 b1, .int .i64 b2, .int .u8 b3, v, .int .i64 b5, .bool (decide (0 < N))], .int .i64 N, .int .i64 0]) ∧ Kd.R (Kd.int .u8) 5 w' W.heap.size (fun _ => True) v b4 ∧ Below W.heap.size W w') := ⟨fun W h => address_Parse.calls k1 A0 c0 l0 _ _ _ _ _ _ _ _ W (Kd.C_below hr0 h) hc0 (hE k1 (Nat.le_refl _))⟩
    have HP2 : Aside0 (∀ W, Below w.heap.size w W → Calls Tryd.prog 12 #[.slice A0 N N] W fun e w' => ∃ v : Value, e = .returned (.tuple #[.agg #[.int .u8 b1, .int .i64 b2, .int .u8 b3, v, .int .i64 b5, .bool (decide (0 < N))], .int .i64 N, .int .i64 0]) ∧ Kd.R (Kd.int .u8) 5 w' W.heap.size (fun _ => True) v b4 ∧ Below W.heap.size W w') := ⟨fun W h => by
      have h1 := address_Parse.calls k2 A0 N (l0.take N) _ _ _ _ _ _ _ _ W (Kd.C_take (Kd.C_below hr0 h) hN) (by rw [List.length_take]; omega) (hE2 k2 (Nat.le_refl _))
      rw [List.length_take, Nat.min_eq_left hN] at h1
      exact h1⟩
    have HS : Aside0 (∀ (W : World) (A : Option Addr) (c : Nat) (A' : Option Addr) (c' : Nat), (Kd.int .u8).C W A b4.length b4 → b4.length ≤ c → (Kd.int .u8).C W A' b4.length b4 → b4.length ≤ c' → Calls Tryd.prog 13 #[.agg #[.int .u8 b1, .int .i64 b2, .int .u8 b3, .slice A b4.length c, .int .i64 b5, .bool (decide (0 < N))], .agg #[.int .u8 b1, .int .i64 b2, .int .u8 b3, .slice A' b4.length c', .int .i64 b5, .bool (decide (0 < N))]] W fun e w' => e = .returned (.bool true) ∧ Below W.heap.size W w') :=
      ⟨fun W A c A' c' h1 h2 h3 h4 => quoinlaw23_same.calls b1 b2 b3 A c b4 b5 _ b1 b2 b3 A' c' b4 b5 _ true W h1 h2 h3 h4 (by unfold quoinlaw23_same.f; simp)⟩
    clear hE hE2
    have HT := Aside0.mk hr0
    clear hr0
    have q1 : ((N : Int) < 0) = False := eq_false (by omega)
    have q2 : ((l0.length : Int) < (N : Int)) = False := eq_false (by omega)
    have q3 : (0 ≤ (N : Int)) = True := eq_true (by omega)
    have HN := Aside0.mk g5
    clear g5
    go_enter Tryd.func7, Tryd.ntmps7
    go_wp2_with (first
      | (go_at_call 10; (with_reducible refine HA.out.mono ?_); rintro e w1 ⟨rfl, hx⟩; have H1 := Aside0.mk hx; clear hx)
      | (go_at_call 12; (with_reducible refine (HP1.out _ H1.out).mono ?_); rintro e w2 ⟨v2, rfl, hr, hx⟩; obtain ⟨A2, c2, e2⟩ := Kd.R_slice hr; subst e2; have hc2 : b4.length ≤ c2 := (Kd.R_reads' hr).2.1; have H2 := Aside0.mk (And.intro (below_step H1.out hx) (Kd.R_reads' hr).2.2); have BX := Aside0.mk (blk_new w2 (.cells #[.int .u8 b1, .int .i64 b2, .int .u8 b3, .slice A2 b4.length c2, .int .i64 b5, .bool (decide (0 < N))] 25)); clear hr hx; have x0 := (blk_cell BX.out 0).trans rfl; have x1 := (blk_cell BX.out 1).trans rfl; have x2 := (blk_cell BX.out 2).trans rfl; have x3 := (blk_cell BX.out 3).trans rfl; have x4 := (blk_cell BX.out 4).trans rfl; have x5 := (blk_cell BX.out 5).trans rfl)
      | (go_at_call 12; (with_reducible refine (HP2.out _ (below_alloc H2.out.1 (.cells #[.int .u8 b1, .int .i64 b2, .int .u8 b3, .slice A2 b4.length c2, .int .i64 b5, .bool (decide (0 < N))] 25))).mono ?_); rintro e w3 ⟨v4, rfl, hr, hx⟩; obtain ⟨A4, c4, e4⟩ := Kd.R_slice hr; subst e4; have hc4 : b4.length ≤ c4 := (Kd.R_reads' hr).2.1; have H3 := Aside0.mk (And.intro (below_step (below_alloc H2.out.1 (.cells #[.int .u8 b1, .int .i64 b2, .int .u8 b3, .slice A2 b4.length c2, .int .i64 b5, .bool (decide (0 < N))] 25)) hx) (And.intro (Kd.C_below (Kd.C_alloc H2.out.2 (.cells #[.int .u8 b1, .int .i64 b2, .int .u8 b3, .slice A2 b4.length c2, .int .i64 b5, .bool (decide (0 < N))] 25)) hx) (Kd.R_reads' hr).2.2)); have BX3 := Aside0.mk (blk_below BX.out hx); have BY3 := Aside0.mk (blk_new w3 (.cells #[.int .u8 b1, .int .i64 b2, .int .u8 b3, .slice A4 b4.length c4, .int .i64 b5, .bool (decide (0 < N))] 25)); clear hr hx; have y0 := fun o_ => (blk_cell (blk_alloc BX3.out o_) 0).trans rfl; have y1 := fun o_ => (blk_cell (blk_alloc BX3.out o_) 1).trans rfl; have y2 := fun o_ => (blk_cell (blk_alloc BX3.out o_) 2).trans rfl; have y3 := fun o_ => (blk_cell (blk_alloc BX3.out o_) 3).trans rfl; have y4 := fun o_ => (blk_cell (blk_alloc BX3.out o_) 4).trans rfl; have y5 := fun o_ => (blk_cell (blk_alloc BX3.out o_) 5).trans rfl; have z0 := (blk_cell BY3.out 0).trans rfl; have z1 := (blk_cell BY3.out 1).trans rfl; have z2 := (blk_cell BY3.out 2).trans rfl; have z3 := (blk_cell BY3.out 3).trans rfl; have z4 := (blk_cell BY3.out 4).trans rfl; have z5 := (blk_cell BY3.out 5).trans rfl)
      | (go_at_call 13; (with_reducible refine (HS.out _ _ _ _ _ (Kd.C_alloc H3.out.2.1 (.cells #[.int .u8 b1, .int .i64 b2, .int .u8 b3, .slice A4 b4.length c4, .int .i64 b5, .bool (decide (0 < N))] 25)) hc2 (Kd.C_alloc H3.out.2.2 (.cells #[.int .u8 b1, .int .i64 b2, .int .u8 b3, .slice A4 b4.length c4, .int .i64 b5, .bool (decide (0 < N))] 25)) hc4).mono ?_); rintro e w4 ⟨rfl, hx⟩; have H4 := Aside0.mk (below_step (below_alloc H3.out.1 (.cells #[.int .u8 b1, .int .i64 b2, .int .u8 b3, .slice A4 b4.length c4, .int .i64 b5, .bool (decide (0 < N))] 25)) hx); clear hx; refine Hid.out ?_))
    by_cases hq : (N : Int) = (l0.length : Int)
    · have q4 : ((N : Int) == (l0.length : Int)) = true := beq_iff_eq.2 hq
      clear hq HN
      refine Lib.hid ?_
      go_wp2
      exact bodyPost_ret (v := .bool true) (by simp [results, Tryd.results7, go_sem]) rfl ⟨rfl, H4.out⟩
    · have q4 : ((N : Int) == (l0.length : Int)) = false := beq_eq_false_iff_ne.2 hq
      have hch := HN.out.elim (fun h => absurd h hq) id
      obtain ⟨ad, ea, hx⟩ := Kd.at_int HT.out (N : Int) (by omega) (by omega)
      replace hx := pw_cell_below H4.out hx
      rw [Int.toNat_natCast] at hx
      have q5 : ((N : Int) < (l0.length : Int)) = True := eq_true (by omega)
      have q6 : (rd l0 (N : Int) != 43) = true := bne_iff_ne.2 hch.1
      have q7 : (rd l0 (N : Int) != 45) = true := bne_iff_ne.2 hch.2
      clear hq hch HN
      subst ea
      refine Lib.hid ?_
      go_wp2
      exact bodyPost_ret (v := .bool true) (by simp [results, Tryd.results7, go_sem]) rfl ⟨rfl, H4.out⟩
  · have hbad := parse_bad l0 he
    rw [hbad] at hE
    clear he hbad
    obtain ⟨k1, hE⟩ := hE
    have HP1 : Aside0 (∀ W, Below w.heap.size w W → Calls Tryd.prog 12 #[.slice A0 l0.length c0] W fun e w' => ∃ (A : Option Addr) (c : Nat), e = .returned (.tuple #[.agg #[.int .u8 0, .int .i64 0, .int .u8 0, .slice A 0 c, .int .i64 0, .bool false], .int .i64 0, .int .i64 230]) ∧ (Kd.int .u8).C w' A 0 [] ∧ Below W.heap.size W w') := ⟨fun W h => by
      have h1 := address_Parse.calls k1 A0 c0 l0 _ _ _ _ _ _ _ _ W (Kd.C_below hr0 h) hc0 (hE k1 (Nat.le_refl _))
      refine h1.mono ?_
      rintro e w' ⟨v, rfl, hr, hx⟩
      obtain ⟨A, c, rfl⟩ := Kd.R_slice hr
      exact ⟨A, c, rfl, (Kd.R_reads' hr).2.2, hx⟩⟩
    have HS : Aside0 (∀ (W : World) (A : Option Addr) (c : Nat), (Kd.int .u8).C W A 0 [] → Calls Tryd.prog 13 #[.agg #[.int .u8 0, .int .i64 0, .int .u8 0, .slice A 0 c, .int .i64 0, .bool false], .agg #[.int .u8 0, .int .i64 0, .int .u8 0, .slice none 0 0, .int .i64 0, .bool false]] W fun e w' => e = .returned (.bool true) ∧ Below W.heap.size W w') :=
      ⟨fun W A c h1 => quoinlaw23_same.calls 0 0 0 A c [] 0 false 0 0 0 none 0 [] 0 false true W h1 (Nat.zero_le _) (nil_C W) (Nat.zero_le _) (by unfold quoinlaw23_same.f; simp)⟩
    clear hE
    go_enter Tryd.func7, Tryd.ntmps7
    go_wp2_with (first
      | (go_at_call 10; (with_reducible refine HA.out.mono ?_); rintro e w1 ⟨rfl, hx⟩; have H1 := Aside0.mk hx; clear hx)
      | (go_at_call 12; (with_reducible refine (HP1.out _ H1.out).mono ?_); rintro e w2 ⟨A2, c2, rfl, hC, hx⟩; have H2 := Aside0.mk (And.intro (below_step H1.out hx) hC); have BX := Aside0.mk (blk_new w2 (.cells #[.int .u8 0, .int .i64 0, .int .u8 0, .slice A2 0 c2, .int .i64 0, .bool false] 25)); clear hC hx; have x0 := (blk_cell BX.out 0).trans rfl; have x1 := (blk_cell BX.out 1).trans rfl; have x2 := (blk_cell BX.out 2).trans rfl; have x3 := (blk_cell BX.out 3).trans rfl; have x4 := (blk_cell BX.out 4).trans rfl; have x5 := (blk_cell BX.out 5).trans rfl)
      | (go_at_call 13; (with_reducible refine (HS.out _ _ _ (Kd.C_alloc H2.out.2 (.cells #[.int .u8 0, .int .i64 0, .int .u8 0, .slice A2 0 c2, .int .i64 0, .bool false] 25))).mono ?_); rintro e w3 ⟨rfl, hx⟩; have H3 := Aside0.mk (below_step (below_alloc H2.out.1 (.cells #[.int .u8 0, .int .i64 0, .int .u8 0, .slice A2 0 c2, .int .i64 0, .bool false] 25)) hx); clear hx))
    exact bodyPost_ret (v := .bool true) (by simp [results, Tryd.results7, go_sem]) rfl ⟨rfl, H3.out⟩
end Go.Proofs.YtdhdngoeaneanaaDoor.WalkAddressLongest
