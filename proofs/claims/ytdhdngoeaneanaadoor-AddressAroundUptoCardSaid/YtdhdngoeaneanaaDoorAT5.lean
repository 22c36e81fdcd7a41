/-
  Address, by hand: alive.
-/
import Derived.Test.YtdhdngoeaneanaaDoorAT2
import Derived.Test.YtdhdngoeaneanaaDoorAT3
import Derived.Test.YtdhdngoeaneanaaDoorAT4
import Derived.Test.YtdhdngoeaneanaaDoorX7
import Derived.Test.YtdhdngoeaneanaaDoorX8
import Derived.Lib.SlBytesConst
namespace Go.Proofs.YtdhdngoeaneanaaDoor.PT
open Go.RowKit Go.Proofs.YtdhdngoeaneanaaDoorW.PrintWords Go.Proofs.YtdhdngoeaneanaaDoorW.PrintMore
set_option linter.unusedVariables false
set_option linter.unusedSimpArgs false
def l1 : List Int := [46, 43, 51, 45, 100]
def l2 : List Int := [97, 120, 10, 98, 10, 97, 120]
theorem par1 : ∃ k, X.address_Parse.f k l1 = some (46, 0, 0, [], 2, true, 4, 0) := ⟨40, by kernel_rfl⟩
theorem snd1 : ∃ k, X.address_sound.f k 46 0 0 [] 2 true = some true := ⟨40, by decide +kernel⟩
theorem lin2 : linesN l2 = 3 := by decide +kernel
theorem sea2 : searchA l2 1 [] 47 [120] = (3, 0) := by decide +kernel
theorem dec2 : dec 2 = [50] := by decide +kernel
theorem alive_parse (w : World) : Calls Tryd.prog 12 #[.slice (some ⟨w.heap.size, 0, none⟩) 5 5] (w.alloc (.cells #[.int .u8 46, .int .u8 43, .int .u8 51, .int .u8 45, .int .u8 100] 5 (5, 6))) fun e w' => ∃ A c, e = .returned (.tuple #[.agg #[.int .u8 46, .int .i64 0, .int .u8 0, .slice A 0 c, .int .i64 2, .bool true], .int .i64 4, .int .i64 0]) ∧ (Kd.int .u8).C w' A 0 [] ∧ Below w.heap.size w w' := by
  obtain ⟨k, hk⟩ := par1
  have h := X.address_Parse.calls k (some ⟨w.heap.size, 0, none⟩) 5 l1 _ _ _ _ _ _ _ _ (w.alloc (.cells #[.int .u8 46, .int .u8 43, .int .u8 51, .int .u8 45, .int .u8 100] 5 (5, 6))) (u8_C (xs := l1) (fr := (5, 6)) (blk_new w _) (by decide)) (by decide) hk
  refine h.mono ?_
  rintro e w' ⟨v, rfl, hr, hb⟩
  obtain ⟨A, c, rfl⟩ := Kd.R_slice hr
  exact ⟨A, c, rfl, (Kd.R_reads' hr).2.2, below_step (below_alloc (Below.refl _ _) _) hb⟩
theorem alive_spell (w : World) {A : Option Addr} {c : Nat} (hC : (Kd.int .u8).C w A 0 []) (htab : Tab w) : Calls Tryd.prog 15 #[.agg #[.int .u8 46, .int .i64 0, .int .u8 0, .slice A 0 c, .int .i64 2, .bool true]] w fun e w' => ∃ A c, e = .returned (.slice A 3 c) ∧ (Kd.int .u8).C w' A 3 [46, 43, 50] ∧ Below w.heap.size w w' := by
  obtain ⟨k, hk⟩ := snd1
  have h := spell_46 (num := 0) (name := 0) (text := []) (given := true) (add := 2) (c := c) hC (by decide) htab (by decide) (by decide) (fun W hW => X.address_sound.calls k 46 0 0 A c [] 2 true true W (Kd.C_below hC hW) (Nat.zero_le _) hk)
  rw [show headV 46 0 0 [] ++ tailV 46 2 = [46, 43, 50] from by unfold headV tailV; rw [dec2]; decide] at h
  refine h.mono ?_
  rintro e w' ⟨v, rfl, hr, hb⟩
  obtain ⟨A2, c2, rfl⟩ := Kd.R_slice hr
  exact ⟨A2, c2, rfl, (Kd.R_reads' hr).2.2, hb⟩
theorem nil_C (w : World) : (Kd.int .u8).C w none 0 [] := (Kd.R_reads' (Kd.R_nil (Kd.int .u8) 5 w 0 (fun _ => True))).2.2
theorem byte2 : byte l2 := fun x hx => by simp [l2] at hx; omega
theorem byte0 : byte [] := fun x hx => by cases hx
theorem byteX : byte [120] := fun x hx => by simp at hx; omega
theorem tail3 : tailF 3 3 0 = (3, 0) := by decide
theorem tail4 : tailF 3 3 1 = (0, 231) := by decide
theorem alive_find47 {w : World} {g : Nat} (hb : w.heap[g]? = some (.cells #[.int .u8 97, .int .u8 120, .int .u8 10, .int .u8 98, .int .u8 10, .int .u8 97, .int .u8 120] 5 (7, 8))) (M : Array Value) : Calls Tryd.prog 17 #[.slice (some ⟨g, 0, none⟩) 7 7, .int .i64 1, .agg M, .slice none 0 0, .agg #[.int .u8 47, .int .i64 0, .int .u8 0, .slice (some ⟨w.heap.size, 0, none⟩) 1 1, .int .i64 0, .bool true]] (w.alloc (.cells #[.int .u8 120] 5 (1, 2))) fun e w' => e = .returned (.tuple #[.int .i64 3, .int .i64 0]) ∧ Below w.heap.size w w' := by
  have h := find_47 (w := w.alloc (.cells #[.int .u8 120] 5 (1, 2))) (A := some ⟨g, 0, none⟩) (c := 7) (t := l2) (now := 1) (M := M) (Ah := none) (hunt := []) (ch := 0) (num := 0) (name := 0) (Ax := some ⟨w.heap.size, 0, none⟩) (x := [120]) (cx := 1) (add := 0) (u8_C (xs := l2) (fr := (7, 8)) (blk_alloc hb _) (by decide)) (by decide) byte2 (by decide) (by decide) (by rw [lin2]; decide) (nil_C _) byte0 (u8_C (xs := [120]) (fr := (1, 2)) (blk_new w _) (by decide)) byteX (by decide) (by decide) (by decide) (by decide)
  rw [sea2, lin2, if_pos (show (((3 : Int), (0 : Int)).2 = 0) from rfl), tail3] at h
  exact h.mono fun e w' ⟨h1, h2⟩ => ⟨h1, below_step (below_alloc (Below.refl _ _) _) h2⟩
theorem alive_find36 {w : World} {g : Nat} (hb : w.heap[g]? = some (.cells #[.int .u8 97, .int .u8 120, .int .u8 10, .int .u8 98, .int .u8 10, .int .u8 97, .int .u8 120] 5 (7, 8))) (M : Array Value) : Calls Tryd.prog 17 #[.slice (some ⟨g, 0, none⟩) 7 7, .int .i64 1, .agg M, .slice none 0 0, .agg #[.int .u8 36, .int .i64 0, .int .u8 0, .slice none 0 0, .int .i64 1, .bool true]] w fun e w' => e = .returned (.tuple #[.int .i64 0, .int .i64 231]) ∧ Below w.heap.size w w' := by
  have h := find_36 (w := w) (A := some ⟨g, 0, none⟩) (c := 7) (t := l2) (now := 1) (M := M) (Ah := none) (hunt := []) (ch := 0) (num := 0) (name := 0) (Ax := none) (x := []) (cx := 0) (add := 1) (u8_C (xs := l2) (fr := (7, 8)) hb (by decide)) (by decide) byte2 (by decide) (by decide) (by rw [lin2]; decide) (by decide) (by decide) (by decide) (by decide)
  rw [lin2, tail4] at h
  exact h
theorem str3 {w : World} {A : Option Addr} {c : Nat} (h : (Kd.int .u8).C w A 3 [46, 43, 50]) : (convert 22 9 (.slice A 3 c)).run Tryd.prog w = .ok (.string ⟨#[46, 43, 50]⟩) w := by
  have h2 := Kd.C_string (P := Tryd.prog) (c := c) Tryd.underlying22 Tryd.underlying5 Tryd.underlying9 h
  rw [show strOfNums [46, 43, 50] = ⟨#[46, 43, 50]⟩ from by decide] at h2
  exact h2
set_option maxHeartbeats 4000000 in
set_option maxRecDepth 100000 in
theorem alive_calls {w : World} (htab : Tab w) : Calls Tryd.prog 10 #[] w fun e w' => e = .returned (.bool true) ∧ Below w.heap.size w w' := by
  have kc := fun (w_ : World) (C_ : Array Value) (n_ c_ : Nat) => Lib.run_convert_bytes_const (P := Tryd.prog) w_ 22 5 C_ n_ c_ Tryd.underlying22 Tryd.underlying5
  have kc1 : ∀ (w_ : World) (o_ : Obj) (C_ : Array Value) (n_ c_ : Nat), (convert 22 22 (.slice (some ⟨w_.heap.size + 1, 0, none⟩) n_ c_)).run Tryd.prog ((w_.alloc o_).alloc (.cells C_ 5)) = .ok (.slice (some ⟨w_.heap.size + 1, 0, none⟩) n_ c_) ((w_.alloc o_).alloc (.cells C_ 5 (C_.size, C_.size + 1))) := fun w_ o_ C_ n_ c_ => by
    have h := kc (w_.alloc o_) C_ n_ c_
    rw [World.size_alloc] at h
    exact h
  have HP := Aside0.mk (alive_parse w)
  go_enter Tryd.func10, Tryd.ntmps10
  go_wp2_with (first
    | (go_at_call 12; (with_reducible refine HP.out.mono ?_); rintro e w1 ⟨A, c, rfl, hC, hx⟩; have H1 := Aside0.mk (And.intro hC hx); have BX := Aside0.mk (blk_new w1 (.cells #[.int .u8 46, .int .i64 0, .int .u8 0, .slice A 0 c, .int .i64 2, .bool true] 25)); have HW1 := Aside0.mk (below_alloc hx (.cells #[.int .u8 46, .int .i64 0, .int .u8 0, .slice A 0 c, .int .i64 2, .bool true] 25)); have BT := Aside0.mk (show ((w1.alloc (.cells #[.int .u8 46, .int .i64 0, .int .u8 0, .slice A 0 c, .int .i64 2, .bool true] 25)).alloc (.cells #[.int .u8 97, .int .u8 120, .int .u8 10, .int .u8 98, .int .u8 10, .int .u8 97, .int .u8 120] 5 (7, 8))).heap[w1.heap.size + 1]? = some (.cells #[.int .u8 97, .int .u8 120, .int .u8 10, .int .u8 98, .int .u8 10, .int .u8 97, .int .u8 120] 5 (7, 8)) from by have h := blk_new (w1.alloc (.cells #[.int .u8 46, .int .i64 0, .int .u8 0, .slice A 0 c, .int .i64 2, .bool true] 25)) (.cells #[.int .u8 97, .int .u8 120, .int .u8 10, .int .u8 98, .int .u8 10, .int .u8 97, .int .u8 120] 5 (7, 8)); rw [World.size_alloc] at h; exact h); clear hC hx)
    | (go_at_call 21; (with_reducible refine (none_calls (w := (w1.alloc (.cells #[.int .u8 46, .int .i64 0, .int .u8 0, .slice A 0 c, .int .i64 2, .bool true] 25)).alloc (.cells #[.int .u8 97, .int .u8 120, .int .u8 10, .int .u8 98, .int .u8 10, .int .u8 97, .int .u8 120] 5 (7, 8)))).mono ?_); rintro e w2 ⟨M1, rfl, hx⟩; have H2 := Aside0.mk (below_step (below_alloc HW1.out (.cells #[.int .u8 97, .int .u8 120, .int .u8 10, .int .u8 98, .int .u8 10, .int .u8 97, .int .u8 120] 5 (7, 8))) hx); have BX2 := Aside0.mk (blk_below (blk_alloc BX.out (.cells #[.int .u8 97, .int .u8 120, .int .u8 10, .int .u8 98, .int .u8 10, .int .u8 97, .int .u8 120] 5 (7, 8))) hx); have BT2 := Aside0.mk (blk_below BT.out hx); have HV2 := Aside0.mk (below_step (below_alloc (below_alloc (Below.refl w1.heap.size w1) (.cells #[.int .u8 46, .int .i64 0, .int .u8 0, .slice A 0 c, .int .i64 2, .bool true] 25)) (.cells #[.int .u8 97, .int .u8 120, .int .u8 10, .int .u8 98, .int .u8 10, .int .u8 97, .int .u8 120] 5 (7, 8))) hx); clear hx)
    | (go_at_call 17; (with_reducible refine (alive_find47 BT2.out M1).mono ?_); rintro e w3 ⟨rfl, hx⟩; have H3 := Aside0.mk (below_step H2.out hx); have BX3 := Aside0.mk (blk_below BX2.out hx); have HV3 := Aside0.mk (below_step HV2.out hx); clear hx)
    | (go_at_call 21; (with_reducible refine (none_calls (w := w3.alloc (.cells #[.int .u8 97, .int .u8 120, .int .u8 10, .int .u8 98, .int .u8 10, .int .u8 97, .int .u8 120] 5 (7, 8)))).mono ?_); rintro e w4 ⟨M2, rfl, hx⟩; have H4 := Aside0.mk (below_step (below_alloc H3.out (.cells #[.int .u8 97, .int .u8 120, .int .u8 10, .int .u8 98, .int .u8 10, .int .u8 97, .int .u8 120] 5 (7, 8))) hx); have BX4 := Aside0.mk (blk_below (blk_alloc BX3.out (.cells #[.int .u8 97, .int .u8 120, .int .u8 10, .int .u8 98, .int .u8 10, .int .u8 97, .int .u8 120] 5 (7, 8))) hx); have BT4 := Aside0.mk (blk_below (blk_new w3 (.cells #[.int .u8 97, .int .u8 120, .int .u8 10, .int .u8 98, .int .u8 10, .int .u8 97, .int .u8 120] 5 (7, 8))) hx); have HV4 := Aside0.mk (below_step (below_alloc HV3.out (.cells #[.int .u8 97, .int .u8 120, .int .u8 10, .int .u8 98, .int .u8 10, .int .u8 97, .int .u8 120] 5 (7, 8))) hx); clear hx)
    | (go_at_call 17; (with_reducible refine (alive_find36 BT4.out M2).mono ?_); rintro e w5 ⟨rfl, hx⟩; have H5 := Aside0.mk (below_step H4.out hx); have BX5 := Aside0.mk (blk_below BX4.out hx); have HV5 := Aside0.mk (below_step HV4.out hx); clear hx; have f0 := (blk_cell BX5.out 0).trans rfl; have f1 := (blk_cell BX5.out 1).trans rfl; have f2 := (blk_cell BX5.out 2).trans rfl; have f3 := (blk_cell BX5.out 3).trans rfl; have f4 := (blk_cell BX5.out 4).trans rfl; have f5 := (blk_cell BX5.out 5).trans rfl)
    | (go_at_call 15; (with_reducible refine (alive_spell w5 (Kd.C_below H1.out.1 HV5.out) (htab.below H5.out)).mono ?_); rintro e w6 ⟨A6, c6, rfl, hC, hx⟩; have H6 := Aside0.mk (below_step H5.out hx); have hcv := str3 (c := c6) hC; clear hx hC))
  exact bodyPost_ret (v := .bool true) (by simp [results, Tryd.results10, go_sem]) rfl ⟨rfl, H6.out⟩
end Go.Proofs.YtdhdngoeaneanaaDoor.PT
