/-
  Address, by hand: the line that an address names.
-/
import Derived.Test.YtdhdngoeaneanaaDoorAT1
import Derived.Test.YtdhdngoeaneanaaDoorXC
import Derived.Lib.SlBytesConst
namespace Go.Proofs.YtdhdngoeaneanaaDoor.PT
open Go.RowKit Go.Proofs.YtdhdngoeaneanaaDoorW.PrintWords Go.Proofs.YtdhdngoeaneanaaDoorW.PrintMore
set_option linter.unusedVariables false
set_option linter.unusedSimpArgs false
/-- How many lines a text has. -/
def linesN (t : List Int) : Int := ((X.splitR t).length : Int)
theorem split_cnt (t : List Int) : ((X.splitR t).length : Int) = X.cnt 10 t + 1 := by
  induction t with
  | nil => rfl
  | cons x t ih =>
    unfold X.splitR X.cnt
    by_cases h : x = 10
    · rw [if_pos h, if_pos h, List.length_cons]; omega
    · rw [if_neg h, if_neg h]
      cases e : X.splitR t with
      | nil => exact absurd e (X.splitR_ne t)
      | cons p r => rw [e] at ih; simp only [List.length_cons] at ih ⊢; omega
theorem count_eq {t : List Int} (h : byte t) (hl : t.length ≤ 1048576) : X.lines_Count.f t = some (linesN t) := by
  have h1 := split_cnt t
  have h2 := split_len t
  unfold X.lines_Count.f X.bytes_Count.f linesN
  rw [byte_u8s h, show X.u8s [10] = true from rfl]
  simp only [Bool.and_self, if_true, List.length_singleton, Option.bind_some]
  congr 1
  rw [show rd [10] 0 = 10 from rfl]
  unfold wrap64
  omega
/-- A line and what is added. -/
def tailF (l n add : Int) : Int × Int := if (l < 0 ∧ add ≤ 0) ∨ (l > n ∧ add ≥ 0) ∨ (add > n ∧ l ≥ 0) then (0, 231) else if l + add < 0 ∨ l + add > n then (0, 231) else (l + add, 0)
def seven : List Int := [110, 46, 36, 39, 47, 63, 0]
theorem cnt_nonneg (c : Int) : ∀ l : List Int, 0 ≤ X.cnt c l
  | [] => Int.le_refl _
  | x :: l => by have := cnt_nonneg c l; unfold X.cnt; split <;> omega
theorem idx7 (w : World) (base r : Int) (h : X.bytes_IndexByte.f seven base = some r) : Calls Tryd.prog 36 #[.slice (some ⟨w.heap.size, 0, none⟩) 7 7, .int .u8 base] (w.alloc (.cells #[.int .u8 110, .int .u8 46, .int .u8 36, .int .u8 39, .int .u8 47, .int .u8 63, .int .u8 0] 5 (7, 8))) fun e w' => e = .returned (.int .i64 r) ∧ Drawn0 (w.alloc (.cells #[.int .u8 110, .int .u8 46, .int .u8 36, .int .u8 39, .int .u8 47, .int .u8 63, .int .u8 0] 5 (7, 8))) w' :=
  X.bytes_IndexByte.calls (some ⟨w.heap.size, 0, none⟩) 7 seven base r (w.alloc (.cells #[.int .u8 110, .int .u8 46, .int .u8 36, .int .u8 39, .int .u8 47, .int .u8 63, .int .u8 0] 5 (7, 8))) (u8_C (xs := seven) (fr := (7, 8)) (blk_new w _) (by decide)) (by decide) h
theorem seek_range (rows : List (List Int)) (pl : List PTh) (now s : Int) (h0 : 0 < rows.length) : ∀ g k, (seekV rows pl now s g k).2 = 0 → 1 ≤ (seekV rows pl now s g k).1 ∧ (seekV rows pl now s g k).1 ≤ (rows.length : Int) := by
  intro g
  induction g with
  | zero => intro k h; cases h
  | succ g ih =>
    intro k h
    unfold seekV at h ⊢
    by_cases hf : (findV (rows.getD (lineK now s rows.length k) []) pl 0).2.2 = true
    · rw [if_pos hf]
      have h1 : ((lineK now s rows.length k : Nat) : Int) = (now - 1 + (k : Int) * s) % (rows.length : Int) := Int.toNat_of_nonneg (Int.emod_nonneg _ (by omega))
      have h2 := Int.emod_lt_of_pos (now - 1 + (k : Int) * s) (show (0 : Int) < (rows.length : Int) by omega)
      simp only
      omega
    · rw [if_neg hf] at h ⊢
      exact ih _ h
theorem search_range (t : List Int) (now : Int) (hunt : List Int) (base : Int) (x : List Int) (h1 : 1 ≤ now) (h2 : now ≤ linesN t) : (searchA t now hunt base x).2 = 0 → 1 ≤ (searchA t now hunt base x).1 ∧ (searchA t now hunt base x).1 ≤ linesN t := by
  unfold searchA
  split
  · intro h; cases h
  · split
    · rename_i hn
      intro h
      rcases compile_err (textV x hunt) with e | ⟨pl, e, _⟩
      · exact absurd h e.2
      · rw [hn] at e; cases e
    · exact seek_range _ _ _ _ (by unfold linesN at h2; omega) _ _
set_option maxHeartbeats 16000000 in
set_option maxRecDepth 100000 in
theorem find_far {w : World} {A Ah Ax : Option Addr} {c ch cx : Nat} {t hunt x : List Int} {now base num name add : Int} {M : Array Value} {given : Bool} (hr : Kd.C (Kd.int .u8) w A t.length t) (hc : t.length ≤ c) (ht : byte t) (hl : t.length ≤ 1048576) (hnow : now < 1 ∨ now > linesN t) (ha1 : -9223372036854775808 ≤ add) (ha2 : add ≤ 9223372036854775807) (hm1 : -9223372036854775808 ≤ num) (hm2 : num ≤ 9223372036854775807) :
    Calls Tryd.prog 17 #[.slice A t.length c, .int .i64 now, .agg M, .slice Ah hunt.length ch, .agg #[.int .u8 base, .int .i64 num, .int .u8 name, .slice Ax x.length cx, .int .i64 add, .bool given]] w fun e w' => e = .returned (.tuple #[.int .i64 ((((0 : Int), (2 : Int)))).1, .int .i64 ((((0 : Int), (2 : Int)))).2]) ∧ Below w.heap.size w w' := by
  have BX := Aside0.mk (show ((w.alloc (.cells M 37)).alloc (.cells #[.int .u8 base, .int .i64 num, .int .u8 name, .slice Ax x.length cx, .int .i64 add, .bool given] 25)).heap[w.heap.size + 1]? = some (.cells #[.int .u8 base, .int .i64 num, .int .u8 name, .slice Ax x.length cx, .int .i64 add, .bool given] 25) from by have h := blk_new (w.alloc (.cells M 37)) (.cells #[.int .u8 base, .int .i64 num, .int .u8 name, .slice Ax x.length cx, .int .i64 add, .bool given] 25); rw [World.size_alloc] at h; exact h)
  have HB := Aside0.mk (below_alloc (below_alloc (Below.refl w.heap.size w) (.cells M 37)) (.cells #[.int .u8 base, .int .i64 num, .int .u8 name, .slice Ax x.length cx, .int .i64 add, .bool given] 25))
  have HCT := Aside0.mk (fun (W : World) (h : Below w.heap.size w W) => X.lines_Count.calls A c t (linesN t) W (Kd.C_below hr h) hc (count_eq ht hl))
  have kc := fun (w_ : World) (C_ : Array Value) (n_ c_ : Nat) => Lib.run_convert_bytes_const (P := Tryd.prog) w_ 22 5 C_ n_ c_ Tryd.underlying22 Tryd.underlying5
  have hn0 : 1 ≤ linesN t := by have h := split_cnt t; have h2 : 0 ≤ X.cnt 10 t := cnt_nonneg 10 t; unfold linesN; omega
  have hn9 : linesN t ≤ 1048577 := by have h := split_len t; unfold linesN; omega
  generalize linesN t = n at HCT hnow hn0 hn9
  by_cases h1 : now < 1
  · have f1 : (now < 1) = True := eq_true h1
    clear h1 hnow
    go_enter Tryd.func17, Tryd.ntmps17
    go_wp2_with (first
      | (go_at_call 18; (with_reducible refine (HCT.out _ HB.out).mono ?_); rintro e w1 ⟨rfl, hy⟩; have BK1 := Aside0.mk (blk_below BX.out hy); have H1 := Aside0.mk (below_step HB.out hy); clear hy; have a0 := (blk_cell BK1.out 0).trans rfl; have b0 := fun o_ => (blk_cell (blk_alloc BK1.out o_) 0).trans rfl; have a1 := (blk_cell BK1.out 1).trans rfl; have b1 := fun o_ => (blk_cell (blk_alloc BK1.out o_) 1).trans rfl; have a2 := (blk_cell BK1.out 2).trans rfl; have b2 := fun o_ => (blk_cell (blk_alloc BK1.out o_) 2).trans rfl; have a3 := (blk_cell BK1.out 3).trans rfl; have b3 := fun o_ => (blk_cell (blk_alloc BK1.out o_) 3).trans rfl; have a4 := (blk_cell BK1.out 4).trans rfl; have b4 := fun o_ => (blk_cell (blk_alloc BK1.out o_) 4).trans rfl; have a5 := (blk_cell BK1.out 5).trans rfl; have b5 := fun o_ => (blk_cell (blk_alloc BK1.out o_) 5).trans rfl))
    exact bodyPost_ret (v := .tuple #[.int .i64 0, .int .i64 2]) (by simp [results, Tryd.results17, go_sem]) rfl ⟨rfl, H1.out⟩
  · have f1 : (now < 1) = False := eq_false h1
    have f2 : (n < now) = True := eq_true (by omega)
    clear h1 hnow
    go_enter Tryd.func17, Tryd.ntmps17
    go_wp2_with (first
      | (go_at_call 18; (with_reducible refine (HCT.out _ HB.out).mono ?_); rintro e w1 ⟨rfl, hy⟩; have BK1 := Aside0.mk (blk_below BX.out hy); have H1 := Aside0.mk (below_step HB.out hy); clear hy; have a0 := (blk_cell BK1.out 0).trans rfl; have b0 := fun o_ => (blk_cell (blk_alloc BK1.out o_) 0).trans rfl; have a1 := (blk_cell BK1.out 1).trans rfl; have b1 := fun o_ => (blk_cell (blk_alloc BK1.out o_) 1).trans rfl; have a2 := (blk_cell BK1.out 2).trans rfl; have b2 := fun o_ => (blk_cell (blk_alloc BK1.out o_) 2).trans rfl; have a3 := (blk_cell BK1.out 3).trans rfl; have b3 := fun o_ => (blk_cell (blk_alloc BK1.out o_) 3).trans rfl; have a4 := (blk_cell BK1.out 4).trans rfl; have b4 := fun o_ => (blk_cell (blk_alloc BK1.out o_) 4).trans rfl; have a5 := (blk_cell BK1.out 5).trans rfl; have b5 := fun o_ => (blk_cell (blk_alloc BK1.out o_) 5).trans rfl))
    exact bodyPost_ret (v := .tuple #[.int .i64 0, .int .i64 2]) (by simp [results, Tryd.results17, go_sem]) rfl ⟨rfl, H1.out⟩
set_option maxHeartbeats 16000000 in
set_option maxRecDepth 100000 in
theorem find_none_given {w : World} {A Ah Ax : Option Addr} {c ch cx : Nat} {t hunt x : List Int} {now base num name add : Int} {M : Array Value} (hr : Kd.C (Kd.int .u8) w A t.length t) (hc : t.length ≤ c) (ht : byte t) (hl : t.length ≤ 1048576) (hn1 : 1 ≤ now) (hn2 : now ≤ linesN t) (ha1 : -9223372036854775808 ≤ add) (ha2 : add ≤ 9223372036854775807) (hm1 : -9223372036854775808 ≤ num) (hm2 : num ≤ 9223372036854775807) :
    Calls Tryd.prog 17 #[.slice A t.length c, .int .i64 now, .agg M, .slice Ah hunt.length ch, .agg #[.int .u8 base, .int .i64 num, .int .u8 name, .slice Ax x.length cx, .int .i64 add, .bool false]] w fun e w' => e = .returned (.tuple #[.int .i64 (((now, (0 : Int)))).1, .int .i64 (((now, (0 : Int)))).2]) ∧ Below w.heap.size w w' := by
  have BX := Aside0.mk (show ((w.alloc (.cells M 37)).alloc (.cells #[.int .u8 base, .int .i64 num, .int .u8 name, .slice Ax x.length cx, .int .i64 add, .bool false] 25)).heap[w.heap.size + 1]? = some (.cells #[.int .u8 base, .int .i64 num, .int .u8 name, .slice Ax x.length cx, .int .i64 add, .bool false] 25) from by have h := blk_new (w.alloc (.cells M 37)) (.cells #[.int .u8 base, .int .i64 num, .int .u8 name, .slice Ax x.length cx, .int .i64 add, .bool false] 25); rw [World.size_alloc] at h; exact h)
  have HB := Aside0.mk (below_alloc (below_alloc (Below.refl w.heap.size w) (.cells M 37)) (.cells #[.int .u8 base, .int .i64 num, .int .u8 name, .slice Ax x.length cx, .int .i64 add, .bool false] 25))
  have HCT := Aside0.mk (fun (W : World) (h : Below w.heap.size w W) => X.lines_Count.calls A c t (linesN t) W (Kd.C_below hr h) hc (count_eq ht hl))
  have kc := fun (w_ : World) (C_ : Array Value) (n_ c_ : Nat) => Lib.run_convert_bytes_const (P := Tryd.prog) w_ 22 5 C_ n_ c_ Tryd.underlying22 Tryd.underlying5
  have hn0 : 1 ≤ linesN t := by have h := split_cnt t; have h2 : 0 ≤ X.cnt 10 t := cnt_nonneg 10 t; unfold linesN; omega
  have hn9 : linesN t ≤ 1048577 := by have h := split_len t; unfold linesN; omega
  generalize linesN t = n at HCT hn1 hn2 hn0 hn9 ⊢
  have f1 : (now < 1) = False := eq_false (by omega)
  have f2 : (n < now) = False := eq_false (by omega)
  go_enter Tryd.func17, Tryd.ntmps17
  go_wp2_with (first
    | (go_at_call 18; (with_reducible refine (HCT.out _ HB.out).mono ?_); rintro e w1 ⟨rfl, hy⟩; have BK1 := Aside0.mk (blk_below BX.out hy); have H1 := Aside0.mk (below_step HB.out hy); clear hy; have a0 := (blk_cell BK1.out 0).trans rfl; have b0 := fun o_ => (blk_cell (blk_alloc BK1.out o_) 0).trans rfl; have a1 := (blk_cell BK1.out 1).trans rfl; have b1 := fun o_ => (blk_cell (blk_alloc BK1.out o_) 1).trans rfl; have a2 := (blk_cell BK1.out 2).trans rfl; have b2 := fun o_ => (blk_cell (blk_alloc BK1.out o_) 2).trans rfl; have a3 := (blk_cell BK1.out 3).trans rfl; have b3 := fun o_ => (blk_cell (blk_alloc BK1.out o_) 3).trans rfl; have a4 := (blk_cell BK1.out 4).trans rfl; have b4 := fun o_ => (blk_cell (blk_alloc BK1.out o_) 4).trans rfl; have a5 := (blk_cell BK1.out 5).trans rfl; have b5 := fun o_ => (blk_cell (blk_alloc BK1.out o_) 5).trans rfl))
  exact bodyPost_ret (v := .tuple #[.int .i64 now, .int .i64 0]) (by simp [results, Tryd.results17, go_sem]) rfl ⟨rfl, H1.out⟩
set_option maxHeartbeats 16000000 in
set_option maxRecDepth 100000 in
theorem find_strange {w : World} {A Ah Ax : Option Addr} {c ch cx : Nat} {t hunt x : List Int} {now base num name add : Int} {M : Array Value} (hr : Kd.C (Kd.int .u8) w A t.length t) (hc : t.length ≤ c) (ht : byte t) (hl : t.length ≤ 1048576) (hn1 : 1 ≤ now) (hn2 : now ≤ linesN t) (hb0 : 0 ≤ base) (hb1 : base ≤ 255) (hb : base ∉ seven) (ha1 : -9223372036854775808 ≤ add) (ha2 : add ≤ 9223372036854775807) (hm1 : -9223372036854775808 ≤ num) (hm2 : num ≤ 9223372036854775807) :
    Calls Tryd.prog 17 #[.slice A t.length c, .int .i64 now, .agg M, .slice Ah hunt.length ch, .agg #[.int .u8 base, .int .i64 num, .int .u8 name, .slice Ax x.length cx, .int .i64 add, .bool true]] w fun e w' => e = .returned (.tuple #[.int .i64 ((((0 : Int), (2 : Int)))).1, .int .i64 ((((0 : Int), (2 : Int)))).2]) ∧ Below w.heap.size w w' := by
  have BX := Aside0.mk (show ((w.alloc (.cells M 37)).alloc (.cells #[.int .u8 base, .int .i64 num, .int .u8 name, .slice Ax x.length cx, .int .i64 add, .bool true] 25)).heap[w.heap.size + 1]? = some (.cells #[.int .u8 base, .int .i64 num, .int .u8 name, .slice Ax x.length cx, .int .i64 add, .bool true] 25) from by have h := blk_new (w.alloc (.cells M 37)) (.cells #[.int .u8 base, .int .i64 num, .int .u8 name, .slice Ax x.length cx, .int .i64 add, .bool true] 25); rw [World.size_alloc] at h; exact h)
  have HB := Aside0.mk (below_alloc (below_alloc (Below.refl w.heap.size w) (.cells M 37)) (.cells #[.int .u8 base, .int .i64 num, .int .u8 name, .slice Ax x.length cx, .int .i64 add, .bool true] 25))
  have HCT := Aside0.mk (fun (W : World) (h : Below w.heap.size w W) => X.lines_Count.calls A c t (linesN t) W (Kd.C_below hr h) hc (count_eq ht hl))
  have kc := fun (w_ : World) (C_ : Array Value) (n_ c_ : Nat) => Lib.run_convert_bytes_const (P := Tryd.prog) w_ 22 5 C_ n_ c_ Tryd.underlying22 Tryd.underlying5
  have hn0 : 1 ≤ linesN t := by have h := split_cnt t; have h2 : 0 ≤ X.cnt 10 t := cnt_nonneg 10 t; unfold linesN; omega
  have hn9 : linesN t ≤ 1048577 := by have h := split_len t; unfold linesN; omega
  generalize linesN t = n at HCT hn1 hn2 hn0 hn9 ⊢
  have f1 : (now < 1) = False := eq_false (by omega)
  have f2 : (n < now) = False := eq_false (by omega)
  have hi : X.idx base seven = -1 := by
    simp only [seven, List.mem_cons, not_or] at hb
    obtain ⟨e1, e2, e3, e4, e5, e6, e7, _⟩ := hb
    simp [seven, X.idx, Ne.symm e1, Ne.symm e2, Ne.symm e3, Ne.symm e4, Ne.symm e5, Ne.symm e6, Ne.symm e7]
  have HIX : X.bytes_IndexByte.f seven base = some (-1) := by unfold X.bytes_IndexByte.f; rw [if_pos (by rw [Bool.and_eq_true]; exact ⟨by decide, decide_eq_true ⟨hb0, hb1⟩⟩), hi]
  go_enter Tryd.func17, Tryd.ntmps17
  go_wp2_with (first
    | (go_at_call 18; (with_reducible refine (HCT.out _ HB.out).mono ?_); rintro e w1 ⟨rfl, hy⟩; have BK1 := Aside0.mk (blk_below BX.out hy); have H1 := Aside0.mk (below_step HB.out hy); clear hy; have a0 := (blk_cell BK1.out 0).trans rfl; have b0 := fun o_ => (blk_cell (blk_alloc BK1.out o_) 0).trans rfl; have a1 := (blk_cell BK1.out 1).trans rfl; have b1 := fun o_ => (blk_cell (blk_alloc BK1.out o_) 1).trans rfl; have a2 := (blk_cell BK1.out 2).trans rfl; have b2 := fun o_ => (blk_cell (blk_alloc BK1.out o_) 2).trans rfl; have a3 := (blk_cell BK1.out 3).trans rfl; have b3 := fun o_ => (blk_cell (blk_alloc BK1.out o_) 3).trans rfl; have a4 := (blk_cell BK1.out 4).trans rfl; have b4 := fun o_ => (blk_cell (blk_alloc BK1.out o_) 4).trans rfl; have a5 := (blk_cell BK1.out 5).trans rfl; have b5 := fun o_ => (blk_cell (blk_alloc BK1.out o_) 5).trans rfl)
    | (go_at_call 36; (with_reducible refine (idx7 w1 base (-1) HIX).mono ?_); rintro e w2 ⟨rfl, ⟨nd, rfl⟩⟩))
  exact bodyPost_ret (v := .tuple #[.int .i64 0, .int .i64 2]) (by simp [results, Tryd.results17, go_sem]) rfl ⟨rfl, pw_below_drewN (below_alloc H1.out _) _⟩
set_option maxHeartbeats 16000000 in
set_option maxRecDepth 100000 in
theorem find_36 {w : World} {A Ah Ax : Option Addr} {c ch cx : Nat} {t hunt x : List Int} {now num name add : Int} {M : Array Value} (hr : Kd.C (Kd.int .u8) w A t.length t) (hc : t.length ≤ c) (ht : byte t) (hl : t.length ≤ 1048576) (hn1 : 1 ≤ now) (hn2 : now ≤ linesN t) (ha1 : -9223372036854775808 ≤ add) (ha2 : add ≤ 9223372036854775807) (hm1 : -9223372036854775808 ≤ num) (hm2 : num ≤ 9223372036854775807) :
    Calls Tryd.prog 17 #[.slice A t.length c, .int .i64 now, .agg M, .slice Ah hunt.length ch, .agg #[.int .u8 36, .int .i64 num, .int .u8 name, .slice Ax x.length cx, .int .i64 add, .bool true]] w fun e w' => e = .returned (.tuple #[.int .i64 ((tailF (linesN t) (linesN t) add)).1, .int .i64 ((tailF (linesN t) (linesN t) add)).2]) ∧ Below w.heap.size w w' := by
  have BX := Aside0.mk (show ((w.alloc (.cells M 37)).alloc (.cells #[.int .u8 36, .int .i64 num, .int .u8 name, .slice Ax x.length cx, .int .i64 add, .bool true] 25)).heap[w.heap.size + 1]? = some (.cells #[.int .u8 36, .int .i64 num, .int .u8 name, .slice Ax x.length cx, .int .i64 add, .bool true] 25) from by have h := blk_new (w.alloc (.cells M 37)) (.cells #[.int .u8 36, .int .i64 num, .int .u8 name, .slice Ax x.length cx, .int .i64 add, .bool true] 25); rw [World.size_alloc] at h; exact h)
  have HB := Aside0.mk (below_alloc (below_alloc (Below.refl w.heap.size w) (.cells M 37)) (.cells #[.int .u8 36, .int .i64 num, .int .u8 name, .slice Ax x.length cx, .int .i64 add, .bool true] 25))
  have HCT := Aside0.mk (fun (W : World) (h : Below w.heap.size w W) => X.lines_Count.calls A c t (linesN t) W (Kd.C_below hr h) hc (count_eq ht hl))
  have kc := fun (w_ : World) (C_ : Array Value) (n_ c_ : Nat) => Lib.run_convert_bytes_const (P := Tryd.prog) w_ 22 5 C_ n_ c_ Tryd.underlying22 Tryd.underlying5
  have hn0 : 1 ≤ linesN t := by have h := split_cnt t; have h2 : 0 ≤ X.cnt 10 t := cnt_nonneg 10 t; unfold linesN; omega
  have hn9 : linesN t ≤ 1048577 := by have h := split_len t; unfold linesN; omega
  generalize linesN t = n at HCT hn1 hn2 hn0 hn9 ⊢
  have f1 : (now < 1) = False := eq_false (by omega)
  have f2 : (n < now) = False := eq_false (by omega)
  by_cases hk : n < add
  · skip
    have HTF := Aside0.mk (show tailF n n add = (0, 231) from by unfold tailF; rw [if_pos (by omega)])
    have g1 : (n < 0) = False := eq_false (by omega)
    have g3 : (n < n) = False := eq_false (by omega)
    have g6 : (0 ≤ n) = True := eq_true (by omega)
    have g5 : (n < add) = True := eq_true hk
    go_enter Tryd.func17, Tryd.ntmps17
    go_wp2_with (first
      | (go_at_call 18; (with_reducible refine (HCT.out _ HB.out).mono ?_); rintro e w1 ⟨rfl, hy⟩; have BK1 := Aside0.mk (blk_below BX.out hy); have H1 := Aside0.mk (below_step HB.out hy); clear hy; have a0 := (blk_cell BK1.out 0).trans rfl; have b0 := fun o_ => (blk_cell (blk_alloc BK1.out o_) 0).trans rfl; have a1 := (blk_cell BK1.out 1).trans rfl; have b1 := fun o_ => (blk_cell (blk_alloc BK1.out o_) 1).trans rfl; have a2 := (blk_cell BK1.out 2).trans rfl; have b2 := fun o_ => (blk_cell (blk_alloc BK1.out o_) 2).trans rfl; have a3 := (blk_cell BK1.out 3).trans rfl; have b3 := fun o_ => (blk_cell (blk_alloc BK1.out o_) 3).trans rfl; have a4 := (blk_cell BK1.out 4).trans rfl; have b4 := fun o_ => (blk_cell (blk_alloc BK1.out o_) 4).trans rfl; have a5 := (blk_cell BK1.out 5).trans rfl; have b5 := fun o_ => (blk_cell (blk_alloc BK1.out o_) 5).trans rfl)
      | (go_at_call 36; (with_reducible refine (idx7 w1 36 2 rfl).mono ?_); rintro e w2 ⟨rfl, ⟨nd, rfl⟩⟩))
    exact bodyPost_ret (v := .tuple #[.int .i64 0, .int .i64 231]) (by simp [results, Tryd.results17, go_sem]) rfl ⟨by rw [HTF.out], pw_below_drewN (below_alloc H1.out _) _⟩
  by_cases hs1 : n + add < 0
  · skip
    have HTF := Aside0.mk (show tailF n n add = (0, 231) from by unfold tailF; rw [if_neg (by omega), if_pos (.inl hs1)])
    have g1 : (n < 0) = False := eq_false (by omega)
    have g3 : (n < n) = False := eq_false (by omega)
    have g6 : (0 ≤ n) = True := eq_true (by omega)
    have g5 : (n < add) = False := eq_false hk
    have g7 : (n + add < 0) = True := eq_true hs1
    go_enter Tryd.func17, Tryd.ntmps17
    go_wp2_with (first
      | (go_at_call 18; (with_reducible refine (HCT.out _ HB.out).mono ?_); rintro e w1 ⟨rfl, hy⟩; have BK1 := Aside0.mk (blk_below BX.out hy); have H1 := Aside0.mk (below_step HB.out hy); clear hy; have a0 := (blk_cell BK1.out 0).trans rfl; have b0 := fun o_ => (blk_cell (blk_alloc BK1.out o_) 0).trans rfl; have a1 := (blk_cell BK1.out 1).trans rfl; have b1 := fun o_ => (blk_cell (blk_alloc BK1.out o_) 1).trans rfl; have a2 := (blk_cell BK1.out 2).trans rfl; have b2 := fun o_ => (blk_cell (blk_alloc BK1.out o_) 2).trans rfl; have a3 := (blk_cell BK1.out 3).trans rfl; have b3 := fun o_ => (blk_cell (blk_alloc BK1.out o_) 3).trans rfl; have a4 := (blk_cell BK1.out 4).trans rfl; have b4 := fun o_ => (blk_cell (blk_alloc BK1.out o_) 4).trans rfl; have a5 := (blk_cell BK1.out 5).trans rfl; have b5 := fun o_ => (blk_cell (blk_alloc BK1.out o_) 5).trans rfl)
      | (go_at_call 36; (with_reducible refine (idx7 w1 36 2 rfl).mono ?_); rintro e w2 ⟨rfl, ⟨nd, rfl⟩⟩))
    exact bodyPost_ret (v := .tuple #[.int .i64 0, .int .i64 231]) (by simp [results, Tryd.results17, go_sem]) rfl ⟨by rw [HTF.out], pw_below_drewN (below_alloc H1.out _) _⟩
  by_cases hs2 : n < n + add
  · skip
    have HTF := Aside0.mk (show tailF n n add = (0, 231) from by unfold tailF; rw [if_neg (by omega), if_pos (.inr hs2)])
    have g1 : (n < 0) = False := eq_false (by omega)
    have g3 : (n < n) = False := eq_false (by omega)
    have g6 : (0 ≤ n) = True := eq_true (by omega)
    have g5 : (n < add) = False := eq_false hk
    have g7 : (n + add < 0) = False := eq_false hs1
    have g8 : (n < n + add) = True := eq_true hs2
    go_enter Tryd.func17, Tryd.ntmps17
    go_wp2_with (first
      | (go_at_call 18; (with_reducible refine (HCT.out _ HB.out).mono ?_); rintro e w1 ⟨rfl, hy⟩; have BK1 := Aside0.mk (blk_below BX.out hy); have H1 := Aside0.mk (below_step HB.out hy); clear hy; have a0 := (blk_cell BK1.out 0).trans rfl; have b0 := fun o_ => (blk_cell (blk_alloc BK1.out o_) 0).trans rfl; have a1 := (blk_cell BK1.out 1).trans rfl; have b1 := fun o_ => (blk_cell (blk_alloc BK1.out o_) 1).trans rfl; have a2 := (blk_cell BK1.out 2).trans rfl; have b2 := fun o_ => (blk_cell (blk_alloc BK1.out o_) 2).trans rfl; have a3 := (blk_cell BK1.out 3).trans rfl; have b3 := fun o_ => (blk_cell (blk_alloc BK1.out o_) 3).trans rfl; have a4 := (blk_cell BK1.out 4).trans rfl; have b4 := fun o_ => (blk_cell (blk_alloc BK1.out o_) 4).trans rfl; have a5 := (blk_cell BK1.out 5).trans rfl; have b5 := fun o_ => (blk_cell (blk_alloc BK1.out o_) 5).trans rfl)
      | (go_at_call 36; (with_reducible refine (idx7 w1 36 2 rfl).mono ?_); rintro e w2 ⟨rfl, ⟨nd, rfl⟩⟩))
    exact bodyPost_ret (v := .tuple #[.int .i64 0, .int .i64 231]) (by simp [results, Tryd.results17, go_sem]) rfl ⟨by rw [HTF.out], pw_below_drewN (below_alloc H1.out _) _⟩
  have HTF := Aside0.mk (show tailF n n add = ((n + add), 0) from by unfold tailF; rw [if_neg (by omega), if_neg (by omega)])
  have g1 : (n < 0) = False := eq_false (by omega)
  have g3 : (n < n) = False := eq_false (by omega)
  have g6 : (0 ≤ n) = True := eq_true (by omega)
  have g5 : (n < add) = False := eq_false hk
  have g7 : (n + add < 0) = False := eq_false hs1
  have g8 : (n < n + add) = False := eq_false hs2
  go_enter Tryd.func17, Tryd.ntmps17
  go_wp2_with (first
    | (go_at_call 18; (with_reducible refine (HCT.out _ HB.out).mono ?_); rintro e w1 ⟨rfl, hy⟩; have BK1 := Aside0.mk (blk_below BX.out hy); have H1 := Aside0.mk (below_step HB.out hy); clear hy; have a0 := (blk_cell BK1.out 0).trans rfl; have b0 := fun o_ => (blk_cell (blk_alloc BK1.out o_) 0).trans rfl; have a1 := (blk_cell BK1.out 1).trans rfl; have b1 := fun o_ => (blk_cell (blk_alloc BK1.out o_) 1).trans rfl; have a2 := (blk_cell BK1.out 2).trans rfl; have b2 := fun o_ => (blk_cell (blk_alloc BK1.out o_) 2).trans rfl; have a3 := (blk_cell BK1.out 3).trans rfl; have b3 := fun o_ => (blk_cell (blk_alloc BK1.out o_) 3).trans rfl; have a4 := (blk_cell BK1.out 4).trans rfl; have b4 := fun o_ => (blk_cell (blk_alloc BK1.out o_) 4).trans rfl; have a5 := (blk_cell BK1.out 5).trans rfl; have b5 := fun o_ => (blk_cell (blk_alloc BK1.out o_) 5).trans rfl)
    | (go_at_call 36; (with_reducible refine (idx7 w1 36 2 rfl).mono ?_); rintro e w2 ⟨rfl, ⟨nd, rfl⟩⟩))
  exact bodyPost_ret (v := .tuple #[.int .i64 (n + add), .int .i64 0]) (by simp [results, Tryd.results17, go_sem]) rfl ⟨by rw [HTF.out], pw_below_drewN (below_alloc H1.out _) _⟩
set_option maxHeartbeats 16000000 in
set_option maxRecDepth 100000 in
theorem find_46 {w : World} {A Ah Ax : Option Addr} {c ch cx : Nat} {t hunt x : List Int} {now num name add : Int} {M : Array Value} (hr : Kd.C (Kd.int .u8) w A t.length t) (hc : t.length ≤ c) (ht : byte t) (hl : t.length ≤ 1048576) (hn1 : 1 ≤ now) (hn2 : now ≤ linesN t) (ha1 : -9223372036854775808 ≤ add) (ha2 : add ≤ 9223372036854775807) (hm1 : -9223372036854775808 ≤ num) (hm2 : num ≤ 9223372036854775807) :
    Calls Tryd.prog 17 #[.slice A t.length c, .int .i64 now, .agg M, .slice Ah hunt.length ch, .agg #[.int .u8 46, .int .i64 num, .int .u8 name, .slice Ax x.length cx, .int .i64 add, .bool true]] w fun e w' => e = .returned (.tuple #[.int .i64 ((tailF now (linesN t) add)).1, .int .i64 ((tailF now (linesN t) add)).2]) ∧ Below w.heap.size w w' := by
  have BX := Aside0.mk (show ((w.alloc (.cells M 37)).alloc (.cells #[.int .u8 46, .int .i64 num, .int .u8 name, .slice Ax x.length cx, .int .i64 add, .bool true] 25)).heap[w.heap.size + 1]? = some (.cells #[.int .u8 46, .int .i64 num, .int .u8 name, .slice Ax x.length cx, .int .i64 add, .bool true] 25) from by have h := blk_new (w.alloc (.cells M 37)) (.cells #[.int .u8 46, .int .i64 num, .int .u8 name, .slice Ax x.length cx, .int .i64 add, .bool true] 25); rw [World.size_alloc] at h; exact h)
  have HB := Aside0.mk (below_alloc (below_alloc (Below.refl w.heap.size w) (.cells M 37)) (.cells #[.int .u8 46, .int .i64 num, .int .u8 name, .slice Ax x.length cx, .int .i64 add, .bool true] 25))
  have HCT := Aside0.mk (fun (W : World) (h : Below w.heap.size w W) => X.lines_Count.calls A c t (linesN t) W (Kd.C_below hr h) hc (count_eq ht hl))
  have kc := fun (w_ : World) (C_ : Array Value) (n_ c_ : Nat) => Lib.run_convert_bytes_const (P := Tryd.prog) w_ 22 5 C_ n_ c_ Tryd.underlying22 Tryd.underlying5
  have hn0 : 1 ≤ linesN t := by have h := split_cnt t; have h2 : 0 ≤ X.cnt 10 t := cnt_nonneg 10 t; unfold linesN; omega
  have hn9 : linesN t ≤ 1048577 := by have h := split_len t; unfold linesN; omega
  generalize linesN t = n at HCT hn1 hn2 hn0 hn9 ⊢
  have f1 : (now < 1) = False := eq_false (by omega)
  have f2 : (n < now) = False := eq_false (by omega)
  by_cases hk : n < add
  · skip
    have HTF := Aside0.mk (show tailF now n add = (0, 231) from by unfold tailF; rw [if_pos (by omega)])
    have g1 : (now < 0) = False := eq_false (by omega)
    have g3 : (n < now) = False := eq_false (by omega)
    have g6 : (0 ≤ now) = True := eq_true (by omega)
    have g5 : (n < add) = True := eq_true hk
    go_enter Tryd.func17, Tryd.ntmps17
    go_wp2_with (first
      | (go_at_call 18; (with_reducible refine (HCT.out _ HB.out).mono ?_); rintro e w1 ⟨rfl, hy⟩; have BK1 := Aside0.mk (blk_below BX.out hy); have H1 := Aside0.mk (below_step HB.out hy); clear hy; have a0 := (blk_cell BK1.out 0).trans rfl; have b0 := fun o_ => (blk_cell (blk_alloc BK1.out o_) 0).trans rfl; have a1 := (blk_cell BK1.out 1).trans rfl; have b1 := fun o_ => (blk_cell (blk_alloc BK1.out o_) 1).trans rfl; have a2 := (blk_cell BK1.out 2).trans rfl; have b2 := fun o_ => (blk_cell (blk_alloc BK1.out o_) 2).trans rfl; have a3 := (blk_cell BK1.out 3).trans rfl; have b3 := fun o_ => (blk_cell (blk_alloc BK1.out o_) 3).trans rfl; have a4 := (blk_cell BK1.out 4).trans rfl; have b4 := fun o_ => (blk_cell (blk_alloc BK1.out o_) 4).trans rfl; have a5 := (blk_cell BK1.out 5).trans rfl; have b5 := fun o_ => (blk_cell (blk_alloc BK1.out o_) 5).trans rfl)
      | (go_at_call 36; (with_reducible refine (idx7 w1 46 1 rfl).mono ?_); rintro e w2 ⟨rfl, ⟨nd, rfl⟩⟩))
    exact bodyPost_ret (v := .tuple #[.int .i64 0, .int .i64 231]) (by simp [results, Tryd.results17, go_sem]) rfl ⟨by rw [HTF.out], pw_below_drewN (below_alloc H1.out _) _⟩
  by_cases hs1 : now + add < 0
  · skip
    have HTF := Aside0.mk (show tailF now n add = (0, 231) from by unfold tailF; rw [if_neg (by omega), if_pos (.inl hs1)])
    have g1 : (now < 0) = False := eq_false (by omega)
    have g3 : (n < now) = False := eq_false (by omega)
    have g6 : (0 ≤ now) = True := eq_true (by omega)
    have g5 : (n < add) = False := eq_false hk
    have g7 : (now + add < 0) = True := eq_true hs1
    go_enter Tryd.func17, Tryd.ntmps17
    go_wp2_with (first
      | (go_at_call 18; (with_reducible refine (HCT.out _ HB.out).mono ?_); rintro e w1 ⟨rfl, hy⟩; have BK1 := Aside0.mk (blk_below BX.out hy); have H1 := Aside0.mk (below_step HB.out hy); clear hy; have a0 := (blk_cell BK1.out 0).trans rfl; have b0 := fun o_ => (blk_cell (blk_alloc BK1.out o_) 0).trans rfl; have a1 := (blk_cell BK1.out 1).trans rfl; have b1 := fun o_ => (blk_cell (blk_alloc BK1.out o_) 1).trans rfl; have a2 := (blk_cell BK1.out 2).trans rfl; have b2 := fun o_ => (blk_cell (blk_alloc BK1.out o_) 2).trans rfl; have a3 := (blk_cell BK1.out 3).trans rfl; have b3 := fun o_ => (blk_cell (blk_alloc BK1.out o_) 3).trans rfl; have a4 := (blk_cell BK1.out 4).trans rfl; have b4 := fun o_ => (blk_cell (blk_alloc BK1.out o_) 4).trans rfl; have a5 := (blk_cell BK1.out 5).trans rfl; have b5 := fun o_ => (blk_cell (blk_alloc BK1.out o_) 5).trans rfl)
      | (go_at_call 36; (with_reducible refine (idx7 w1 46 1 rfl).mono ?_); rintro e w2 ⟨rfl, ⟨nd, rfl⟩⟩))
    exact bodyPost_ret (v := .tuple #[.int .i64 0, .int .i64 231]) (by simp [results, Tryd.results17, go_sem]) rfl ⟨by rw [HTF.out], pw_below_drewN (below_alloc H1.out _) _⟩
  by_cases hs2 : n < now + add
  · skip
    have HTF := Aside0.mk (show tailF now n add = (0, 231) from by unfold tailF; rw [if_neg (by omega), if_pos (.inr hs2)])
    have g1 : (now < 0) = False := eq_false (by omega)
    have g3 : (n < now) = False := eq_false (by omega)
    have g6 : (0 ≤ now) = True := eq_true (by omega)
    have g5 : (n < add) = False := eq_false hk
    have g7 : (now + add < 0) = False := eq_false hs1
    have g8 : (n < now + add) = True := eq_true hs2
    go_enter Tryd.func17, Tryd.ntmps17
    go_wp2_with (first
      | (go_at_call 18; (with_reducible refine (HCT.out _ HB.out).mono ?_); rintro e w1 ⟨rfl, hy⟩; have BK1 := Aside0.mk (blk_below BX.out hy); have H1 := Aside0.mk (below_step HB.out hy); clear hy; have a0 := (blk_cell BK1.out 0).trans rfl; have b0 := fun o_ => (blk_cell (blk_alloc BK1.out o_) 0).trans rfl; have a1 := (blk_cell BK1.out 1).trans rfl; have b1 := fun o_ => (blk_cell (blk_alloc BK1.out o_) 1).trans rfl; have a2 := (blk_cell BK1.out 2).trans rfl; have b2 := fun o_ => (blk_cell (blk_alloc BK1.out o_) 2).trans rfl; have a3 := (blk_cell BK1.out 3).trans rfl; have b3 := fun o_ => (blk_cell (blk_alloc BK1.out o_) 3).trans rfl; have a4 := (blk_cell BK1.out 4).trans rfl; have b4 := fun o_ => (blk_cell (blk_alloc BK1.out o_) 4).trans rfl; have a5 := (blk_cell BK1.out 5).trans rfl; have b5 := fun o_ => (blk_cell (blk_alloc BK1.out o_) 5).trans rfl)
      | (go_at_call 36; (with_reducible refine (idx7 w1 46 1 rfl).mono ?_); rintro e w2 ⟨rfl, ⟨nd, rfl⟩⟩))
    exact bodyPost_ret (v := .tuple #[.int .i64 0, .int .i64 231]) (by simp [results, Tryd.results17, go_sem]) rfl ⟨by rw [HTF.out], pw_below_drewN (below_alloc H1.out _) _⟩
  have HTF := Aside0.mk (show tailF now n add = ((now + add), 0) from by unfold tailF; rw [if_neg (by omega), if_neg (by omega)])
  have g1 : (now < 0) = False := eq_false (by omega)
  have g3 : (n < now) = False := eq_false (by omega)
  have g6 : (0 ≤ now) = True := eq_true (by omega)
  have g5 : (n < add) = False := eq_false hk
  have g7 : (now + add < 0) = False := eq_false hs1
  have g8 : (n < now + add) = False := eq_false hs2
  go_enter Tryd.func17, Tryd.ntmps17
  go_wp2_with (first
    | (go_at_call 18; (with_reducible refine (HCT.out _ HB.out).mono ?_); rintro e w1 ⟨rfl, hy⟩; have BK1 := Aside0.mk (blk_below BX.out hy); have H1 := Aside0.mk (below_step HB.out hy); clear hy; have a0 := (blk_cell BK1.out 0).trans rfl; have b0 := fun o_ => (blk_cell (blk_alloc BK1.out o_) 0).trans rfl; have a1 := (blk_cell BK1.out 1).trans rfl; have b1 := fun o_ => (blk_cell (blk_alloc BK1.out o_) 1).trans rfl; have a2 := (blk_cell BK1.out 2).trans rfl; have b2 := fun o_ => (blk_cell (blk_alloc BK1.out o_) 2).trans rfl; have a3 := (blk_cell BK1.out 3).trans rfl; have b3 := fun o_ => (blk_cell (blk_alloc BK1.out o_) 3).trans rfl; have a4 := (blk_cell BK1.out 4).trans rfl; have b4 := fun o_ => (blk_cell (blk_alloc BK1.out o_) 4).trans rfl; have a5 := (blk_cell BK1.out 5).trans rfl; have b5 := fun o_ => (blk_cell (blk_alloc BK1.out o_) 5).trans rfl)
    | (go_at_call 36; (with_reducible refine (idx7 w1 46 1 rfl).mono ?_); rintro e w2 ⟨rfl, ⟨nd, rfl⟩⟩))
  exact bodyPost_ret (v := .tuple #[.int .i64 (now + add), .int .i64 0]) (by simp [results, Tryd.results17, go_sem]) rfl ⟨by rw [HTF.out], pw_below_drewN (below_alloc H1.out _) _⟩
set_option maxHeartbeats 16000000 in
set_option maxRecDepth 100000 in
theorem find_0 {w : World} {A Ah Ax : Option Addr} {c ch cx : Nat} {t hunt x : List Int} {now num name add : Int} {M : Array Value} (hr : Kd.C (Kd.int .u8) w A t.length t) (hc : t.length ≤ c) (ht : byte t) (hl : t.length ≤ 1048576) (hn1 : 1 ≤ now) (hn2 : now ≤ linesN t) (ha1 : -9223372036854775808 ≤ add) (ha2 : add ≤ 9223372036854775807) (hm1 : -9223372036854775808 ≤ num) (hm2 : num ≤ 9223372036854775807) :
    Calls Tryd.prog 17 #[.slice A t.length c, .int .i64 now, .agg M, .slice Ah hunt.length ch, .agg #[.int .u8 0, .int .i64 num, .int .u8 name, .slice Ax x.length cx, .int .i64 add, .bool true]] w fun e w' => e = .returned (.tuple #[.int .i64 ((tailF now (linesN t) add)).1, .int .i64 ((tailF now (linesN t) add)).2]) ∧ Below w.heap.size w w' := by
  have BX := Aside0.mk (show ((w.alloc (.cells M 37)).alloc (.cells #[.int .u8 0, .int .i64 num, .int .u8 name, .slice Ax x.length cx, .int .i64 add, .bool true] 25)).heap[w.heap.size + 1]? = some (.cells #[.int .u8 0, .int .i64 num, .int .u8 name, .slice Ax x.length cx, .int .i64 add, .bool true] 25) from by have h := blk_new (w.alloc (.cells M 37)) (.cells #[.int .u8 0, .int .i64 num, .int .u8 name, .slice Ax x.length cx, .int .i64 add, .bool true] 25); rw [World.size_alloc] at h; exact h)
  have HB := Aside0.mk (below_alloc (below_alloc (Below.refl w.heap.size w) (.cells M 37)) (.cells #[.int .u8 0, .int .i64 num, .int .u8 name, .slice Ax x.length cx, .int .i64 add, .bool true] 25))
  have HCT := Aside0.mk (fun (W : World) (h : Below w.heap.size w W) => X.lines_Count.calls A c t (linesN t) W (Kd.C_below hr h) hc (count_eq ht hl))
  have kc := fun (w_ : World) (C_ : Array Value) (n_ c_ : Nat) => Lib.run_convert_bytes_const (P := Tryd.prog) w_ 22 5 C_ n_ c_ Tryd.underlying22 Tryd.underlying5
  have hn0 : 1 ≤ linesN t := by have h := split_cnt t; have h2 : 0 ≤ X.cnt 10 t := cnt_nonneg 10 t; unfold linesN; omega
  have hn9 : linesN t ≤ 1048577 := by have h := split_len t; unfold linesN; omega
  generalize linesN t = n at HCT hn1 hn2 hn0 hn9 ⊢
  have f1 : (now < 1) = False := eq_false (by omega)
  have f2 : (n < now) = False := eq_false (by omega)
  by_cases hk : n < add
  · skip
    have HTF := Aside0.mk (show tailF now n add = (0, 231) from by unfold tailF; rw [if_pos (by omega)])
    have g1 : (now < 0) = False := eq_false (by omega)
    have g3 : (n < now) = False := eq_false (by omega)
    have g6 : (0 ≤ now) = True := eq_true (by omega)
    have g5 : (n < add) = True := eq_true hk
    go_enter Tryd.func17, Tryd.ntmps17
    go_wp2_with (first
      | (go_at_call 18; (with_reducible refine (HCT.out _ HB.out).mono ?_); rintro e w1 ⟨rfl, hy⟩; have BK1 := Aside0.mk (blk_below BX.out hy); have H1 := Aside0.mk (below_step HB.out hy); clear hy; have a0 := (blk_cell BK1.out 0).trans rfl; have b0 := fun o_ => (blk_cell (blk_alloc BK1.out o_) 0).trans rfl; have a1 := (blk_cell BK1.out 1).trans rfl; have b1 := fun o_ => (blk_cell (blk_alloc BK1.out o_) 1).trans rfl; have a2 := (blk_cell BK1.out 2).trans rfl; have b2 := fun o_ => (blk_cell (blk_alloc BK1.out o_) 2).trans rfl; have a3 := (blk_cell BK1.out 3).trans rfl; have b3 := fun o_ => (blk_cell (blk_alloc BK1.out o_) 3).trans rfl; have a4 := (blk_cell BK1.out 4).trans rfl; have b4 := fun o_ => (blk_cell (blk_alloc BK1.out o_) 4).trans rfl; have a5 := (blk_cell BK1.out 5).trans rfl; have b5 := fun o_ => (blk_cell (blk_alloc BK1.out o_) 5).trans rfl)
      | (go_at_call 36; (with_reducible refine (idx7 w1 0 6 rfl).mono ?_); rintro e w2 ⟨rfl, ⟨nd, rfl⟩⟩))
    exact bodyPost_ret (v := .tuple #[.int .i64 0, .int .i64 231]) (by simp [results, Tryd.results17, go_sem]) rfl ⟨by rw [HTF.out], pw_below_drewN (below_alloc H1.out _) _⟩
  by_cases hs1 : now + add < 0
  · skip
    have HTF := Aside0.mk (show tailF now n add = (0, 231) from by unfold tailF; rw [if_neg (by omega), if_pos (.inl hs1)])
    have g1 : (now < 0) = False := eq_false (by omega)
    have g3 : (n < now) = False := eq_false (by omega)
    have g6 : (0 ≤ now) = True := eq_true (by omega)
    have g5 : (n < add) = False := eq_false hk
    have g7 : (now + add < 0) = True := eq_true hs1
    go_enter Tryd.func17, Tryd.ntmps17
    go_wp2_with (first
      | (go_at_call 18; (with_reducible refine (HCT.out _ HB.out).mono ?_); rintro e w1 ⟨rfl, hy⟩; have BK1 := Aside0.mk (blk_below BX.out hy); have H1 := Aside0.mk (below_step HB.out hy); clear hy; have a0 := (blk_cell BK1.out 0).trans rfl; have b0 := fun o_ => (blk_cell (blk_alloc BK1.out o_) 0).trans rfl; have a1 := (blk_cell BK1.out 1).trans rfl; have b1 := fun o_ => (blk_cell (blk_alloc BK1.out o_) 1).trans rfl; have a2 := (blk_cell BK1.out 2).trans rfl; have b2 := fun o_ => (blk_cell (blk_alloc BK1.out o_) 2).trans rfl; have a3 := (blk_cell BK1.out 3).trans rfl; have b3 := fun o_ => (blk_cell (blk_alloc BK1.out o_) 3).trans rfl; have a4 := (blk_cell BK1.out 4).trans rfl; have b4 := fun o_ => (blk_cell (blk_alloc BK1.out o_) 4).trans rfl; have a5 := (blk_cell BK1.out 5).trans rfl; have b5 := fun o_ => (blk_cell (blk_alloc BK1.out o_) 5).trans rfl)
      | (go_at_call 36; (with_reducible refine (idx7 w1 0 6 rfl).mono ?_); rintro e w2 ⟨rfl, ⟨nd, rfl⟩⟩))
    exact bodyPost_ret (v := .tuple #[.int .i64 0, .int .i64 231]) (by simp [results, Tryd.results17, go_sem]) rfl ⟨by rw [HTF.out], pw_below_drewN (below_alloc H1.out _) _⟩
  by_cases hs2 : n < now + add
  · skip
    have HTF := Aside0.mk (show tailF now n add = (0, 231) from by unfold tailF; rw [if_neg (by omega), if_pos (.inr hs2)])
    have g1 : (now < 0) = False := eq_false (by omega)
    have g3 : (n < now) = False := eq_false (by omega)
    have g6 : (0 ≤ now) = True := eq_true (by omega)
    have g5 : (n < add) = False := eq_false hk
    have g7 : (now + add < 0) = False := eq_false hs1
    have g8 : (n < now + add) = True := eq_true hs2
    go_enter Tryd.func17, Tryd.ntmps17
    go_wp2_with (first
      | (go_at_call 18; (with_reducible refine (HCT.out _ HB.out).mono ?_); rintro e w1 ⟨rfl, hy⟩; have BK1 := Aside0.mk (blk_below BX.out hy); have H1 := Aside0.mk (below_step HB.out hy); clear hy; have a0 := (blk_cell BK1.out 0).trans rfl; have b0 := fun o_ => (blk_cell (blk_alloc BK1.out o_) 0).trans rfl; have a1 := (blk_cell BK1.out 1).trans rfl; have b1 := fun o_ => (blk_cell (blk_alloc BK1.out o_) 1).trans rfl; have a2 := (blk_cell BK1.out 2).trans rfl; have b2 := fun o_ => (blk_cell (blk_alloc BK1.out o_) 2).trans rfl; have a3 := (blk_cell BK1.out 3).trans rfl; have b3 := fun o_ => (blk_cell (blk_alloc BK1.out o_) 3).trans rfl; have a4 := (blk_cell BK1.out 4).trans rfl; have b4 := fun o_ => (blk_cell (blk_alloc BK1.out o_) 4).trans rfl; have a5 := (blk_cell BK1.out 5).trans rfl; have b5 := fun o_ => (blk_cell (blk_alloc BK1.out o_) 5).trans rfl)
      | (go_at_call 36; (with_reducible refine (idx7 w1 0 6 rfl).mono ?_); rintro e w2 ⟨rfl, ⟨nd, rfl⟩⟩))
    exact bodyPost_ret (v := .tuple #[.int .i64 0, .int .i64 231]) (by simp [results, Tryd.results17, go_sem]) rfl ⟨by rw [HTF.out], pw_below_drewN (below_alloc H1.out _) _⟩
  have HTF := Aside0.mk (show tailF now n add = ((now + add), 0) from by unfold tailF; rw [if_neg (by omega), if_neg (by omega)])
  have g1 : (now < 0) = False := eq_false (by omega)
  have g3 : (n < now) = False := eq_false (by omega)
  have g6 : (0 ≤ now) = True := eq_true (by omega)
  have g5 : (n < add) = False := eq_false hk
  have g7 : (now + add < 0) = False := eq_false hs1
  have g8 : (n < now + add) = False := eq_false hs2
  go_enter Tryd.func17, Tryd.ntmps17
  go_wp2_with (first
    | (go_at_call 18; (with_reducible refine (HCT.out _ HB.out).mono ?_); rintro e w1 ⟨rfl, hy⟩; have BK1 := Aside0.mk (blk_below BX.out hy); have H1 := Aside0.mk (below_step HB.out hy); clear hy; have a0 := (blk_cell BK1.out 0).trans rfl; have b0 := fun o_ => (blk_cell (blk_alloc BK1.out o_) 0).trans rfl; have a1 := (blk_cell BK1.out 1).trans rfl; have b1 := fun o_ => (blk_cell (blk_alloc BK1.out o_) 1).trans rfl; have a2 := (blk_cell BK1.out 2).trans rfl; have b2 := fun o_ => (blk_cell (blk_alloc BK1.out o_) 2).trans rfl; have a3 := (blk_cell BK1.out 3).trans rfl; have b3 := fun o_ => (blk_cell (blk_alloc BK1.out o_) 3).trans rfl; have a4 := (blk_cell BK1.out 4).trans rfl; have b4 := fun o_ => (blk_cell (blk_alloc BK1.out o_) 4).trans rfl; have a5 := (blk_cell BK1.out 5).trans rfl; have b5 := fun o_ => (blk_cell (blk_alloc BK1.out o_) 5).trans rfl)
    | (go_at_call 36; (with_reducible refine (idx7 w1 0 6 rfl).mono ?_); rintro e w2 ⟨rfl, ⟨nd, rfl⟩⟩))
  exact bodyPost_ret (v := .tuple #[.int .i64 (now + add), .int .i64 0]) (by simp [results, Tryd.results17, go_sem]) rfl ⟨by rw [HTF.out], pw_below_drewN (below_alloc H1.out _) _⟩
set_option maxHeartbeats 16000000 in
set_option maxRecDepth 100000 in
theorem find_110 {w : World} {A Ah Ax : Option Addr} {c ch cx : Nat} {t hunt x : List Int} {now num name add : Int} {M : Array Value} (hr : Kd.C (Kd.int .u8) w A t.length t) (hc : t.length ≤ c) (ht : byte t) (hl : t.length ≤ 1048576) (hn1 : 1 ≤ now) (hn2 : now ≤ linesN t) (ha1 : -9223372036854775808 ≤ add) (ha2 : add ≤ 9223372036854775807) (hm1 : -9223372036854775808 ≤ num) (hm2 : num ≤ 9223372036854775807) :
    Calls Tryd.prog 17 #[.slice A t.length c, .int .i64 now, .agg M, .slice Ah hunt.length ch, .agg #[.int .u8 110, .int .i64 num, .int .u8 name, .slice Ax x.length cx, .int .i64 add, .bool true]] w fun e w' => e = .returned (.tuple #[.int .i64 ((tailF num (linesN t) add)).1, .int .i64 ((tailF num (linesN t) add)).2]) ∧ Below w.heap.size w w' := by
  have BX := Aside0.mk (show ((w.alloc (.cells M 37)).alloc (.cells #[.int .u8 110, .int .i64 num, .int .u8 name, .slice Ax x.length cx, .int .i64 add, .bool true] 25)).heap[w.heap.size + 1]? = some (.cells #[.int .u8 110, .int .i64 num, .int .u8 name, .slice Ax x.length cx, .int .i64 add, .bool true] 25) from by have h := blk_new (w.alloc (.cells M 37)) (.cells #[.int .u8 110, .int .i64 num, .int .u8 name, .slice Ax x.length cx, .int .i64 add, .bool true] 25); rw [World.size_alloc] at h; exact h)
  have HB := Aside0.mk (below_alloc (below_alloc (Below.refl w.heap.size w) (.cells M 37)) (.cells #[.int .u8 110, .int .i64 num, .int .u8 name, .slice Ax x.length cx, .int .i64 add, .bool true] 25))
  have HCT := Aside0.mk (fun (W : World) (h : Below w.heap.size w W) => X.lines_Count.calls A c t (linesN t) W (Kd.C_below hr h) hc (count_eq ht hl))
  have kc := fun (w_ : World) (C_ : Array Value) (n_ c_ : Nat) => Lib.run_convert_bytes_const (P := Tryd.prog) w_ 22 5 C_ n_ c_ Tryd.underlying22 Tryd.underlying5
  have hn0 : 1 ≤ linesN t := by have h := split_cnt t; have h2 : 0 ≤ X.cnt 10 t := cnt_nonneg 10 t; unfold linesN; omega
  have hn9 : linesN t ≤ 1048577 := by have h := split_len t; unfold linesN; omega
  generalize linesN t = n at HCT hn1 hn2 hn0 hn9 ⊢
  have f1 : (now < 1) = False := eq_false (by omega)
  have f2 : (n < now) = False := eq_false (by omega)
  by_cases hl1 : num < 0
  · by_cases ha : add ≤ 0
    · skip
      have HTF := Aside0.mk (show tailF num n add = (0, 231) from by unfold tailF; rw [if_pos (by omega)])
      have g1 : (num < 0) = True := eq_true hl1
      have g2 : (add ≤ 0) = True := eq_true ha
      go_enter Tryd.func17, Tryd.ntmps17
      go_wp2_with (first
        | (go_at_call 18; (with_reducible refine (HCT.out _ HB.out).mono ?_); rintro e w1 ⟨rfl, hy⟩; have BK1 := Aside0.mk (blk_below BX.out hy); have H1 := Aside0.mk (below_step HB.out hy); clear hy; have a0 := (blk_cell BK1.out 0).trans rfl; have b0 := fun o_ => (blk_cell (blk_alloc BK1.out o_) 0).trans rfl; have a1 := (blk_cell BK1.out 1).trans rfl; have b1 := fun o_ => (blk_cell (blk_alloc BK1.out o_) 1).trans rfl; have a2 := (blk_cell BK1.out 2).trans rfl; have b2 := fun o_ => (blk_cell (blk_alloc BK1.out o_) 2).trans rfl; have a3 := (blk_cell BK1.out 3).trans rfl; have b3 := fun o_ => (blk_cell (blk_alloc BK1.out o_) 3).trans rfl; have a4 := (blk_cell BK1.out 4).trans rfl; have b4 := fun o_ => (blk_cell (blk_alloc BK1.out o_) 4).trans rfl; have a5 := (blk_cell BK1.out 5).trans rfl; have b5 := fun o_ => (blk_cell (blk_alloc BK1.out o_) 5).trans rfl)
        | (go_at_call 36; (with_reducible refine (idx7 w1 110 0 rfl).mono ?_); rintro e w2 ⟨rfl, ⟨nd, rfl⟩⟩))
      exact bodyPost_ret (v := .tuple #[.int .i64 0, .int .i64 231]) (by simp [results, Tryd.results17, go_sem]) rfl ⟨by rw [HTF.out], pw_below_drewN (below_alloc H1.out _) _⟩
    by_cases hk : n < add
    · skip
      by_cases hs1 : num + add < 0
      · skip
        have HTF := Aside0.mk (show tailF num n add = (0, 231) from by unfold tailF; rw [if_neg (by omega), if_pos (.inl hs1)])
        have g1 : (num < 0) = True := eq_true hl1
        have g2 : (add ≤ 0) = False := eq_false ha
        have g3 : (n < num) = False := eq_false (by omega)
        have g6 : (0 ≤ num) = False := eq_false (by omega)
        have g5 : (n < add) = True := eq_true hk
        have g7 : (num + add < 0) = True := eq_true hs1
        go_enter Tryd.func17, Tryd.ntmps17
        go_wp2_with (first
          | (go_at_call 18; (with_reducible refine (HCT.out _ HB.out).mono ?_); rintro e w1 ⟨rfl, hy⟩; have BK1 := Aside0.mk (blk_below BX.out hy); have H1 := Aside0.mk (below_step HB.out hy); clear hy; have a0 := (blk_cell BK1.out 0).trans rfl; have b0 := fun o_ => (blk_cell (blk_alloc BK1.out o_) 0).trans rfl; have a1 := (blk_cell BK1.out 1).trans rfl; have b1 := fun o_ => (blk_cell (blk_alloc BK1.out o_) 1).trans rfl; have a2 := (blk_cell BK1.out 2).trans rfl; have b2 := fun o_ => (blk_cell (blk_alloc BK1.out o_) 2).trans rfl; have a3 := (blk_cell BK1.out 3).trans rfl; have b3 := fun o_ => (blk_cell (blk_alloc BK1.out o_) 3).trans rfl; have a4 := (blk_cell BK1.out 4).trans rfl; have b4 := fun o_ => (blk_cell (blk_alloc BK1.out o_) 4).trans rfl; have a5 := (blk_cell BK1.out 5).trans rfl; have b5 := fun o_ => (blk_cell (blk_alloc BK1.out o_) 5).trans rfl)
          | (go_at_call 36; (with_reducible refine (idx7 w1 110 0 rfl).mono ?_); rintro e w2 ⟨rfl, ⟨nd, rfl⟩⟩))
        exact bodyPost_ret (v := .tuple #[.int .i64 0, .int .i64 231]) (by simp [results, Tryd.results17, go_sem]) rfl ⟨by rw [HTF.out], pw_below_drewN (below_alloc H1.out _) _⟩
      by_cases hs2 : n < num + add
      · skip
        have HTF := Aside0.mk (show tailF num n add = (0, 231) from by unfold tailF; rw [if_neg (by omega), if_pos (.inr hs2)])
        have g1 : (num < 0) = True := eq_true hl1
        have g2 : (add ≤ 0) = False := eq_false ha
        have g3 : (n < num) = False := eq_false (by omega)
        have g6 : (0 ≤ num) = False := eq_false (by omega)
        have g5 : (n < add) = True := eq_true hk
        have g7 : (num + add < 0) = False := eq_false hs1
        have g8 : (n < num + add) = True := eq_true hs2
        go_enter Tryd.func17, Tryd.ntmps17
        go_wp2_with (first
          | (go_at_call 18; (with_reducible refine (HCT.out _ HB.out).mono ?_); rintro e w1 ⟨rfl, hy⟩; have BK1 := Aside0.mk (blk_below BX.out hy); have H1 := Aside0.mk (below_step HB.out hy); clear hy; have a0 := (blk_cell BK1.out 0).trans rfl; have b0 := fun o_ => (blk_cell (blk_alloc BK1.out o_) 0).trans rfl; have a1 := (blk_cell BK1.out 1).trans rfl; have b1 := fun o_ => (blk_cell (blk_alloc BK1.out o_) 1).trans rfl; have a2 := (blk_cell BK1.out 2).trans rfl; have b2 := fun o_ => (blk_cell (blk_alloc BK1.out o_) 2).trans rfl; have a3 := (blk_cell BK1.out 3).trans rfl; have b3 := fun o_ => (blk_cell (blk_alloc BK1.out o_) 3).trans rfl; have a4 := (blk_cell BK1.out 4).trans rfl; have b4 := fun o_ => (blk_cell (blk_alloc BK1.out o_) 4).trans rfl; have a5 := (blk_cell BK1.out 5).trans rfl; have b5 := fun o_ => (blk_cell (blk_alloc BK1.out o_) 5).trans rfl)
          | (go_at_call 36; (with_reducible refine (idx7 w1 110 0 rfl).mono ?_); rintro e w2 ⟨rfl, ⟨nd, rfl⟩⟩))
        exact bodyPost_ret (v := .tuple #[.int .i64 0, .int .i64 231]) (by simp [results, Tryd.results17, go_sem]) rfl ⟨by rw [HTF.out], pw_below_drewN (below_alloc H1.out _) _⟩
      have HTF := Aside0.mk (show tailF num n add = ((num + add), 0) from by unfold tailF; rw [if_neg (by omega), if_neg (by omega)])
      have g1 : (num < 0) = True := eq_true hl1
      have g2 : (add ≤ 0) = False := eq_false ha
      have g3 : (n < num) = False := eq_false (by omega)
      have g6 : (0 ≤ num) = False := eq_false (by omega)
      have g5 : (n < add) = True := eq_true hk
      have g7 : (num + add < 0) = False := eq_false hs1
      have g8 : (n < num + add) = False := eq_false hs2
      go_enter Tryd.func17, Tryd.ntmps17
      go_wp2_with (first
        | (go_at_call 18; (with_reducible refine (HCT.out _ HB.out).mono ?_); rintro e w1 ⟨rfl, hy⟩; have BK1 := Aside0.mk (blk_below BX.out hy); have H1 := Aside0.mk (below_step HB.out hy); clear hy; have a0 := (blk_cell BK1.out 0).trans rfl; have b0 := fun o_ => (blk_cell (blk_alloc BK1.out o_) 0).trans rfl; have a1 := (blk_cell BK1.out 1).trans rfl; have b1 := fun o_ => (blk_cell (blk_alloc BK1.out o_) 1).trans rfl; have a2 := (blk_cell BK1.out 2).trans rfl; have b2 := fun o_ => (blk_cell (blk_alloc BK1.out o_) 2).trans rfl; have a3 := (blk_cell BK1.out 3).trans rfl; have b3 := fun o_ => (blk_cell (blk_alloc BK1.out o_) 3).trans rfl; have a4 := (blk_cell BK1.out 4).trans rfl; have b4 := fun o_ => (blk_cell (blk_alloc BK1.out o_) 4).trans rfl; have a5 := (blk_cell BK1.out 5).trans rfl; have b5 := fun o_ => (blk_cell (blk_alloc BK1.out o_) 5).trans rfl)
        | (go_at_call 36; (with_reducible refine (idx7 w1 110 0 rfl).mono ?_); rintro e w2 ⟨rfl, ⟨nd, rfl⟩⟩))
      exact bodyPost_ret (v := .tuple #[.int .i64 (num + add), .int .i64 0]) (by simp [results, Tryd.results17, go_sem]) rfl ⟨by rw [HTF.out], pw_below_drewN (below_alloc H1.out _) _⟩
    by_cases hs1 : num + add < 0
    · skip
      have HTF := Aside0.mk (show tailF num n add = (0, 231) from by unfold tailF; rw [if_neg (by omega), if_pos (.inl hs1)])
      have g1 : (num < 0) = True := eq_true hl1
      have g2 : (add ≤ 0) = False := eq_false ha
      have g3 : (n < num) = False := eq_false (by omega)
      have g6 : (0 ≤ num) = False := eq_false (by omega)
      have g5 : (n < add) = False := eq_false hk
      have g7 : (num + add < 0) = True := eq_true hs1
      go_enter Tryd.func17, Tryd.ntmps17
      go_wp2_with (first
        | (go_at_call 18; (with_reducible refine (HCT.out _ HB.out).mono ?_); rintro e w1 ⟨rfl, hy⟩; have BK1 := Aside0.mk (blk_below BX.out hy); have H1 := Aside0.mk (below_step HB.out hy); clear hy; have a0 := (blk_cell BK1.out 0).trans rfl; have b0 := fun o_ => (blk_cell (blk_alloc BK1.out o_) 0).trans rfl; have a1 := (blk_cell BK1.out 1).trans rfl; have b1 := fun o_ => (blk_cell (blk_alloc BK1.out o_) 1).trans rfl; have a2 := (blk_cell BK1.out 2).trans rfl; have b2 := fun o_ => (blk_cell (blk_alloc BK1.out o_) 2).trans rfl; have a3 := (blk_cell BK1.out 3).trans rfl; have b3 := fun o_ => (blk_cell (blk_alloc BK1.out o_) 3).trans rfl; have a4 := (blk_cell BK1.out 4).trans rfl; have b4 := fun o_ => (blk_cell (blk_alloc BK1.out o_) 4).trans rfl; have a5 := (blk_cell BK1.out 5).trans rfl; have b5 := fun o_ => (blk_cell (blk_alloc BK1.out o_) 5).trans rfl)
        | (go_at_call 36; (with_reducible refine (idx7 w1 110 0 rfl).mono ?_); rintro e w2 ⟨rfl, ⟨nd, rfl⟩⟩))
      exact bodyPost_ret (v := .tuple #[.int .i64 0, .int .i64 231]) (by simp [results, Tryd.results17, go_sem]) rfl ⟨by rw [HTF.out], pw_below_drewN (below_alloc H1.out _) _⟩
    by_cases hs2 : n < num + add
    · exact absurd hs2 (by omega)
    have HTF := Aside0.mk (show tailF num n add = ((num + add), 0) from by unfold tailF; rw [if_neg (by omega), if_neg (by omega)])
    have g1 : (num < 0) = True := eq_true hl1
    have g2 : (add ≤ 0) = False := eq_false ha
    have g3 : (n < num) = False := eq_false (by omega)
    have g6 : (0 ≤ num) = False := eq_false (by omega)
    have g5 : (n < add) = False := eq_false hk
    have g7 : (num + add < 0) = False := eq_false hs1
    have g8 : (n < num + add) = False := eq_false hs2
    go_enter Tryd.func17, Tryd.ntmps17
    go_wp2_with (first
      | (go_at_call 18; (with_reducible refine (HCT.out _ HB.out).mono ?_); rintro e w1 ⟨rfl, hy⟩; have BK1 := Aside0.mk (blk_below BX.out hy); have H1 := Aside0.mk (below_step HB.out hy); clear hy; have a0 := (blk_cell BK1.out 0).trans rfl; have b0 := fun o_ => (blk_cell (blk_alloc BK1.out o_) 0).trans rfl; have a1 := (blk_cell BK1.out 1).trans rfl; have b1 := fun o_ => (blk_cell (blk_alloc BK1.out o_) 1).trans rfl; have a2 := (blk_cell BK1.out 2).trans rfl; have b2 := fun o_ => (blk_cell (blk_alloc BK1.out o_) 2).trans rfl; have a3 := (blk_cell BK1.out 3).trans rfl; have b3 := fun o_ => (blk_cell (blk_alloc BK1.out o_) 3).trans rfl; have a4 := (blk_cell BK1.out 4).trans rfl; have b4 := fun o_ => (blk_cell (blk_alloc BK1.out o_) 4).trans rfl; have a5 := (blk_cell BK1.out 5).trans rfl; have b5 := fun o_ => (blk_cell (blk_alloc BK1.out o_) 5).trans rfl)
      | (go_at_call 36; (with_reducible refine (idx7 w1 110 0 rfl).mono ?_); rintro e w2 ⟨rfl, ⟨nd, rfl⟩⟩))
    exact bodyPost_ret (v := .tuple #[.int .i64 (num + add), .int .i64 0]) (by simp [results, Tryd.results17, go_sem]) rfl ⟨by rw [HTF.out], pw_below_drewN (below_alloc H1.out _) _⟩
  by_cases hl2 : n < num
  · by_cases ha : 0 ≤ add
    · skip
      have HTF := Aside0.mk (show tailF num n add = (0, 231) from by unfold tailF; rw [if_pos (by omega)])
      have g1 : (num < 0) = False := eq_false hl1
      have g3 : (n < num) = True := eq_true hl2
      have g4 : (0 ≤ add) = True := eq_true ha
      go_enter Tryd.func17, Tryd.ntmps17
      go_wp2_with (first
        | (go_at_call 18; (with_reducible refine (HCT.out _ HB.out).mono ?_); rintro e w1 ⟨rfl, hy⟩; have BK1 := Aside0.mk (blk_below BX.out hy); have H1 := Aside0.mk (below_step HB.out hy); clear hy; have a0 := (blk_cell BK1.out 0).trans rfl; have b0 := fun o_ => (blk_cell (blk_alloc BK1.out o_) 0).trans rfl; have a1 := (blk_cell BK1.out 1).trans rfl; have b1 := fun o_ => (blk_cell (blk_alloc BK1.out o_) 1).trans rfl; have a2 := (blk_cell BK1.out 2).trans rfl; have b2 := fun o_ => (blk_cell (blk_alloc BK1.out o_) 2).trans rfl; have a3 := (blk_cell BK1.out 3).trans rfl; have b3 := fun o_ => (blk_cell (blk_alloc BK1.out o_) 3).trans rfl; have a4 := (blk_cell BK1.out 4).trans rfl; have b4 := fun o_ => (blk_cell (blk_alloc BK1.out o_) 4).trans rfl; have a5 := (blk_cell BK1.out 5).trans rfl; have b5 := fun o_ => (blk_cell (blk_alloc BK1.out o_) 5).trans rfl)
        | (go_at_call 36; (with_reducible refine (idx7 w1 110 0 rfl).mono ?_); rintro e w2 ⟨rfl, ⟨nd, rfl⟩⟩))
      exact bodyPost_ret (v := .tuple #[.int .i64 0, .int .i64 231]) (by simp [results, Tryd.results17, go_sem]) rfl ⟨by rw [HTF.out], pw_below_drewN (below_alloc H1.out _) _⟩
    by_cases hs1 : num + add < 0
    · skip
      have HTF := Aside0.mk (show tailF num n add = (0, 231) from by unfold tailF; rw [if_neg (by omega), if_pos (.inl hs1)])
      have g1 : (num < 0) = False := eq_false hl1
      have g3 : (n < num) = True := eq_true hl2
      have g4 : (0 ≤ add) = False := eq_false ha
      have g5 : (n < add) = False := eq_false (by omega)
      have g7 : (num + add < 0) = True := eq_true hs1
      go_enter Tryd.func17, Tryd.ntmps17
      go_wp2_with (first
        | (go_at_call 18; (with_reducible refine (HCT.out _ HB.out).mono ?_); rintro e w1 ⟨rfl, hy⟩; have BK1 := Aside0.mk (blk_below BX.out hy); have H1 := Aside0.mk (below_step HB.out hy); clear hy; have a0 := (blk_cell BK1.out 0).trans rfl; have b0 := fun o_ => (blk_cell (blk_alloc BK1.out o_) 0).trans rfl; have a1 := (blk_cell BK1.out 1).trans rfl; have b1 := fun o_ => (blk_cell (blk_alloc BK1.out o_) 1).trans rfl; have a2 := (blk_cell BK1.out 2).trans rfl; have b2 := fun o_ => (blk_cell (blk_alloc BK1.out o_) 2).trans rfl; have a3 := (blk_cell BK1.out 3).trans rfl; have b3 := fun o_ => (blk_cell (blk_alloc BK1.out o_) 3).trans rfl; have a4 := (blk_cell BK1.out 4).trans rfl; have b4 := fun o_ => (blk_cell (blk_alloc BK1.out o_) 4).trans rfl; have a5 := (blk_cell BK1.out 5).trans rfl; have b5 := fun o_ => (blk_cell (blk_alloc BK1.out o_) 5).trans rfl)
        | (go_at_call 36; (with_reducible refine (idx7 w1 110 0 rfl).mono ?_); rintro e w2 ⟨rfl, ⟨nd, rfl⟩⟩))
      exact bodyPost_ret (v := .tuple #[.int .i64 0, .int .i64 231]) (by simp [results, Tryd.results17, go_sem]) rfl ⟨by rw [HTF.out], pw_below_drewN (below_alloc H1.out _) _⟩
    by_cases hs2 : n < num + add
    · skip
      have HTF := Aside0.mk (show tailF num n add = (0, 231) from by unfold tailF; rw [if_neg (by omega), if_pos (.inr hs2)])
      have g1 : (num < 0) = False := eq_false hl1
      have g3 : (n < num) = True := eq_true hl2
      have g4 : (0 ≤ add) = False := eq_false ha
      have g5 : (n < add) = False := eq_false (by omega)
      have g7 : (num + add < 0) = False := eq_false hs1
      have g8 : (n < num + add) = True := eq_true hs2
      go_enter Tryd.func17, Tryd.ntmps17
      go_wp2_with (first
        | (go_at_call 18; (with_reducible refine (HCT.out _ HB.out).mono ?_); rintro e w1 ⟨rfl, hy⟩; have BK1 := Aside0.mk (blk_below BX.out hy); have H1 := Aside0.mk (below_step HB.out hy); clear hy; have a0 := (blk_cell BK1.out 0).trans rfl; have b0 := fun o_ => (blk_cell (blk_alloc BK1.out o_) 0).trans rfl; have a1 := (blk_cell BK1.out 1).trans rfl; have b1 := fun o_ => (blk_cell (blk_alloc BK1.out o_) 1).trans rfl; have a2 := (blk_cell BK1.out 2).trans rfl; have b2 := fun o_ => (blk_cell (blk_alloc BK1.out o_) 2).trans rfl; have a3 := (blk_cell BK1.out 3).trans rfl; have b3 := fun o_ => (blk_cell (blk_alloc BK1.out o_) 3).trans rfl; have a4 := (blk_cell BK1.out 4).trans rfl; have b4 := fun o_ => (blk_cell (blk_alloc BK1.out o_) 4).trans rfl; have a5 := (blk_cell BK1.out 5).trans rfl; have b5 := fun o_ => (blk_cell (blk_alloc BK1.out o_) 5).trans rfl)
        | (go_at_call 36; (with_reducible refine (idx7 w1 110 0 rfl).mono ?_); rintro e w2 ⟨rfl, ⟨nd, rfl⟩⟩))
      exact bodyPost_ret (v := .tuple #[.int .i64 0, .int .i64 231]) (by simp [results, Tryd.results17, go_sem]) rfl ⟨by rw [HTF.out], pw_below_drewN (below_alloc H1.out _) _⟩
    have HTF := Aside0.mk (show tailF num n add = ((num + add), 0) from by unfold tailF; rw [if_neg (by omega), if_neg (by omega)])
    have g1 : (num < 0) = False := eq_false hl1
    have g3 : (n < num) = True := eq_true hl2
    have g4 : (0 ≤ add) = False := eq_false ha
    have g5 : (n < add) = False := eq_false (by omega)
    have g7 : (num + add < 0) = False := eq_false hs1
    have g8 : (n < num + add) = False := eq_false hs2
    go_enter Tryd.func17, Tryd.ntmps17
    go_wp2_with (first
      | (go_at_call 18; (with_reducible refine (HCT.out _ HB.out).mono ?_); rintro e w1 ⟨rfl, hy⟩; have BK1 := Aside0.mk (blk_below BX.out hy); have H1 := Aside0.mk (below_step HB.out hy); clear hy; have a0 := (blk_cell BK1.out 0).trans rfl; have b0 := fun o_ => (blk_cell (blk_alloc BK1.out o_) 0).trans rfl; have a1 := (blk_cell BK1.out 1).trans rfl; have b1 := fun o_ => (blk_cell (blk_alloc BK1.out o_) 1).trans rfl; have a2 := (blk_cell BK1.out 2).trans rfl; have b2 := fun o_ => (blk_cell (blk_alloc BK1.out o_) 2).trans rfl; have a3 := (blk_cell BK1.out 3).trans rfl; have b3 := fun o_ => (blk_cell (blk_alloc BK1.out o_) 3).trans rfl; have a4 := (blk_cell BK1.out 4).trans rfl; have b4 := fun o_ => (blk_cell (blk_alloc BK1.out o_) 4).trans rfl; have a5 := (blk_cell BK1.out 5).trans rfl; have b5 := fun o_ => (blk_cell (blk_alloc BK1.out o_) 5).trans rfl)
      | (go_at_call 36; (with_reducible refine (idx7 w1 110 0 rfl).mono ?_); rintro e w2 ⟨rfl, ⟨nd, rfl⟩⟩))
    exact bodyPost_ret (v := .tuple #[.int .i64 (num + add), .int .i64 0]) (by simp [results, Tryd.results17, go_sem]) rfl ⟨by rw [HTF.out], pw_below_drewN (below_alloc H1.out _) _⟩
  by_cases hk : n < add
  · skip
    have HTF := Aside0.mk (show tailF num n add = (0, 231) from by unfold tailF; rw [if_pos (by omega)])
    have g1 : (num < 0) = False := eq_false (by omega)
    have g3 : (n < num) = False := eq_false (by omega)
    have g6 : (0 ≤ num) = True := eq_true (by omega)
    have g5 : (n < add) = True := eq_true hk
    go_enter Tryd.func17, Tryd.ntmps17
    go_wp2_with (first
      | (go_at_call 18; (with_reducible refine (HCT.out _ HB.out).mono ?_); rintro e w1 ⟨rfl, hy⟩; have BK1 := Aside0.mk (blk_below BX.out hy); have H1 := Aside0.mk (below_step HB.out hy); clear hy; have a0 := (blk_cell BK1.out 0).trans rfl; have b0 := fun o_ => (blk_cell (blk_alloc BK1.out o_) 0).trans rfl; have a1 := (blk_cell BK1.out 1).trans rfl; have b1 := fun o_ => (blk_cell (blk_alloc BK1.out o_) 1).trans rfl; have a2 := (blk_cell BK1.out 2).trans rfl; have b2 := fun o_ => (blk_cell (blk_alloc BK1.out o_) 2).trans rfl; have a3 := (blk_cell BK1.out 3).trans rfl; have b3 := fun o_ => (blk_cell (blk_alloc BK1.out o_) 3).trans rfl; have a4 := (blk_cell BK1.out 4).trans rfl; have b4 := fun o_ => (blk_cell (blk_alloc BK1.out o_) 4).trans rfl; have a5 := (blk_cell BK1.out 5).trans rfl; have b5 := fun o_ => (blk_cell (blk_alloc BK1.out o_) 5).trans rfl)
      | (go_at_call 36; (with_reducible refine (idx7 w1 110 0 rfl).mono ?_); rintro e w2 ⟨rfl, ⟨nd, rfl⟩⟩))
    exact bodyPost_ret (v := .tuple #[.int .i64 0, .int .i64 231]) (by simp [results, Tryd.results17, go_sem]) rfl ⟨by rw [HTF.out], pw_below_drewN (below_alloc H1.out _) _⟩
  by_cases hs1 : num + add < 0
  · skip
    have HTF := Aside0.mk (show tailF num n add = (0, 231) from by unfold tailF; rw [if_neg (by omega), if_pos (.inl hs1)])
    have g1 : (num < 0) = False := eq_false (by omega)
    have g3 : (n < num) = False := eq_false (by omega)
    have g6 : (0 ≤ num) = True := eq_true (by omega)
    have g5 : (n < add) = False := eq_false hk
    have g7 : (num + add < 0) = True := eq_true hs1
    go_enter Tryd.func17, Tryd.ntmps17
    go_wp2_with (first
      | (go_at_call 18; (with_reducible refine (HCT.out _ HB.out).mono ?_); rintro e w1 ⟨rfl, hy⟩; have BK1 := Aside0.mk (blk_below BX.out hy); have H1 := Aside0.mk (below_step HB.out hy); clear hy; have a0 := (blk_cell BK1.out 0).trans rfl; have b0 := fun o_ => (blk_cell (blk_alloc BK1.out o_) 0).trans rfl; have a1 := (blk_cell BK1.out 1).trans rfl; have b1 := fun o_ => (blk_cell (blk_alloc BK1.out o_) 1).trans rfl; have a2 := (blk_cell BK1.out 2).trans rfl; have b2 := fun o_ => (blk_cell (blk_alloc BK1.out o_) 2).trans rfl; have a3 := (blk_cell BK1.out 3).trans rfl; have b3 := fun o_ => (blk_cell (blk_alloc BK1.out o_) 3).trans rfl; have a4 := (blk_cell BK1.out 4).trans rfl; have b4 := fun o_ => (blk_cell (blk_alloc BK1.out o_) 4).trans rfl; have a5 := (blk_cell BK1.out 5).trans rfl; have b5 := fun o_ => (blk_cell (blk_alloc BK1.out o_) 5).trans rfl)
      | (go_at_call 36; (with_reducible refine (idx7 w1 110 0 rfl).mono ?_); rintro e w2 ⟨rfl, ⟨nd, rfl⟩⟩))
    exact bodyPost_ret (v := .tuple #[.int .i64 0, .int .i64 231]) (by simp [results, Tryd.results17, go_sem]) rfl ⟨by rw [HTF.out], pw_below_drewN (below_alloc H1.out _) _⟩
  by_cases hs2 : n < num + add
  · skip
    have HTF := Aside0.mk (show tailF num n add = (0, 231) from by unfold tailF; rw [if_neg (by omega), if_pos (.inr hs2)])
    have g1 : (num < 0) = False := eq_false (by omega)
    have g3 : (n < num) = False := eq_false (by omega)
    have g6 : (0 ≤ num) = True := eq_true (by omega)
    have g5 : (n < add) = False := eq_false hk
    have g7 : (num + add < 0) = False := eq_false hs1
    have g8 : (n < num + add) = True := eq_true hs2
    go_enter Tryd.func17, Tryd.ntmps17
    go_wp2_with (first
      | (go_at_call 18; (with_reducible refine (HCT.out _ HB.out).mono ?_); rintro e w1 ⟨rfl, hy⟩; have BK1 := Aside0.mk (blk_below BX.out hy); have H1 := Aside0.mk (below_step HB.out hy); clear hy; have a0 := (blk_cell BK1.out 0).trans rfl; have b0 := fun o_ => (blk_cell (blk_alloc BK1.out o_) 0).trans rfl; have a1 := (blk_cell BK1.out 1).trans rfl; have b1 := fun o_ => (blk_cell (blk_alloc BK1.out o_) 1).trans rfl; have a2 := (blk_cell BK1.out 2).trans rfl; have b2 := fun o_ => (blk_cell (blk_alloc BK1.out o_) 2).trans rfl; have a3 := (blk_cell BK1.out 3).trans rfl; have b3 := fun o_ => (blk_cell (blk_alloc BK1.out o_) 3).trans rfl; have a4 := (blk_cell BK1.out 4).trans rfl; have b4 := fun o_ => (blk_cell (blk_alloc BK1.out o_) 4).trans rfl; have a5 := (blk_cell BK1.out 5).trans rfl; have b5 := fun o_ => (blk_cell (blk_alloc BK1.out o_) 5).trans rfl)
      | (go_at_call 36; (with_reducible refine (idx7 w1 110 0 rfl).mono ?_); rintro e w2 ⟨rfl, ⟨nd, rfl⟩⟩))
    exact bodyPost_ret (v := .tuple #[.int .i64 0, .int .i64 231]) (by simp [results, Tryd.results17, go_sem]) rfl ⟨by rw [HTF.out], pw_below_drewN (below_alloc H1.out _) _⟩
  have HTF := Aside0.mk (show tailF num n add = ((num + add), 0) from by unfold tailF; rw [if_neg (by omega), if_neg (by omega)])
  have g1 : (num < 0) = False := eq_false (by omega)
  have g3 : (n < num) = False := eq_false (by omega)
  have g6 : (0 ≤ num) = True := eq_true (by omega)
  have g5 : (n < add) = False := eq_false hk
  have g7 : (num + add < 0) = False := eq_false hs1
  have g8 : (n < num + add) = False := eq_false hs2
  go_enter Tryd.func17, Tryd.ntmps17
  go_wp2_with (first
    | (go_at_call 18; (with_reducible refine (HCT.out _ HB.out).mono ?_); rintro e w1 ⟨rfl, hy⟩; have BK1 := Aside0.mk (blk_below BX.out hy); have H1 := Aside0.mk (below_step HB.out hy); clear hy; have a0 := (blk_cell BK1.out 0).trans rfl; have b0 := fun o_ => (blk_cell (blk_alloc BK1.out o_) 0).trans rfl; have a1 := (blk_cell BK1.out 1).trans rfl; have b1 := fun o_ => (blk_cell (blk_alloc BK1.out o_) 1).trans rfl; have a2 := (blk_cell BK1.out 2).trans rfl; have b2 := fun o_ => (blk_cell (blk_alloc BK1.out o_) 2).trans rfl; have a3 := (blk_cell BK1.out 3).trans rfl; have b3 := fun o_ => (blk_cell (blk_alloc BK1.out o_) 3).trans rfl; have a4 := (blk_cell BK1.out 4).trans rfl; have b4 := fun o_ => (blk_cell (blk_alloc BK1.out o_) 4).trans rfl; have a5 := (blk_cell BK1.out 5).trans rfl; have b5 := fun o_ => (blk_cell (blk_alloc BK1.out o_) 5).trans rfl)
    | (go_at_call 36; (with_reducible refine (idx7 w1 110 0 rfl).mono ?_); rintro e w2 ⟨rfl, ⟨nd, rfl⟩⟩))
  exact bodyPost_ret (v := .tuple #[.int .i64 (num + add), .int .i64 0]) (by simp [results, Tryd.results17, go_sem]) rfl ⟨by rw [HTF.out], pw_below_drewN (below_alloc H1.out _) _⟩
set_option maxHeartbeats 16000000 in
set_option maxRecDepth 100000 in
theorem find_47 {w : World} {A Ah Ax : Option Addr} {c ch cx : Nat} {t hunt x : List Int} {now num name add : Int} {M : Array Value} (hr : Kd.C (Kd.int .u8) w A t.length t) (hc : t.length ≤ c) (ht : byte t) (hl : t.length ≤ 1048576) (hn1 : 1 ≤ now) (hn2 : now ≤ linesN t) (hh : Kd.C (Kd.int .u8) w Ah hunt.length hunt) (bh : byte hunt) (hx : Kd.C (Kd.int .u8) w Ax x.length x) (bx : byte x) (ha1 : -9223372036854775808 ≤ add) (ha2 : add ≤ 9223372036854775807) (hm1 : -9223372036854775808 ≤ num) (hm2 : num ≤ 9223372036854775807) :
    Calls Tryd.prog 17 #[.slice A t.length c, .int .i64 now, .agg M, .slice Ah hunt.length ch, .agg #[.int .u8 47, .int .i64 num, .int .u8 name, .slice Ax x.length cx, .int .i64 add, .bool true]] w fun e w' => e = .returned (.tuple #[.int .i64 ((if (searchA t now hunt 47 x).2 = 0 then tailF (searchA t now hunt 47 x).1 (linesN t) add else (0, (searchA t now hunt 47 x).2))).1, .int .i64 ((if (searchA t now hunt 47 x).2 = 0 then tailF (searchA t now hunt 47 x).1 (linesN t) add else (0, (searchA t now hunt 47 x).2))).2]) ∧ Below w.heap.size w w' := by
  have BX := Aside0.mk (show ((w.alloc (.cells M 37)).alloc (.cells #[.int .u8 47, .int .i64 num, .int .u8 name, .slice Ax x.length cx, .int .i64 add, .bool true] 25)).heap[w.heap.size + 1]? = some (.cells #[.int .u8 47, .int .i64 num, .int .u8 name, .slice Ax x.length cx, .int .i64 add, .bool true] 25) from by have h := blk_new (w.alloc (.cells M 37)) (.cells #[.int .u8 47, .int .i64 num, .int .u8 name, .slice Ax x.length cx, .int .i64 add, .bool true] 25); rw [World.size_alloc] at h; exact h)
  have HB := Aside0.mk (below_alloc (below_alloc (Below.refl w.heap.size w) (.cells M 37)) (.cells #[.int .u8 47, .int .i64 num, .int .u8 name, .slice Ax x.length cx, .int .i64 add, .bool true] 25))
  have HCT := Aside0.mk (fun (W : World) (h : Below w.heap.size w W) => X.lines_Count.calls A c t (linesN t) W (Kd.C_below hr h) hc (count_eq ht hl))
  have kc := fun (w_ : World) (C_ : Array Value) (n_ c_ : Nat) => Lib.run_convert_bytes_const (P := Tryd.prog) w_ 22 5 C_ n_ c_ Tryd.underlying22 Tryd.underlying5
  have hn0 : 1 ≤ linesN t := by have h := split_cnt t; have h2 : 0 ≤ X.cnt 10 t := cnt_nonneg 10 t; unfold linesN; omega
  have hn9 : linesN t ≤ 1048577 := by have h := split_len t; unfold linesN; omega
  have HSR := Aside0.mk (fun (W : World) (h : Below w.heap.size w W) => search_calls (w := W) (num := num) (name := name) (add := add) (given := true) (base := 47) (cx := cx) (ch := ch) (Kd.C_below hr h) hc ht (Kd.C_below hh h) bh (Kd.C_below hx h) bx hl hn1 hn2)
  have hrg := search_range t now hunt 47 x hn1 hn2
  generalize searchA t now hunt 47 x = r at HSR hrg ⊢
  obtain ⟨rl, re⟩ := r
  simp only at HSR hrg ⊢
  generalize linesN t = n at HCT hn1 hn2 hn0 hn9 hrg ⊢
  have f1 : (now < 1) = False := eq_false (by omega)
  have f2 : (n < now) = False := eq_false (by omega)
  clear hh bh hx bx
  by_cases he : re = 0
  · rw [if_pos he]
    subst he
    have hr2 := hrg rfl
    clear hrg
    by_cases hk : n < add
    · skip
      have HTF := Aside0.mk (show tailF rl n add = (0, 231) from by unfold tailF; rw [if_pos (by omega)])
      have g1 : (rl < 0) = False := eq_false (by omega)
      have g3 : (n < rl) = False := eq_false (by omega)
      have g6 : (0 ≤ rl) = True := eq_true (by omega)
      have g5 : (n < add) = True := eq_true hk
      go_enter Tryd.func17, Tryd.ntmps17
      go_wp2_with (first
        | (go_at_call 18; (with_reducible refine (HCT.out _ HB.out).mono ?_); rintro e w1 ⟨rfl, hy⟩; have BK1 := Aside0.mk (blk_below BX.out hy); have H1 := Aside0.mk (below_step HB.out hy); clear hy; have a0 := (blk_cell BK1.out 0).trans rfl; have b0 := fun o_ => (blk_cell (blk_alloc BK1.out o_) 0).trans rfl; have a1 := (blk_cell BK1.out 1).trans rfl; have b1 := fun o_ => (blk_cell (blk_alloc BK1.out o_) 1).trans rfl; have a2 := (blk_cell BK1.out 2).trans rfl; have b2 := fun o_ => (blk_cell (blk_alloc BK1.out o_) 2).trans rfl; have a3 := (blk_cell BK1.out 3).trans rfl; have b3 := fun o_ => (blk_cell (blk_alloc BK1.out o_) 3).trans rfl; have a4 := (blk_cell BK1.out 4).trans rfl; have b4 := fun o_ => (blk_cell (blk_alloc BK1.out o_) 4).trans rfl; have a5 := (blk_cell BK1.out 5).trans rfl; have b5 := fun o_ => (blk_cell (blk_alloc BK1.out o_) 5).trans rfl)
        | (go_at_call 36; (with_reducible refine (idx7 w1 47 4 rfl).mono ?_); rintro e w2 ⟨rfl, ⟨nd, rfl⟩⟩)
        | (go_at_call 39; (with_reducible refine (HSR.out _ (pw_below_drewN (below_alloc H1.out _) _)).mono ?_); rintro e w3 ⟨rfl, hy⟩; have H3 := Aside0.mk (below_step (pw_below_drewN (below_alloc H1.out _) _) hy); have d4 := (blk_cell (blk_below (blk_drewN (blk_alloc BK1.out _) _) hy) 4).trans rfl; clear hy))
      exact bodyPost_ret (v := .tuple #[.int .i64 0, .int .i64 231]) (by simp [results, Tryd.results17, go_sem]) rfl ⟨by rw [HTF.out], H3.out⟩
    by_cases hs1 : rl + add < 0
    · skip
      have HTF := Aside0.mk (show tailF rl n add = (0, 231) from by unfold tailF; rw [if_neg (by omega), if_pos (.inl hs1)])
      have g1 : (rl < 0) = False := eq_false (by omega)
      have g3 : (n < rl) = False := eq_false (by omega)
      have g6 : (0 ≤ rl) = True := eq_true (by omega)
      have g5 : (n < add) = False := eq_false hk
      have g7 : (rl + add < 0) = True := eq_true hs1
      go_enter Tryd.func17, Tryd.ntmps17
      go_wp2_with (first
        | (go_at_call 18; (with_reducible refine (HCT.out _ HB.out).mono ?_); rintro e w1 ⟨rfl, hy⟩; have BK1 := Aside0.mk (blk_below BX.out hy); have H1 := Aside0.mk (below_step HB.out hy); clear hy; have a0 := (blk_cell BK1.out 0).trans rfl; have b0 := fun o_ => (blk_cell (blk_alloc BK1.out o_) 0).trans rfl; have a1 := (blk_cell BK1.out 1).trans rfl; have b1 := fun o_ => (blk_cell (blk_alloc BK1.out o_) 1).trans rfl; have a2 := (blk_cell BK1.out 2).trans rfl; have b2 := fun o_ => (blk_cell (blk_alloc BK1.out o_) 2).trans rfl; have a3 := (blk_cell BK1.out 3).trans rfl; have b3 := fun o_ => (blk_cell (blk_alloc BK1.out o_) 3).trans rfl; have a4 := (blk_cell BK1.out 4).trans rfl; have b4 := fun o_ => (blk_cell (blk_alloc BK1.out o_) 4).trans rfl; have a5 := (blk_cell BK1.out 5).trans rfl; have b5 := fun o_ => (blk_cell (blk_alloc BK1.out o_) 5).trans rfl)
        | (go_at_call 36; (with_reducible refine (idx7 w1 47 4 rfl).mono ?_); rintro e w2 ⟨rfl, ⟨nd, rfl⟩⟩)
        | (go_at_call 39; (with_reducible refine (HSR.out _ (pw_below_drewN (below_alloc H1.out _) _)).mono ?_); rintro e w3 ⟨rfl, hy⟩; have H3 := Aside0.mk (below_step (pw_below_drewN (below_alloc H1.out _) _) hy); have d4 := (blk_cell (blk_below (blk_drewN (blk_alloc BK1.out _) _) hy) 4).trans rfl; clear hy))
      exact bodyPost_ret (v := .tuple #[.int .i64 0, .int .i64 231]) (by simp [results, Tryd.results17, go_sem]) rfl ⟨by rw [HTF.out], H3.out⟩
    by_cases hs2 : n < rl + add
    · skip
      have HTF := Aside0.mk (show tailF rl n add = (0, 231) from by unfold tailF; rw [if_neg (by omega), if_pos (.inr hs2)])
      have g1 : (rl < 0) = False := eq_false (by omega)
      have g3 : (n < rl) = False := eq_false (by omega)
      have g6 : (0 ≤ rl) = True := eq_true (by omega)
      have g5 : (n < add) = False := eq_false hk
      have g7 : (rl + add < 0) = False := eq_false hs1
      have g8 : (n < rl + add) = True := eq_true hs2
      go_enter Tryd.func17, Tryd.ntmps17
      go_wp2_with (first
        | (go_at_call 18; (with_reducible refine (HCT.out _ HB.out).mono ?_); rintro e w1 ⟨rfl, hy⟩; have BK1 := Aside0.mk (blk_below BX.out hy); have H1 := Aside0.mk (below_step HB.out hy); clear hy; have a0 := (blk_cell BK1.out 0).trans rfl; have b0 := fun o_ => (blk_cell (blk_alloc BK1.out o_) 0).trans rfl; have a1 := (blk_cell BK1.out 1).trans rfl; have b1 := fun o_ => (blk_cell (blk_alloc BK1.out o_) 1).trans rfl; have a2 := (blk_cell BK1.out 2).trans rfl; have b2 := fun o_ => (blk_cell (blk_alloc BK1.out o_) 2).trans rfl; have a3 := (blk_cell BK1.out 3).trans rfl; have b3 := fun o_ => (blk_cell (blk_alloc BK1.out o_) 3).trans rfl; have a4 := (blk_cell BK1.out 4).trans rfl; have b4 := fun o_ => (blk_cell (blk_alloc BK1.out o_) 4).trans rfl; have a5 := (blk_cell BK1.out 5).trans rfl; have b5 := fun o_ => (blk_cell (blk_alloc BK1.out o_) 5).trans rfl)
        | (go_at_call 36; (with_reducible refine (idx7 w1 47 4 rfl).mono ?_); rintro e w2 ⟨rfl, ⟨nd, rfl⟩⟩)
        | (go_at_call 39; (with_reducible refine (HSR.out _ (pw_below_drewN (below_alloc H1.out _) _)).mono ?_); rintro e w3 ⟨rfl, hy⟩; have H3 := Aside0.mk (below_step (pw_below_drewN (below_alloc H1.out _) _) hy); have d4 := (blk_cell (blk_below (blk_drewN (blk_alloc BK1.out _) _) hy) 4).trans rfl; clear hy))
      exact bodyPost_ret (v := .tuple #[.int .i64 0, .int .i64 231]) (by simp [results, Tryd.results17, go_sem]) rfl ⟨by rw [HTF.out], H3.out⟩
    have HTF := Aside0.mk (show tailF rl n add = ((rl + add), 0) from by unfold tailF; rw [if_neg (by omega), if_neg (by omega)])
    have g1 : (rl < 0) = False := eq_false (by omega)
    have g3 : (n < rl) = False := eq_false (by omega)
    have g6 : (0 ≤ rl) = True := eq_true (by omega)
    have g5 : (n < add) = False := eq_false hk
    have g7 : (rl + add < 0) = False := eq_false hs1
    have g8 : (n < rl + add) = False := eq_false hs2
    go_enter Tryd.func17, Tryd.ntmps17
    go_wp2_with (first
      | (go_at_call 18; (with_reducible refine (HCT.out _ HB.out).mono ?_); rintro e w1 ⟨rfl, hy⟩; have BK1 := Aside0.mk (blk_below BX.out hy); have H1 := Aside0.mk (below_step HB.out hy); clear hy; have a0 := (blk_cell BK1.out 0).trans rfl; have b0 := fun o_ => (blk_cell (blk_alloc BK1.out o_) 0).trans rfl; have a1 := (blk_cell BK1.out 1).trans rfl; have b1 := fun o_ => (blk_cell (blk_alloc BK1.out o_) 1).trans rfl; have a2 := (blk_cell BK1.out 2).trans rfl; have b2 := fun o_ => (blk_cell (blk_alloc BK1.out o_) 2).trans rfl; have a3 := (blk_cell BK1.out 3).trans rfl; have b3 := fun o_ => (blk_cell (blk_alloc BK1.out o_) 3).trans rfl; have a4 := (blk_cell BK1.out 4).trans rfl; have b4 := fun o_ => (blk_cell (blk_alloc BK1.out o_) 4).trans rfl; have a5 := (blk_cell BK1.out 5).trans rfl; have b5 := fun o_ => (blk_cell (blk_alloc BK1.out o_) 5).trans rfl)
      | (go_at_call 36; (with_reducible refine (idx7 w1 47 4 rfl).mono ?_); rintro e w2 ⟨rfl, ⟨nd, rfl⟩⟩)
      | (go_at_call 39; (with_reducible refine (HSR.out _ (pw_below_drewN (below_alloc H1.out _) _)).mono ?_); rintro e w3 ⟨rfl, hy⟩; have H3 := Aside0.mk (below_step (pw_below_drewN (below_alloc H1.out _) _) hy); have d4 := (blk_cell (blk_below (blk_drewN (blk_alloc BK1.out _) _) hy) 4).trans rfl; clear hy))
    exact bodyPost_ret (v := .tuple #[.int .i64 (rl + add), .int .i64 0]) (by simp [results, Tryd.results17, go_sem]) rfl ⟨by rw [HTF.out], H3.out⟩
  · rw [if_neg he]
    have f3 : (re != 0) = true := bne_iff_ne.2 he
    clear he hrg
    go_enter Tryd.func17, Tryd.ntmps17
    go_wp2_with (first
      | (go_at_call 18; (with_reducible refine (HCT.out _ HB.out).mono ?_); rintro e w1 ⟨rfl, hy⟩; have BK1 := Aside0.mk (blk_below BX.out hy); have H1 := Aside0.mk (below_step HB.out hy); clear hy; have a0 := (blk_cell BK1.out 0).trans rfl; have b0 := fun o_ => (blk_cell (blk_alloc BK1.out o_) 0).trans rfl; have a1 := (blk_cell BK1.out 1).trans rfl; have b1 := fun o_ => (blk_cell (blk_alloc BK1.out o_) 1).trans rfl; have a2 := (blk_cell BK1.out 2).trans rfl; have b2 := fun o_ => (blk_cell (blk_alloc BK1.out o_) 2).trans rfl; have a3 := (blk_cell BK1.out 3).trans rfl; have b3 := fun o_ => (blk_cell (blk_alloc BK1.out o_) 3).trans rfl; have a4 := (blk_cell BK1.out 4).trans rfl; have b4 := fun o_ => (blk_cell (blk_alloc BK1.out o_) 4).trans rfl; have a5 := (blk_cell BK1.out 5).trans rfl; have b5 := fun o_ => (blk_cell (blk_alloc BK1.out o_) 5).trans rfl)
      | (go_at_call 36; (with_reducible refine (idx7 w1 47 4 rfl).mono ?_); rintro e w2 ⟨rfl, ⟨nd, rfl⟩⟩)
      | (go_at_call 39; (with_reducible refine (HSR.out _ (pw_below_drewN (below_alloc H1.out _) _)).mono ?_); rintro e w3 ⟨rfl, hy⟩; have H3 := Aside0.mk (below_step (pw_below_drewN (below_alloc H1.out _) _) hy); have d4 := (blk_cell (blk_below (blk_drewN (blk_alloc BK1.out _) _) hy) 4).trans rfl; clear hy))
    exact bodyPost_ret (v := .tuple #[.int .i64 0, .int .i64 re]) (by simp [results, Tryd.results17, go_sem]) rfl ⟨rfl, H3.out⟩
set_option maxHeartbeats 16000000 in
set_option maxRecDepth 100000 in
theorem find_63 {w : World} {A Ah Ax : Option Addr} {c ch cx : Nat} {t hunt x : List Int} {now num name add : Int} {M : Array Value} (hr : Kd.C (Kd.int .u8) w A t.length t) (hc : t.length ≤ c) (ht : byte t) (hl : t.length ≤ 1048576) (hn1 : 1 ≤ now) (hn2 : now ≤ linesN t) (hh : Kd.C (Kd.int .u8) w Ah hunt.length hunt) (bh : byte hunt) (hx : Kd.C (Kd.int .u8) w Ax x.length x) (bx : byte x) (ha1 : -9223372036854775808 ≤ add) (ha2 : add ≤ 9223372036854775807) (hm1 : -9223372036854775808 ≤ num) (hm2 : num ≤ 9223372036854775807) :
    Calls Tryd.prog 17 #[.slice A t.length c, .int .i64 now, .agg M, .slice Ah hunt.length ch, .agg #[.int .u8 63, .int .i64 num, .int .u8 name, .slice Ax x.length cx, .int .i64 add, .bool true]] w fun e w' => e = .returned (.tuple #[.int .i64 ((if (searchA t now hunt 63 x).2 = 0 then tailF (searchA t now hunt 63 x).1 (linesN t) add else (0, (searchA t now hunt 63 x).2))).1, .int .i64 ((if (searchA t now hunt 63 x).2 = 0 then tailF (searchA t now hunt 63 x).1 (linesN t) add else (0, (searchA t now hunt 63 x).2))).2]) ∧ Below w.heap.size w w' := by
  have BX := Aside0.mk (show ((w.alloc (.cells M 37)).alloc (.cells #[.int .u8 63, .int .i64 num, .int .u8 name, .slice Ax x.length cx, .int .i64 add, .bool true] 25)).heap[w.heap.size + 1]? = some (.cells #[.int .u8 63, .int .i64 num, .int .u8 name, .slice Ax x.length cx, .int .i64 add, .bool true] 25) from by have h := blk_new (w.alloc (.cells M 37)) (.cells #[.int .u8 63, .int .i64 num, .int .u8 name, .slice Ax x.length cx, .int .i64 add, .bool true] 25); rw [World.size_alloc] at h; exact h)
  have HB := Aside0.mk (below_alloc (below_alloc (Below.refl w.heap.size w) (.cells M 37)) (.cells #[.int .u8 63, .int .i64 num, .int .u8 name, .slice Ax x.length cx, .int .i64 add, .bool true] 25))
  have HCT := Aside0.mk (fun (W : World) (h : Below w.heap.size w W) => X.lines_Count.calls A c t (linesN t) W (Kd.C_below hr h) hc (count_eq ht hl))
  have kc := fun (w_ : World) (C_ : Array Value) (n_ c_ : Nat) => Lib.run_convert_bytes_const (P := Tryd.prog) w_ 22 5 C_ n_ c_ Tryd.underlying22 Tryd.underlying5
  have hn0 : 1 ≤ linesN t := by have h := split_cnt t; have h2 : 0 ≤ X.cnt 10 t := cnt_nonneg 10 t; unfold linesN; omega
  have hn9 : linesN t ≤ 1048577 := by have h := split_len t; unfold linesN; omega
  have HSR := Aside0.mk (fun (W : World) (h : Below w.heap.size w W) => search_calls (w := W) (num := num) (name := name) (add := add) (given := true) (base := 63) (cx := cx) (ch := ch) (Kd.C_below hr h) hc ht (Kd.C_below hh h) bh (Kd.C_below hx h) bx hl hn1 hn2)
  have hrg := search_range t now hunt 63 x hn1 hn2
  generalize searchA t now hunt 63 x = r at HSR hrg ⊢
  obtain ⟨rl, re⟩ := r
  simp only at HSR hrg ⊢
  generalize linesN t = n at HCT hn1 hn2 hn0 hn9 hrg ⊢
  have f1 : (now < 1) = False := eq_false (by omega)
  have f2 : (n < now) = False := eq_false (by omega)
  clear hh bh hx bx
  by_cases he : re = 0
  · rw [if_pos he]
    subst he
    have hr2 := hrg rfl
    clear hrg
    by_cases hk : n < add
    · skip
      have HTF := Aside0.mk (show tailF rl n add = (0, 231) from by unfold tailF; rw [if_pos (by omega)])
      have g1 : (rl < 0) = False := eq_false (by omega)
      have g3 : (n < rl) = False := eq_false (by omega)
      have g6 : (0 ≤ rl) = True := eq_true (by omega)
      have g5 : (n < add) = True := eq_true hk
      go_enter Tryd.func17, Tryd.ntmps17
      go_wp2_with (first
        | (go_at_call 18; (with_reducible refine (HCT.out _ HB.out).mono ?_); rintro e w1 ⟨rfl, hy⟩; have BK1 := Aside0.mk (blk_below BX.out hy); have H1 := Aside0.mk (below_step HB.out hy); clear hy; have a0 := (blk_cell BK1.out 0).trans rfl; have b0 := fun o_ => (blk_cell (blk_alloc BK1.out o_) 0).trans rfl; have a1 := (blk_cell BK1.out 1).trans rfl; have b1 := fun o_ => (blk_cell (blk_alloc BK1.out o_) 1).trans rfl; have a2 := (blk_cell BK1.out 2).trans rfl; have b2 := fun o_ => (blk_cell (blk_alloc BK1.out o_) 2).trans rfl; have a3 := (blk_cell BK1.out 3).trans rfl; have b3 := fun o_ => (blk_cell (blk_alloc BK1.out o_) 3).trans rfl; have a4 := (blk_cell BK1.out 4).trans rfl; have b4 := fun o_ => (blk_cell (blk_alloc BK1.out o_) 4).trans rfl; have a5 := (blk_cell BK1.out 5).trans rfl; have b5 := fun o_ => (blk_cell (blk_alloc BK1.out o_) 5).trans rfl)
        | (go_at_call 36; (with_reducible refine (idx7 w1 63 5 rfl).mono ?_); rintro e w2 ⟨rfl, ⟨nd, rfl⟩⟩)
        | (go_at_call 39; (with_reducible refine (HSR.out _ (pw_below_drewN (below_alloc H1.out _) _)).mono ?_); rintro e w3 ⟨rfl, hy⟩; have H3 := Aside0.mk (below_step (pw_below_drewN (below_alloc H1.out _) _) hy); have d4 := (blk_cell (blk_below (blk_drewN (blk_alloc BK1.out _) _) hy) 4).trans rfl; clear hy))
      exact bodyPost_ret (v := .tuple #[.int .i64 0, .int .i64 231]) (by simp [results, Tryd.results17, go_sem]) rfl ⟨by rw [HTF.out], H3.out⟩
    by_cases hs1 : rl + add < 0
    · skip
      have HTF := Aside0.mk (show tailF rl n add = (0, 231) from by unfold tailF; rw [if_neg (by omega), if_pos (.inl hs1)])
      have g1 : (rl < 0) = False := eq_false (by omega)
      have g3 : (n < rl) = False := eq_false (by omega)
      have g6 : (0 ≤ rl) = True := eq_true (by omega)
      have g5 : (n < add) = False := eq_false hk
      have g7 : (rl + add < 0) = True := eq_true hs1
      go_enter Tryd.func17, Tryd.ntmps17
      go_wp2_with (first
        | (go_at_call 18; (with_reducible refine (HCT.out _ HB.out).mono ?_); rintro e w1 ⟨rfl, hy⟩; have BK1 := Aside0.mk (blk_below BX.out hy); have H1 := Aside0.mk (below_step HB.out hy); clear hy; have a0 := (blk_cell BK1.out 0).trans rfl; have b0 := fun o_ => (blk_cell (blk_alloc BK1.out o_) 0).trans rfl; have a1 := (blk_cell BK1.out 1).trans rfl; have b1 := fun o_ => (blk_cell (blk_alloc BK1.out o_) 1).trans rfl; have a2 := (blk_cell BK1.out 2).trans rfl; have b2 := fun o_ => (blk_cell (blk_alloc BK1.out o_) 2).trans rfl; have a3 := (blk_cell BK1.out 3).trans rfl; have b3 := fun o_ => (blk_cell (blk_alloc BK1.out o_) 3).trans rfl; have a4 := (blk_cell BK1.out 4).trans rfl; have b4 := fun o_ => (blk_cell (blk_alloc BK1.out o_) 4).trans rfl; have a5 := (blk_cell BK1.out 5).trans rfl; have b5 := fun o_ => (blk_cell (blk_alloc BK1.out o_) 5).trans rfl)
        | (go_at_call 36; (with_reducible refine (idx7 w1 63 5 rfl).mono ?_); rintro e w2 ⟨rfl, ⟨nd, rfl⟩⟩)
        | (go_at_call 39; (with_reducible refine (HSR.out _ (pw_below_drewN (below_alloc H1.out _) _)).mono ?_); rintro e w3 ⟨rfl, hy⟩; have H3 := Aside0.mk (below_step (pw_below_drewN (below_alloc H1.out _) _) hy); have d4 := (blk_cell (blk_below (blk_drewN (blk_alloc BK1.out _) _) hy) 4).trans rfl; clear hy))
      exact bodyPost_ret (v := .tuple #[.int .i64 0, .int .i64 231]) (by simp [results, Tryd.results17, go_sem]) rfl ⟨by rw [HTF.out], H3.out⟩
    by_cases hs2 : n < rl + add
    · skip
      have HTF := Aside0.mk (show tailF rl n add = (0, 231) from by unfold tailF; rw [if_neg (by omega), if_pos (.inr hs2)])
      have g1 : (rl < 0) = False := eq_false (by omega)
      have g3 : (n < rl) = False := eq_false (by omega)
      have g6 : (0 ≤ rl) = True := eq_true (by omega)
      have g5 : (n < add) = False := eq_false hk
      have g7 : (rl + add < 0) = False := eq_false hs1
      have g8 : (n < rl + add) = True := eq_true hs2
      go_enter Tryd.func17, Tryd.ntmps17
      go_wp2_with (first
        | (go_at_call 18; (with_reducible refine (HCT.out _ HB.out).mono ?_); rintro e w1 ⟨rfl, hy⟩; have BK1 := Aside0.mk (blk_below BX.out hy); have H1 := Aside0.mk (below_step HB.out hy); clear hy; have a0 := (blk_cell BK1.out 0).trans rfl; have b0 := fun o_ => (blk_cell (blk_alloc BK1.out o_) 0).trans rfl; have a1 := (blk_cell BK1.out 1).trans rfl; have b1 := fun o_ => (blk_cell (blk_alloc BK1.out o_) 1).trans rfl; have a2 := (blk_cell BK1.out 2).trans rfl; have b2 := fun o_ => (blk_cell (blk_alloc BK1.out o_) 2).trans rfl; have a3 := (blk_cell BK1.out 3).trans rfl; have b3 := fun o_ => (blk_cell (blk_alloc BK1.out o_) 3).trans rfl; have a4 := (blk_cell BK1.out 4).trans rfl; have b4 := fun o_ => (blk_cell (blk_alloc BK1.out o_) 4).trans rfl; have a5 := (blk_cell BK1.out 5).trans rfl; have b5 := fun o_ => (blk_cell (blk_alloc BK1.out o_) 5).trans rfl)
        | (go_at_call 36; (with_reducible refine (idx7 w1 63 5 rfl).mono ?_); rintro e w2 ⟨rfl, ⟨nd, rfl⟩⟩)
        | (go_at_call 39; (with_reducible refine (HSR.out _ (pw_below_drewN (below_alloc H1.out _) _)).mono ?_); rintro e w3 ⟨rfl, hy⟩; have H3 := Aside0.mk (below_step (pw_below_drewN (below_alloc H1.out _) _) hy); have d4 := (blk_cell (blk_below (blk_drewN (blk_alloc BK1.out _) _) hy) 4).trans rfl; clear hy))
      exact bodyPost_ret (v := .tuple #[.int .i64 0, .int .i64 231]) (by simp [results, Tryd.results17, go_sem]) rfl ⟨by rw [HTF.out], H3.out⟩
    have HTF := Aside0.mk (show tailF rl n add = ((rl + add), 0) from by unfold tailF; rw [if_neg (by omega), if_neg (by omega)])
    have g1 : (rl < 0) = False := eq_false (by omega)
    have g3 : (n < rl) = False := eq_false (by omega)
    have g6 : (0 ≤ rl) = True := eq_true (by omega)
    have g5 : (n < add) = False := eq_false hk
    have g7 : (rl + add < 0) = False := eq_false hs1
    have g8 : (n < rl + add) = False := eq_false hs2
    go_enter Tryd.func17, Tryd.ntmps17
    go_wp2_with (first
      | (go_at_call 18; (with_reducible refine (HCT.out _ HB.out).mono ?_); rintro e w1 ⟨rfl, hy⟩; have BK1 := Aside0.mk (blk_below BX.out hy); have H1 := Aside0.mk (below_step HB.out hy); clear hy; have a0 := (blk_cell BK1.out 0).trans rfl; have b0 := fun o_ => (blk_cell (blk_alloc BK1.out o_) 0).trans rfl; have a1 := (blk_cell BK1.out 1).trans rfl; have b1 := fun o_ => (blk_cell (blk_alloc BK1.out o_) 1).trans rfl; have a2 := (blk_cell BK1.out 2).trans rfl; have b2 := fun o_ => (blk_cell (blk_alloc BK1.out o_) 2).trans rfl; have a3 := (blk_cell BK1.out 3).trans rfl; have b3 := fun o_ => (blk_cell (blk_alloc BK1.out o_) 3).trans rfl; have a4 := (blk_cell BK1.out 4).trans rfl; have b4 := fun o_ => (blk_cell (blk_alloc BK1.out o_) 4).trans rfl; have a5 := (blk_cell BK1.out 5).trans rfl; have b5 := fun o_ => (blk_cell (blk_alloc BK1.out o_) 5).trans rfl)
      | (go_at_call 36; (with_reducible refine (idx7 w1 63 5 rfl).mono ?_); rintro e w2 ⟨rfl, ⟨nd, rfl⟩⟩)
      | (go_at_call 39; (with_reducible refine (HSR.out _ (pw_below_drewN (below_alloc H1.out _) _)).mono ?_); rintro e w3 ⟨rfl, hy⟩; have H3 := Aside0.mk (below_step (pw_below_drewN (below_alloc H1.out _) _) hy); have d4 := (blk_cell (blk_below (blk_drewN (blk_alloc BK1.out _) _) hy) 4).trans rfl; clear hy))
    exact bodyPost_ret (v := .tuple #[.int .i64 (rl + add), .int .i64 0]) (by simp [results, Tryd.results17, go_sem]) rfl ⟨by rw [HTF.out], H3.out⟩
  · rw [if_neg he]
    have f3 : (re != 0) = true := bne_iff_ne.2 he
    clear he hrg
    go_enter Tryd.func17, Tryd.ntmps17
    go_wp2_with (first
      | (go_at_call 18; (with_reducible refine (HCT.out _ HB.out).mono ?_); rintro e w1 ⟨rfl, hy⟩; have BK1 := Aside0.mk (blk_below BX.out hy); have H1 := Aside0.mk (below_step HB.out hy); clear hy; have a0 := (blk_cell BK1.out 0).trans rfl; have b0 := fun o_ => (blk_cell (blk_alloc BK1.out o_) 0).trans rfl; have a1 := (blk_cell BK1.out 1).trans rfl; have b1 := fun o_ => (blk_cell (blk_alloc BK1.out o_) 1).trans rfl; have a2 := (blk_cell BK1.out 2).trans rfl; have b2 := fun o_ => (blk_cell (blk_alloc BK1.out o_) 2).trans rfl; have a3 := (blk_cell BK1.out 3).trans rfl; have b3 := fun o_ => (blk_cell (blk_alloc BK1.out o_) 3).trans rfl; have a4 := (blk_cell BK1.out 4).trans rfl; have b4 := fun o_ => (blk_cell (blk_alloc BK1.out o_) 4).trans rfl; have a5 := (blk_cell BK1.out 5).trans rfl; have b5 := fun o_ => (blk_cell (blk_alloc BK1.out o_) 5).trans rfl)
      | (go_at_call 36; (with_reducible refine (idx7 w1 63 5 rfl).mono ?_); rintro e w2 ⟨rfl, ⟨nd, rfl⟩⟩)
      | (go_at_call 39; (with_reducible refine (HSR.out _ (pw_below_drewN (below_alloc H1.out _) _)).mono ?_); rintro e w3 ⟨rfl, hy⟩; have H3 := Aside0.mk (below_step (pw_below_drewN (below_alloc H1.out _) _) hy); have d4 := (blk_cell (blk_below (blk_drewN (blk_alloc BK1.out _) _) hy) 4).trans rfl; clear hy))
    exact bodyPost_ret (v := .tuple #[.int .i64 0, .int .i64 re]) (by simp [results, Tryd.results17, go_sem]) rfl ⟨rfl, H3.out⟩
end Go.Proofs.YtdhdngoeaneanaaDoor.PT
