/-
  Texts of one proof in one file (wip/some.py): AT13, AT14, XS, WalkAddressAround.
  Conditions: none.
-/
import Derived.Test.YtdhdngoeaneanaaDoorAT3
import Derived.Test.YtdhdngoeaneanaaDoorXL
import Derived.Lib.Hide
import Derived.Test.YtdhdngoeaneanaaDoorXO
import Derived.Test.YtdhdngoeaneanaaDoorX0
import Derived.Test.YtdhdngoeaneanaaDoorAT5
section
namespace Go.Proofs.YtdhdngoeaneanaaDoor.PT
open Go.RowKit Go.Proofs.YtdhdngoeaneanaaDoorW.PrintWords Go.Proofs.YtdhdngoeaneanaaDoorW.PrintMore Go.Proofs.YtdhdngoeaneanaaDoor.XL
set_option linter.unusedVariables false
set_option linter.unusedSimpArgs false
def bv (B : List Bool) : Array Value := (B.map Value.bool).toArray
theorem bv_get {B : List Bool} {i : Nat} (h : i < B.length) : (bv B)[i]? = some (.bool (B.getD i false)) := by
  unfold bv
  rw [List.getD_eq_getElem?_getD]
  simp [h]
theorem bv_set (B : List Bool) (i : Nat) (b : Bool) : (bv B).setIfInBounds i (.bool b) = bv (B.set i b) := by
  unfold bv
  rw [List.setIfInBounds_toArray, List.map_set]
theorem bv_made (m : Nat) : madeCells #[.bool false] m = bv (List.replicate m false) := by
  apply Array.toList_inj.1
  apply List.ext_getElem
  · simp [madeCells, bv]
  · intro i h1 h2
    simp [madeCells, bv, Nat.mod_one]
def hitV (pl : List PTh) (l : List Int) : Bool := (findV l pl 0).2.2
theorem set_hit {B : List Bool} {n i : Nat} (hl : B.length = n + 1) (hi : i < n) (f : Nat → Bool) (h : ∀ j, j < i → B.getD (j + 1) false = f j) : ∀ j, j < i + 1 → (B.set (i + 1) (f i)).getD (j + 1) false = f j := by
  intro j hj
  rw [List.getD_eq_getElem?_getD, List.getElem?_set]
  by_cases e : i + 1 = j + 1
  · obtain rfl : i = j := by omega
    rw [if_pos rfl, if_pos (by omega)]
    rfl
  · rw [if_neg e]
    have h1 := h j (by omega)
    rw [List.getD_eq_getElem?_getD] at h1
    exact h1
set_option maxHeartbeats 4000000 in
set_option maxRecDepth 100000 in
theorem matched_calls {w : World} {A : Option Addr} {c base : Nat} {t : List Int} {pv : Value} {pl : List PTh} (hr : Kd.C (Kd.int .u8) w A t.length t) (hc : t.length ≤ c) (ht : byte t) (hl : t.length ≤ 1048576) (hp : PatO w base pv (some pl)) :
    Calls Tryd.prog 20 #[.slice A t.length c, pv] w fun e w' => ∃ (g : Nat) (B : List Bool), e = .returned (.slice (some ⟨g, 0, none⟩) ((X.splitR t).length + 1) ((X.splitR t).length + 1)) ∧ B.length = (X.splitR t).length + 1 ∧ (∀ j, j < (X.splitR t).length → B.getD (j + 1) false = hitV pl ((X.splitR t).getD j [])) ∧ w'.heap[g]? = some (.cells (bv B) 4 (0, 0)) ∧ Below w.heap.size w w' := by
  have HSP := Aside0.mk (fun (W : World) (h : Below w.heap.size w W) => X.lines_Split.calls A c t (X.splitR t) W (Kd.C_below hr h) hc (by
    unfold X.lines_Split.f
    rw [if_pos (byte_u8s ht), if_pos (by omega)]))
  have HBY := Aside0.mk (split_bytes (P := fun x => 0 ≤ x ∧ x ≤ 255) t ht)
  have hrl := split_len t
  generalize X.splitR t = rows at HSP HBY hrl ⊢
  have HP0 := Aside0.mk hp
  clear hr hp ht
  have hmk : ∀ W : World, (Instr.makeSlice 49 (.int .i64 ((rows.length : Int) + 1)) (.int .i64 ((rows.length : Int) + 1))).run Tryd.prog W = .ok (.slice (some ⟨W.heap.size, 0, none⟩) (rows.length + 1) (rows.length + 1)) (W.alloc (.cells (madeCells #[.bool false] (rows.length + 1)) 4)) := fun W =>
    run_make_row' 49 4 (.bool false) 1 Tryd.underlying49 (by kernel_rfl) rfl .i64 .i64 (rows.length + 1) (by omega) (by omega) W
  have hw1 : wrap64 ((rows.length : Int) + 1) = (rows.length : Int) + 1 := wrap64_id (by omega) (by omega)
  go_enter Tryd.func20, Tryd.ntmps20
  go_wp2_with (go_at_call 42; (with_reducible refine (HSP.out _ (Below.refl _ _)).mono ?_); rintro e W1 ⟨vs, rfl, hy1, hy2⟩; have HS := Aside0.mk (And.intro hy1 hy2); clear hy1 hy2; obtain ⟨AS, cS, eS⟩ := Kd.R_slice (Kd.S_R HS.out.1); subst eS; have HP := Aside0.mk (PatO_below HP0.out HS.out.2))
  have HK := Aside0.mk (Kd.R_reads' (Kd.S_R HS.out.1)).2.2
  have HB0 := Aside0.mk (show (W1.alloc (.cells (madeCells #[.bool false] (rows.length + 1)) 4)).heap[W1.heap.size]? = some (.cells (bv (List.replicate (rows.length + 1) false)) 4 (0, 0)) from by rw [bv_made]; exact blk_new _ _)
  have HW0 := Aside0.mk (below_alloc (Below.refl W1.heap.size W1) (.cells (madeCells #[.bool false] (rows.length + 1)) 4))
  clear hmk hw1
  go_loopg [7] rows.length (fun g v7 wl => ∃ (i : Nat) (B : List Bool), i + g = rows.length ∧ v7 = .int .i64 i ∧ B.length = rows.length + 1 ∧ Aside0 (Below W1.heap.size W1 wl ∧ (∀ j, j < i → B.getD (j + 1) false = hitV pl (rows.getD j [])) ∧ wl.heap[W1.heap.size]? = some (.cells (bv B) 4 (0, 0))))
  case atStart => exact ⟨0, List.replicate (rows.length + 1) false, by omega, rfl, by simp, ⟨HW0.out, fun j hj => by omega, HB0.out⟩⟩
  case round =>
    obtain ⟨i, B, hi, rfl, hBl, HL⟩ := hrel
    clear HB0 HW0
    cases gk with
    | zero =>
      have q3 : ((i : Int) < (rows.length : Int)) = False := eq_false (by omega)
      have HBl := Aside0.mk hBl
      clear hBl
      go_wp2
      exact bodyPost_ret (v := .slice (some ⟨W1.heap.size, 0, none⟩) (rows.length + 1) (rows.length + 1)) (by simp [results, Tryd.results20, go_sem]) rfl ⟨_, B, rfl, HBl.out, fun j hj => HL.out.2.1 j (by omega), HL.out.2.2, below_step HS.out.2 HL.out.1⟩
    | succ g =>
      have hlt : i < rows.length := by omega
      have q3 : ((i : Int) < (rows.length : Int)) = True := eq_true (by omega)
      obtain ⟨ad, A', c', rfl, hy, hlc, hC⟩ := line_of HK.out hlt
      replace hy := pw_cell_below HL.out.1 hy
      have hrow := HBY.out (rows.getD i []) (by rw [List.getD_eq_getElem?_getD, List.getElem?_eq_getElem hlt]; exact List.getElem_mem hlt)
      have HF := Aside0.mk (find_calls (from_ := 0) (Kd.C_below hC HL.out.1) (byte_rd hrow.1) (by have := hrow.2; omega) hlc (PatO_below HP.out HL.out.1))
      have HV := Aside0.mk (show hitV pl (rows.getD i []) = (findV (rows.getD i []) pl 0).2.2 from rfl)
      have HQ := Aside0.mk (fun r (h : hitV pl (rows.getD i []) = r) => show ∀ j, j < i + 1 → (B.set (i + 1) r).getD (j + 1) false = hitV pl (rows.getD j []) from by rw [← h]; exact set_hit hBl hlt (fun j => hitV pl (rows.getD j [])) HL.out.2.1)
      generalize rows.getD i [] = line at hy HF HV HQ
      clear hlc hC hrow
      generalize findV line pl 0 = r at HF HV
      obtain ⟨r1, r2, r3⟩ := r
      simp only at HF HV
      have q4 : (0 ≤ (i : Int)) = True := eq_true (by omega)
      have q5 : (0 ≤ (i : Int) + 1) = True := eq_true (by omega)
      have q6 : ((i : Int) + 1 < (rows.length : Int) + 1) = True := eq_true (by omega)
      have q7 : wrap64 ((i : Int) + 1) = (i : Int) + 1 := wrap64_id (by omega) (by omega)
      have q8 : ((i : Int) + 1).toNat = i + 1 := by omega
      have HBl := Aside0.mk hBl
      clear hBl
      go_wp2_with (go_at_call 43; (with_reducible refine HF.out.mono ?_); rintro e w2 ⟨rfl, hx2⟩; have HX := Aside0.mk (And.intro (below_step HL.out.1 hx2) (blk_below HL.out.2.2 hx2)); clear hx2; have y1 := (blk_cell HX.out.2 (i + 1)).trans (bv_get (by have h := HBl.out; omega)); have y2 := blk_frozen HX.out.2 (i + 1))
      go_roundg g
      case measure => omega
      case rel => exact ⟨i + 1, B.set (i + 1) r3, by omega, by go_num, by rw [List.length_set]; exact HBl.out, ⟨HX.out.1.setCell (p := ⟨W1.heap.size, i + 1, none⟩) (Nat.le_refl _) _, HQ.out r3 HV.out, by have h := blk_set HX.out.2 (i + 1) (.bool r3); rw [bv_set] at h; exact h⟩⟩
end Go.Proofs.YtdhdngoeaneanaaDoor.PT
end
section
namespace Go.Proofs.YtdhdngoeaneanaaDoor.PT
open Go.RowKit Go.Proofs.YtdhdngoeaneanaaDoorW.PrintWords Go.Proofs.YtdhdngoeaneanaaDoorW.PrintMore Go.Proofs.YtdhdngoeaneanaaDoor.XL
set_option linter.unusedVariables false
set_option linter.unusedSimpArgs false
theorem seek_kinds (rows : List (List Int)) (pl : List PTh) (now s : Int) (h0 : 0 < rows.length) : ∀ g k, seekV rows pl now s g k = (0, 120) ∨ ((seekV rows pl now s g k).2 = 0 ∧ 1 ≤ (seekV rows pl now s g k).1 ∧ (seekV rows pl now s g k).1 ≤ (rows.length : Int)) := by
  intro g
  induction g with
  | zero => exact fun k => .inl rfl
  | succ g ih =>
    intro k
    unfold seekV
    have h1 := Int.emod_lt_of_pos (now - 1 + (k : Int) * s) (show (0 : Int) < (rows.length : Int) by omega)
    have h2 := Int.emod_nonneg (now - 1 + (k : Int) * s) (show (rows.length : Int) ≠ 0 by omega)
    split
    · exact .inr ⟨rfl, by unfold lineK; simp only; omega, by unfold lineK; simp only; omega⟩
    · exact ih (k + 1)
theorem seek_none (rows : List (List Int)) (pl : List PTh) (now s : Int) (h0 : 0 < rows.length) : ∀ g k, seekV rows pl now s g k = (0, 120) ↔ ∀ j, k ≤ j → j < k + g → hitV pl (rows.getD (lineK now s rows.length j) []) = false := by
  intro g
  induction g with
  | zero => exact fun k => ⟨fun _ j h1 h2 => by omega, fun _ => rfl⟩
  | succ g ih =>
    intro k
    unfold seekV
    constructor
    · intro h j h1 h2
      split at h
      · cases h
      · rename_i hh
        by_cases e : j = k
        · subst e
          unfold hitV
          simpa using hh
        · exact (ih (k + 1)).1 h j (by omega) (by omega)
    · intro h
      have h1 := h k (Nat.le_refl _) (by omega)
      unfold hitV at h1
      rw [if_neg (by rw [h1]; decide)]
      exact (ih (k + 1)).2 (fun j h2 h3 => h j (by omega) (by omega))
theorem line_up (now : Int) {n m : Nat} (hm : m < n) : ∃ j, 1 ≤ j ∧ j < 1 + n ∧ lineK now 1 n j = m := by
  have h1 := Int.emod_lt_of_pos ((m : Int) - now) (show (0 : Int) < (n : Int) by omega)
  have h2 := Int.emod_nonneg ((m : Int) - now) (show (n : Int) ≠ 0 by omega)
  refine ⟨(((m : Int) - now) % (n : Int)).toNat + 1, by omega, by omega, ?_⟩
  unfold lineK
  have h3 : now - 1 + ((((((m : Int) - now) % (n : Int)).toNat + 1 : Nat)) : Int) * 1 = now + ((m : Int) - now) % (n : Int) := by omega
  rw [h3, Int.add_emod_emod, show now + ((m : Int) - now) = (m : Int) from by omega, Int.emod_eq_of_lt (by omega) (by omega)]
  omega
theorem line_down (now : Int) {n m : Nat} (hm : m < n) : ∃ j, 1 ≤ j ∧ j < 1 + n ∧ lineK now (-1) n j = m := by
  have h1 := Int.emod_lt_of_pos (now - 2 - (m : Int)) (show (0 : Int) < (n : Int) by omega)
  have h2 := Int.emod_nonneg (now - 2 - (m : Int)) (show (n : Int) ≠ 0 by omega)
  refine ⟨((now - 2 - (m : Int)) % (n : Int)).toNat + 1, by omega, by omega, ?_⟩
  unfold lineK
  have h3 : now - 1 + (((((now - 2 - (m : Int)) % (n : Int)).toNat + 1 : Nat)) : Int) * (-1) = now - 2 - (now - 2 - (m : Int)) % (n : Int) := by omega
  rw [h3, Int.sub_emod, Int.emod_emod_of_dvd _ (Int.dvd_refl _), ← Int.sub_emod, show now - 2 - (now - 2 - (m : Int)) = (m : Int) from by omega, Int.emod_eq_of_lt (by omega) (by omega)]
  omega
theorem seek_both (rows : List (List Int)) (pl : List PTh) (now : Int) (h0 : 0 < rows.length) : seekV rows pl now 1 rows.length 1 = (0, 120) ↔ seekV rows pl now (-1) rows.length 1 = (0, 120) := by
  rw [seek_none rows pl now 1 h0, seek_none rows pl now (-1) h0]
  have hlt : ∀ s (j : Nat), lineK now s rows.length j < rows.length := fun s j => by
    have h1 := Int.emod_lt_of_pos (now - 1 + (j : Int) * s) (show (0 : Int) < (rows.length : Int) by omega)
    have h2 := Int.emod_nonneg (now - 1 + (j : Int) * s) (show (rows.length : Int) ≠ 0 by omega)
    unfold lineK
    omega
  constructor
  · intro h j h1 h2
    obtain ⟨i, i1, i2, i3⟩ := line_up now (hlt (-1) j)
    rw [← i3]
    exact h i i1 i2
  · intro h j h1 h2
    obtain ⟨i, i1, i2, i3⟩ := line_down now (hlt 1 j)
    rw [← i3]
    exact h i i1 i2
theorem tail_in {l n : Int} (h1 : 1 ≤ l) (h2 : l ≤ n) : tailF l n 0 = (l, 0) := by
  unfold tailF
  rw [if_neg (by omega), if_neg (by omega)]
  simp
/-- What Find answers to a search: the place or none. -/
theorem search_tail {r : Int × Int} {n : Int} (h : r = (0, 120) ∨ (r.2 = 0 ∧ 1 ≤ r.1 ∧ r.1 ≤ n)) : (if r.2 = 0 then tailF r.1 n 0 else (0, r.2)) = r := by
  obtain ⟨a, b⟩ := r
  rcases h with h | ⟨h1, h2, h3⟩
  · cases h; rfl
  · simp only at h1 h2 h3 ⊢
    subst h1
    rw [if_pos rfl, tail_in h2 h3]
theorem search_up (t x : List Int) (now : Int) {pl : List PTh} (hx : 0 < x.length) (hc : (compileV x).1 = some pl) : searchA t now [] 47 x = seekV (X.splitR t) pl now 1 (X.splitR t).length 1 := by
  unfold searchA
  rw [show textV x [] = x from if_neg (by omega), if_neg (by omega), hc]
  rfl
theorem search_down (t x : List Int) (now : Int) {pl : List PTh} (hx : 0 < x.length) (hc : (compileV x).1 = some pl) : searchA t now x 63 [] = seekV (X.splitR t) pl now (-1) (X.splitR t).length 1 := by
  unfold searchA
  rw [show textV [] x = x from if_pos rfl, if_neg (by omega), hc]
  rfl
end Go.Proofs.YtdhdngoeaneanaaDoor.PT
end
section
namespace Go.Proofs.YtdhdngoeaneanaaDoor.XO
open Go.RowKit Go.Proofs.YtdhdngoeaneanaaDoorW.PrintWords Go.Proofs.YtdhdngoeaneanaaDoor.X
def okS25 (x : S25) : Prop := okU8 x.f0 ∧ okI64 x.f1 ∧ okU8 x.f2 ∧ (okSl 1 okU8) x.f3 ∧ okI64 x.f4 ∧ okBool x.f5
def szS25 (x : S25) : Nat := (szOne x.f0 + (szOne x.f1 + (szOne x.f2 + ((szSl szOne) x.f3 + (szOne x.f4 + szOne x.f5))))) + 1
theorem opens25 : Opens Tryd.prog 25 k25 okS25 szS25 := by
  have h := opens_iso (f := fun x : S25 => (x.f0, x.f1, x.f2, x.f3, x.f4, x.f5)) (fun a => ⟨a.1, a.2.1, a.2.2.1, a.2.2.2.1, a.2.2.2.2.1, a.2.2.2.2.2⟩) (fun _ => rfl) (opens_struct Tryd.underlying25 (by kernel_rfl) (of_cons rfl (by kernel_rfl) (opens_u8 Tryd.underlying5) (of_cons rfl (by kernel_rfl) (opens_i64 Tryd.underlying3) (of_cons rfl (by kernel_rfl) (opens_u8 Tryd.underlying5) (of_cons rfl (by kernel_rfl) (opens_sl (B := 1) Tryd.underlying22 (opens_u8 Tryd.underlying5) (by kernel_rfl) (by kernel_rfl)) (of_cons rfl (by kernel_rfl) (opens_i64 Tryd.underlying3) (of_last rfl (by kernel_rfl) (opens_bool Tryd.underlying4))))))))
  exact h
end Go.Proofs.YtdhdngoeaneanaaDoor.XO
end
section
namespace Go.Proofs.YtdhdngoeaneanaaDoor.WalkAddressAround
open Go.RowKit Go.Proofs.YtdhdngoeaneanaaDoorW.PrintWords Go.Proofs.YtdhdngoeaneanaaDoorW.PrintLast Go.Proofs.YtdhdngoeaneanaaDoorW.PrintMore Go.Proofs.YtdhdngoeaneanaaDoor.X Go.Proofs.YtdhdngoeaneanaaDoor.XL Go.Proofs.YtdhdngoeaneanaaDoor.XO Go.Proofs.YtdhdngoeaneanaaDoor.PT
set_option linter.unusedVariables false
set_option linter.unusedSimpArgs false
set_option maxHeartbeats 8000000 in
set_option maxRecDepth 100000 in
theorem walk (A0 : Option Addr) (c0 : Nat) (l0 : List Int) (now : Int) (A2 : Option Addr) (c2 : Nat) (x : List Int) (w : World) (hr0 : Kd.C (Kd.int .u8) w A0 l0.length l0) (hc0 : l0.length ≤ c0) (hr2 : Kd.C (Kd.int .u8) w A2 x.length x) (hc2 : x.length ≤ c2) (o0 : (okSl 1 okU8) l0) (o1 : okI64 now) (o2 : (okSl 1 okU8) x) (hb : ((szSl szOne) l0 + szOne now + (szSl szOne) x ≤ 1048576)) (htab : Tab w) :
    Calls Tryd.prog 8 #[.slice A0 l0.length c0, .int .i64 now, .slice A2 x.length c2] w fun e w' => e = .returned (.bool true) ∧ Below w.heap.size w w' := by
  have hl0 : l0.length ≤ 1048576 := by have h1 := szSl_length (szOne (α := Int)) (fun _ => Nat.le_refl _) l0; omega
  have hl2 : x.length ≤ 1048576 := by have h1 := szSl_length (szOne (α := Int)) (fun _ => Nat.le_refl _) x; omega
  have b0 : byte l0 := fun y hy => o0.2 y hy
  have b2 : byte x := fun y hy => o2.2 y hy
  clear hb o0 o1 o2
  have HA := Aside0.mk (alive_calls (w := w) htab)
  have HCT := Aside0.mk (fun (W : World) (h : Below w.heap.size w W) => lines_Count.calls A0 c0 l0 (linesN l0) W (Kd.C_below hr0 h) hc0 (count_eq b0 hl0))
  have HC := Aside0.mk (fun (W : World) (h : Below w.heap.size w W) => compile_calls (w := W) (c := c2) (Kd.C_below hr2 h) (byte_rd b2))
  have hn1 : 1 ≤ linesN l0 := by have h := split_cnt l0; have h2 : 0 ≤ cnt 10 l0 := cnt_nonneg 10 l0; unfold linesN; omega
  have hn9 : linesN l0 ≤ 1048577 := by have h := split_len l0; unfold linesN; omega
  have hce := compile_err x
  by_cases hg : 1 ≤ now ∧ now ≤ linesN l0 ∧ (compileV x).2.2 = 0 ∧ 0 < x.length ∧ linesN l0 ≤ 5000
  · obtain ⟨g1, g2, g3, g4, g5⟩ := hg
    obtain ⟨pl, hpl⟩ : ∃ pl, (compileV x).1 = some pl := by
      rcases hce with h | ⟨pl, h, _⟩
      · exact absurd g3 h.2
      · exact ⟨pl, h⟩
    have HUP : Aside0 (∀ (W : World) (M : Array Value), Below w.heap.size w W → Calls Tryd.prog 17 #[.slice A0 l0.length c0, .int .i64 now, .agg M, .slice none 0 0, .agg #[.int .u8 47, .int .i64 0, .int .u8 0, .slice A2 x.length c2, .int .i64 0, .bool true]] W fun e w' => e = .returned (.tuple #[.int .i64 (seekV (splitR l0) pl now 1 (splitR l0).length 1).1, .int .i64 (seekV (splitR l0) pl now 1 (splitR l0).length 1).2]) ∧ Below W.heap.size W w') := ⟨fun W M h => by
      have h1 := find_47 (w := W) (A := A0) (c := c0) (t := l0) (now := now) (M := M) (Ah := none) (hunt := []) (ch := 0) (num := 0) (name := 0) (Ax := A2) (x := x) (cx := c2) (add := 0) (Kd.C_below hr0 h) hc0 b0 hl0 g1 g2 (nil_C _) byte0 (Kd.C_below hr2 h) b2 (by decide) (by decide) (by decide) (by decide)
      rw [search_up l0 x now g4 hpl, search_tail (n := linesN l0) (seek_kinds (splitR l0) pl now 1 (by unfold linesN at hn1; omega) _ _)] at h1
      exact h1⟩
    have HDN : Aside0 (∀ (W : World) (M : Array Value), Below w.heap.size w W → Calls Tryd.prog 17 #[.slice A0 l0.length c0, .int .i64 now, .agg M, .slice A2 x.length c2, .agg #[.int .u8 63, .int .i64 0, .int .u8 0, .slice none 0 0, .int .i64 0, .bool true]] W fun e w' => e = .returned (.tuple #[.int .i64 (seekV (splitR l0) pl now (-1) (splitR l0).length 1).1, .int .i64 (seekV (splitR l0) pl now (-1) (splitR l0).length 1).2]) ∧ Below W.heap.size W w') := ⟨fun W M h => by
      have h1 := find_63 (w := W) (A := A0) (c := c0) (t := l0) (now := now) (M := M) (Ah := A2) (hunt := x) (ch := c2) (num := 0) (name := 0) (Ax := none) (x := []) (cx := 0) (add := 0) (Kd.C_below hr0 h) hc0 b0 hl0 g1 g2 (Kd.C_below hr2 h) b2 (nil_C _) byte0 (by decide) (by decide) (by decide) (by decide)
      rw [search_down l0 x now g4 hpl, search_tail (n := linesN l0) (seek_kinds (splitR l0) pl now (-1) (by unfold linesN at hn1; omega) _ _)] at h1
      exact h1⟩
    have HM : Aside0 (∀ (W : World) (base : Nat) (pv : Value), Below w.heap.size w W → PatO W base pv (some pl) → Calls Tryd.prog 20 #[.slice A0 l0.length c0, pv] W fun e w' => ∃ (g : Nat) (B : List Bool), e = .returned (.slice (some ⟨g, 0, none⟩) ((splitR l0).length + 1) ((splitR l0).length + 1)) ∧ B.length = (splitR l0).length + 1 ∧ (∀ j, j < (splitR l0).length → B.getD (j + 1) false = hitV pl ((splitR l0).getD j [])) ∧ w'.heap[g]? = some (.cells (bv B) 4 (0, 0)) ∧ Below W.heap.size W w') := ⟨fun W base pv h hp => matched_calls (Kd.C_below hr0 h) hc0 b0 hl0 hp⟩
    have hk1 := seek_kinds (splitR l0) pl now 1 (by unfold linesN at hn1; omega) (splitR l0).length 1
    have hk2 := seek_kinds (splitR l0) pl now (-1) (by unfold linesN at hn1; omega) (splitR l0).length 1
    have hkb := seek_both (splitR l0) pl now (by unfold linesN at hn1; omega)
    unfold linesN at HCT g2 g5 hn1 hn9
    generalize splitR l0 = rows at HCT HUP HDN HM hk1 hk2 hkb g2 g5 hn1 hn9
    have q2 : ((compileV x).2.2 != 0) = false := by rw [g3]; rfl
    generalize compileV x = cv at HC hpl q2 g3
    obtain ⟨co, ci, ce⟩ := cv
    simp only at HC hpl q2 g3
    subst hpl
    subst g3
    clear hce htab hr0 hr2 b0 b2 hl2
    have f1 : (now < 1) = False := eq_false (by omega)
    have f2 : ((rows.length : Int) < now) = False := eq_false (by omega)
    have f3 : ((x.length : Int) == 0) = false := beq_eq_false_iff_ne.2 (by omega)
    have f4 : (5000 < (rows.length : Int)) = False := eq_false (by omega)
    go_enter Tryd.func8, Tryd.ntmps8
    go_wp2_with (first
      | (go_at_call 10; (with_reducible refine HA.out.mono ?_); rintro e w1 ⟨rfl, hx⟩; have H1 := Aside0.mk hx; clear hx)
      | (go_at_call 18; (with_reducible refine (HCT.out _ H1.out).mono ?_); rintro e w2 ⟨rfl, hx⟩; have H2 := Aside0.mk (below_step H1.out hx); clear hx)
      | (go_at_call 19; (with_reducible refine (HC.out _ H2.out).mono ?_); rintro e w3 ⟨v3, rfl, hx, hp⟩; have H3 := Aside0.mk (below_step H2.out hx); have HP3 := Aside0.mk hp; clear hx hp)
      | (go_at_call 20; (with_reducible refine (HM.out _ _ _ H3.out HP3.out).mono ?_); rintro e w4 ⟨gb, B, rfl, hB1, hB2, hB3, hx⟩; have H4 := Aside0.mk (And.intro (below_step H3.out hx) (And.intro hB1 (And.intro hB2 hB3))); clear hx hB1 hB2 hB3))
    have HK := Aside0.mk (And.intro hk1 (And.intro hk2 hkb))
    clear hk1 hk2 hkb f2 f3 f4 q2
    go_loopg [12, 13, 14, 15] rows.length (fun g v12 v13 v14 v15 wl => ∃ U D : Int, wl = w4 ∧ g ≤ rows.length ∧ v14 = .int .i64 g ∧ v12 = .int .i64 U ∧ v13 = .int .i64 D ∧ Aside0 (U = (seekV rows pl now 1 (rows.length - g) (g + 1)).1 ∧ D = (seekV rows pl now (-1) (rows.length - g) (g + 1)).1))
    case atStart => exact ⟨0, 0, rfl, Nat.le_refl _, rfl, rfl, rfl, ⟨by rw [Nat.sub_self]; rfl, by rw [Nat.sub_self]; rfl⟩⟩
    case round =>
      obtain ⟨U, D, rfl, hg, rfl, rfl, rfl, HUD⟩ := hrel
      cases gk with
      | zero =>
        have q3 : (1 ≤ (0 : Int)) = False := eq_false (by omega)
        have hU : U = (seekV rows pl now 1 rows.length 1).1 := HUD.out.1
        have hD : D = (seekV rows pl now (-1) rows.length 1).1 := HUD.out.2
        clear HUD
        obtain ⟨k1, k2, kb⟩ := HK.out
        clear HK
        generalize seekV rows pl now 1 rows.length 1 = u at HUP k1 kb hU
        generalize seekV rows pl now (-1) rows.length 1 = d at HDN k2 kb hD
        obtain ⟨u1, u2⟩ := u
        obtain ⟨d1, d2⟩ := d
        simp only at HUP HDN k1 k2 hU hD
        subst hU
        subst hD
        rcases k1 with k1 | ⟨k1, k3, k4⟩
        · have k5 := kb.1 k1
          clear k2 kb
          cases k1
          cases k5
          go_wp2_with (first
            | (go_at_call 21; (with_reducible refine (none_calls (w := wr)).mono ?_); rintro e w5 ⟨M5, rfl, hx⟩; have H5 := Aside0.mk (below_step H4.out.1 hx); clear hx)
            | (go_at_call 17; (with_reducible refine (HUP.out _ M5 H5.out).mono ?_); rintro e w6 ⟨rfl, hx⟩; have H6 := Aside0.mk (below_step H5.out hx); clear hx)
            | (go_at_call 21; (with_reducible refine (none_calls (w := w6)).mono ?_); rintro e w7 ⟨M7, rfl, hx⟩; have H7 := Aside0.mk (below_step H6.out hx); clear hx)
            | (go_at_call 17; (with_reducible refine (HDN.out _ M7 H7.out).mono ?_); rintro e w8 ⟨rfl, hx⟩; have H8 := Aside0.mk (below_step H7.out hx); clear hx))
          exact bodyPost_ret (v := .bool true) (by simp [results, Tryd.results8, go_sem]) rfl ⟨rfl, H8.out⟩
        · have k6 : d2 = 0 := by
            rcases k2 with k2 | ⟨k2, _⟩
            · have h := kb.2 k2
              cases h
              exact absurd k1 (by decide)
            · exact k2
          subst k1
          subst k6
          have f7 : (U == 0) = false := beq_eq_false_iff_ne.2 (by omega)
          clear k2 k3 k4 kb
          go_wp2_with (first
            | (go_at_call 21; (with_reducible refine (none_calls (w := wr)).mono ?_); rintro e w5 ⟨M5, rfl, hx⟩; have H5 := Aside0.mk (below_step H4.out.1 hx); clear hx)
            | (go_at_call 17; (with_reducible refine (HUP.out _ M5 H5.out).mono ?_); rintro e w6 ⟨rfl, hx⟩; have H6 := Aside0.mk (below_step H5.out hx); clear hx)
            | (go_at_call 21; (with_reducible refine (none_calls (w := w6)).mono ?_); rintro e w7 ⟨M7, rfl, hx⟩; have H7 := Aside0.mk (below_step H6.out hx); clear hx)
            | (go_at_call 17; (with_reducible refine (HDN.out _ M7 H7.out).mono ?_); rintro e w8 ⟨rfl, hx⟩; have H8 := Aside0.mk (below_step H7.out hx); clear hx))
          exact bodyPost_ret (v := .bool true) (by simp [results, Tryd.results8, go_sem]) rfl ⟨rfl, H8.out⟩
      | succ g =>
        have q3 : (1 ≤ ((g + 1 : Nat) : Int)) = True := eq_true (by omega)
        have hnn : (0 : Int) < (rows.length : Int) := by omega
        have hlu : ((lineK now 1 rows.length (g + 1) : Nat) : Int) = (now - 1 + ((g + 1 : Nat) : Int) * 1) % (rows.length : Int) := Int.toNat_of_nonneg (Int.emod_nonneg _ (by omega))
        have hld : ((lineK now (-1) rows.length (g + 1) : Nat) : Int) = (now - 1 + ((g + 1 : Nat) : Int) * (-1)) % (rows.length : Int) := Int.toNat_of_nonneg (Int.emod_nonneg _ (by omega))
        have hu1 : lineK now 1 rows.length (g + 1) < rows.length := by have h := Int.emod_lt_of_pos (now - 1 + ((g + 1 : Nat) : Int) * 1) hnn; omega
        have hd1 : lineK now (-1) rows.length (g + 1) < rows.length := by have h := Int.emod_lt_of_pos (now - 1 + ((g + 1 : Nat) : Int) * (-1)) hnn; omega
        have hku : (now - 1 + ((g : Int) + 1)) % (rows.length : Int) = ((lineK now 1 rows.length (g + 1) : Nat) : Int) := by rw [hlu]; congr 1; omega
        have hkd : (now - 1 + (rows.length : Int) - ((g : Int) + 1)) % (rows.length : Int) = ((lineK now (-1) rows.length (g + 1) : Nat) : Int) := by rw [hld, show now - 1 + (rows.length : Int) - ((g : Int) + 1) = (now - 1 + ((g + 1 : Nat) : Int) * (-1)) + (rows.length : Int) from by omega, Int.add_emod_right]
        have HSU := Aside0.mk (show (seekV rows pl now 1 (rows.length - g) (g + 1)) = if hitV pl (rows.getD (lineK now 1 rows.length (g + 1)) []) = true then ((lineK now 1 rows.length (g + 1) : Int) + 1, 0) else seekV rows pl now 1 (rows.length - (g + 1)) (g + 1 + 1) from by rw [show rows.length - g = (rows.length - (g + 1)) + 1 from by omega]; rfl)
        have HSD := Aside0.mk (show (seekV rows pl now (-1) (rows.length - g) (g + 1)) = if hitV pl (rows.getD (lineK now (-1) rows.length (g + 1)) []) = true then ((lineK now (-1) rows.length (g + 1) : Int) + 1, 0) else seekV rows pl now (-1) (rows.length - (g + 1)) (g + 1 + 1) from by rw [show rows.length - g = (rows.length - (g + 1)) + 1 from by omega]; rfl)
        have y1 := (blk_cell H4.out.2.2.2 (lineK now 1 rows.length (g + 1) + 1)).trans (bv_get (by rw [H4.out.2.1]; omega))
        have y2 := (blk_cell H4.out.2.2.2 (lineK now (-1) rows.length (g + 1) + 1)).trans (bv_get (by rw [H4.out.2.1]; omega))
        rw [H4.out.2.2.1 _ hu1] at y1
        rw [H4.out.2.2.1 _ hd1] at y2
        clear hlu hld
        generalize lineK now 1 rows.length (g + 1) = iu at hku HSU y1 hu1
        generalize lineK now (-1) rows.length (g + 1) = id_ at hkd HSD y2 hd1
        generalize hitV pl (rows.getD iu []) = bu at y1 HSU
        generalize hitV pl (rows.getD id_ []) = bd at y2 HSD
        have e1 : ((iu : Int) + 1).toNat = iu + 1 := by omega
        have e2 : ((id_ : Int) + 1).toNat = id_ + 1 := by omega
        have p1 : (0 ≤ (iu : Int) + 1) = True := eq_true (by omega)
        have p2 : (0 ≤ (id_ : Int) + 1) = True := eq_true (by omega)
        have p3 : ((iu : Int) + 1 < (rows.length : Int) + 1) = True := eq_true (by omega)
        have p4 : ((id_ : Int) + 1 < (rows.length : Int) + 1) = True := eq_true (by omega)
        have p5 : ((rows.length : Int) = 0) = False := eq_false (by omega)
        cases bu <;> cases bd
        all_goals go_wp2
        all_goals go_roundg g
        all_goals first
          | omega
          | exact ⟨_, _, rfl, by omega, by go_num, rfl, rfl, ⟨by have h := congrArg Prod.fst HSU.out; first | exact h.symm | exact HUD.out.1.trans h.symm, by have h := congrArg Prod.fst HSD.out; first | exact h.symm | exact HUD.out.2.trans h.symm⟩⟩
  · clear hce htab hr0 hr2 b0 b2 hl0 hl2
    have h : now < 1 ∨ (1 ≤ now ∧ linesN l0 < now) ∨ (1 ≤ now ∧ now ≤ linesN l0 ∧ (compileV x).2.2 ≠ 0) ∨ (1 ≤ now ∧ now ≤ linesN l0 ∧ (compileV x).2.2 = 0 ∧ x.length = 0) ∨ (1 ≤ now ∧ now ≤ linesN l0 ∧ (compileV x).2.2 = 0 ∧ 0 < x.length ∧ 5000 < linesN l0) := by omega
    clear hg
    generalize linesN l0 = n at HCT h hn1 hn9
    generalize compileV x = cv at HC h
    obtain ⟨co, ci, ce⟩ := cv
    simp only at HC h
    rcases h with h | ⟨h1, h⟩ | ⟨h1, h2, h⟩ | ⟨h1, h2, h3, h⟩ | ⟨h1, h2, h3, h4, h⟩
    · have f1 : (now < 1) = True := eq_true h
      clear h
      go_enter Tryd.func8, Tryd.ntmps8
      go_wp2_with (first
        | (go_at_call 10; (with_reducible refine HA.out.mono ?_); rintro e w1 ⟨rfl, hx⟩; have H1 := Aside0.mk hx; clear hx)
        | (go_at_call 18; (with_reducible refine (HCT.out _ H1.out).mono ?_); rintro e w2 ⟨rfl, hx⟩; have H2 := Aside0.mk (below_step H1.out hx); clear hx)
        | (go_at_call 19; (with_reducible refine (HC.out _ H2.out).mono ?_); rintro e w3 ⟨v3, rfl, hx, hp⟩; have H3 := Aside0.mk (below_step H2.out hx); have HP3 := Aside0.mk hp; clear hx hp))
      exact bodyPost_ret (v := .bool true) (by simp [results, Tryd.results8, go_sem]) rfl ⟨rfl, H3.out⟩
    · have f1 : (now < 1) = False := eq_false (by omega)
      have f2 : (n < now) = True := eq_true h
      clear h1 h
      go_enter Tryd.func8, Tryd.ntmps8
      go_wp2_with (first
        | (go_at_call 10; (with_reducible refine HA.out.mono ?_); rintro e w1 ⟨rfl, hx⟩; have H1 := Aside0.mk hx; clear hx)
        | (go_at_call 18; (with_reducible refine (HCT.out _ H1.out).mono ?_); rintro e w2 ⟨rfl, hx⟩; have H2 := Aside0.mk (below_step H1.out hx); clear hx)
        | (go_at_call 19; (with_reducible refine (HC.out _ H2.out).mono ?_); rintro e w3 ⟨v3, rfl, hx, hp⟩; have H3 := Aside0.mk (below_step H2.out hx); have HP3 := Aside0.mk hp; clear hx hp))
      exact bodyPost_ret (v := .bool true) (by simp [results, Tryd.results8, go_sem]) rfl ⟨rfl, H3.out⟩
    · have f1 : (now < 1) = False := eq_false (by omega)
      have f2 : (n < now) = False := eq_false (by omega)
      have f3 : (ce != 0) = true := bne_iff_ne.2 h
      clear h1 h2 h
      go_enter Tryd.func8, Tryd.ntmps8
      go_wp2_with (first
        | (go_at_call 10; (with_reducible refine HA.out.mono ?_); rintro e w1 ⟨rfl, hx⟩; have H1 := Aside0.mk hx; clear hx)
        | (go_at_call 18; (with_reducible refine (HCT.out _ H1.out).mono ?_); rintro e w2 ⟨rfl, hx⟩; have H2 := Aside0.mk (below_step H1.out hx); clear hx)
        | (go_at_call 19; (with_reducible refine (HC.out _ H2.out).mono ?_); rintro e w3 ⟨v3, rfl, hx, hp⟩; have H3 := Aside0.mk (below_step H2.out hx); have HP3 := Aside0.mk hp; clear hx hp))
      exact bodyPost_ret (v := .bool true) (by simp [results, Tryd.results8, go_sem]) rfl ⟨rfl, H3.out⟩
    · have f1 : (now < 1) = False := eq_false (by omega)
      have f2 : (n < now) = False := eq_false (by omega)
      have f3 : (ce != 0) = false := by rw [h3]; rfl
      have f4 : ((x.length : Int) == 0) = true := beq_iff_eq.2 (by omega)
      clear h1 h2 h3 h
      go_enter Tryd.func8, Tryd.ntmps8
      go_wp2_with (first
        | (go_at_call 10; (with_reducible refine HA.out.mono ?_); rintro e w1 ⟨rfl, hx⟩; have H1 := Aside0.mk hx; clear hx)
        | (go_at_call 18; (with_reducible refine (HCT.out _ H1.out).mono ?_); rintro e w2 ⟨rfl, hx⟩; have H2 := Aside0.mk (below_step H1.out hx); clear hx)
        | (go_at_call 19; (with_reducible refine (HC.out _ H2.out).mono ?_); rintro e w3 ⟨v3, rfl, hx, hp⟩; have H3 := Aside0.mk (below_step H2.out hx); have HP3 := Aside0.mk hp; clear hx hp))
      exact bodyPost_ret (v := .bool true) (by simp [results, Tryd.results8, go_sem]) rfl ⟨rfl, H3.out⟩
    · have f1 : (now < 1) = False := eq_false (by omega)
      have f2 : (n < now) = False := eq_false (by omega)
      have f3 : (ce != 0) = false := by rw [h3]; rfl
      have f4 : ((x.length : Int) == 0) = false := beq_eq_false_iff_ne.2 (by omega)
      have f5 : (5000 < n) = True := eq_true (by omega)
      clear h1 h2 h3 h4 h
      go_enter Tryd.func8, Tryd.ntmps8
      go_wp2_with (first
        | (go_at_call 10; (with_reducible refine HA.out.mono ?_); rintro e w1 ⟨rfl, hx⟩; have H1 := Aside0.mk hx; clear hx)
        | (go_at_call 18; (with_reducible refine (HCT.out _ H1.out).mono ?_); rintro e w2 ⟨rfl, hx⟩; have H2 := Aside0.mk (below_step H1.out hx); clear hx)
        | (go_at_call 19; (with_reducible refine (HC.out _ H2.out).mono ?_); rintro e w3 ⟨v3, rfl, hx, hp⟩; have H3 := Aside0.mk (below_step H2.out hx); have HP3 := Aside0.mk hp; clear hx hp))
      exact bodyPost_ret (v := .bool true) (by simp [results, Tryd.results8, go_sem]) rfl ⟨rfl, H3.out⟩
end Go.Proofs.YtdhdngoeaneanaaDoor.WalkAddressAround
end
