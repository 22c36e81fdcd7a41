/-
  Texts of one proof in one file (wip/some.py): AT23, AT24, WalkAddressFinds.
  Conditions: none.
-/
import Derived.Test.YtdhdngoeaneanaaDoorAJA
import Derived.Test.YtdhdngoeaneanaaDoorRT10
import Derived.Lib.Hide
section
namespace Go.Proofs.YtdhdngoeaneanaaDoor.PT
open Go.RowKit Go.Proofs.YtdhdngoeaneanaaDoorW.PrintWords Go.Proofs.YtdhdngoeaneanaaDoorW.PrintMore
set_option linter.unusedVariables false
set_option linter.unusedSimpArgs false
theorem hit_calls {w : World} {AS Ap : Option Addr} {cS cp : Nat} {rows : List (List Int)} {p : List Int} {pl : List PTh} {k : Nat} (hC : (Kd.slice 5 (Kd.int .u8)).C w AS rows.length rows) (hk : k < rows.length) (hrow : byte (rows.getD k []) ∧ (rows.getD k []).length ≤ 1048576) (hp : Kd.C (Kd.int .u8) w Ap p.length p) (bp : byte p) (hpl : (compileV p).1 = some pl) :
    Calls Tryd.prog 55 #[.slice AS rows.length cS, .int .i64 k, .slice Ap p.length cp] w fun e w' => e = .returned (.bool (findV (rows.getD k []) pl 0).2.2) ∧ Below w.heap.size w w' := by
  obtain ⟨ad, A', c', rfl, hy, hlc, hC2⟩ := line_of hC hk
  have HF := Aside0.mk (rfind_calls (f := 0) (c0 := cp) hp (byte_rd bp) hC2 hlc hrow.2 (byte_rd hrow.1))
  rw [show rfindV p (rows.getD k []) 0 = findV (rows.getD k []) pl 0 from by unfold rfindV; rw [hpl]] at HF
  generalize rows.getD k [] = line at hy HF ⊢
  generalize findV line pl 0 = r at HF ⊢
  obtain ⟨r1, r2, r3⟩ := r
  simp only at HF ⊢
  have q1 : (0 ≤ (k : Int)) = True := eq_true (by omega)
  have q2 : ((k : Int) < (rows.length : Int)) = True := eq_true (by omega)
  clear hC hk hrow hp bp hpl hlc hC2
  generalize rows.length = n at q2 ⊢
  go_enter Tryd.func55, Tryd.ntmps55
  go_wp2_with (go_at_call 74; (with_reducible refine HF.out.mono ?_); rintro e w2 ⟨rfl, hx2⟩; have HX := Aside0.mk hx2; clear hx2)
  exact bodyPost_ret (v := .bool r3) (by simp [results, Tryd.results55, go_sem]) rfl ⟨rfl, HX.out⟩
theorem rseek_kinds (rows : List (List Int)) (pl : List PTh) (now s : Int) (h0 : 0 < rows.length) : ∀ g k, seekV rows pl now s g k = (0, 120) ∨ ((seekV rows pl now s g k).2 = 0 ∧ 1 ≤ (seekV rows pl now s g k).1 ∧ (seekV rows pl now s g k).1 ≤ (rows.length : Int)) := by
  intro g
  induction g with
  | zero => exact fun k => .inl rfl
  | succ g ih =>
    intro k
    unfold seekV
    have h1 := Int.emod_lt_of_pos (now - 1 + (k : Int) * s) (show (0 : Int) < (rows.length : Int) by omega)
    have h2 := Int.emod_nonneg (now - 1 + (k : Int) * s) (show (rows.length : Int) ≠ 0 by omega)
    split
    · exact .inr ⟨rfl, by unfold lineK; simp only; omega, by unfold lineK; simp only; omega⟩
    · exact ih (k + 1)
set_option maxHeartbeats 4000000 in
set_option maxRecDepth 100000 in
theorem rseek_on {w : World} {A Ap : Option Addr} {c cp : Nat} {t p : List Int} {now : Int} {pl : List PTh} (hr : Kd.C (Kd.int .u8) w A t.length t) (hc : t.length ≤ c) (ht : byte t) (hl : t.length ≤ 1048576) (hp : Kd.C (Kd.int .u8) w Ap p.length p) (bp : byte p) (hpl : (compileV p).1 = some pl) (hn1 : 1 ≤ now) (hn2 : now ≤ (X.splitR t).length) :
    Calls Tryd.prog 34 #[.slice A t.length c, .int .i64 now, .slice Ap p.length cp, .bool false] w fun e w' => e = .returned (.int .i64 (seekV (X.splitR t) pl now 1 (X.splitR t).length 1).1) ∧ Below w.heap.size w w' := by
  have HSP := Aside0.mk (X.quoinref05_Split.calls (t.length + 2) A c t (X.splitR t) w hr hc (rsplit_all (by omega)))
  have HBY := Aside0.mk (split_bytes (P := fun x => 0 ≤ x ∧ x ≤ 255) t ht)
  have hrl := split_len t
  have HH := Aside0.mk (fun (W : World) (AS : Option Addr) (cS : Nat) (rows : List (List Int)) (k : Nat) (h : Below w.heap.size w W) (h1 : (Kd.slice 5 (Kd.int .u8)).C W AS rows.length rows) (h2 : k < rows.length) (h3 : byte (rows.getD k []) ∧ (rows.getD k []).length ≤ 1048576) => hit_calls (cS := cS) (cp := cp) h1 h2 h3 (Kd.C_below hp h) bp hpl)
  generalize X.splitR t = rows at HSP HBY hrl hn2 ⊢
  clear hr hc ht hp bp hpl
  generalize hout : (seekV rows pl now 1 rows.length 1).1 = out
  have HO := Aside0.mk hout
  clear hout
  go_enter Tryd.func34, Tryd.ntmps34
  go_wp2_with (go_at_call 54; (with_reducible refine HSP.out.mono ?_); rintro e W1 ⟨vs, rfl, hy1, hy2⟩; have HS := Aside0.mk (And.intro hy1 hy2); clear hy1 hy2; obtain ⟨AS, cS, eS⟩ := Kd.R_slice (Kd.S_R HS.out.1); subst eS)
  have HK := Aside0.mk (Kd.R_reads' (Kd.S_R HS.out.1)).2.2
  go_loopg [11] rows.length (fun g v11 wl => ∃ k : Nat, k + g = rows.length + 1 ∧ 1 ≤ k ∧ v11 = .int .i64 k ∧ Aside0 (Below W1.heap.size W1 wl ∧ (seekV rows pl now 1 g k).1 = out))
  case atStart => exact ⟨1, by omega, Nat.le_refl _, rfl, ⟨Below.refl _ _, HO.out⟩⟩
  case round =>
    obtain ⟨k, hk, hk1, rfl, HL⟩ := hrel
    clear HO
    cases gk with
    | zero =>
      have q3 : ((k : Int) ≤ (rows.length : Int)) = False := eq_false (by omega)
      obtain rfl := (show (0 : Int) = out from HL.out.2)
      go_wp2
      exact bodyPost_ret (v := .int .i64 0) (by simp [results, Tryd.results34, go_sem]) rfl ⟨rfl, below_step HS.out.2 HL.out.1⟩
    | succ g =>
      have q3 : ((k : Int) ≤ (rows.length : Int)) = True := eq_true (by omega)
      have hnn : (0 : Int) < (rows.length : Int) := by omega
      have hidx : ((lineK now 1 rows.length k : Nat) : Int) = (now - 1 + (k : Int) * 1) % (rows.length : Int) := Int.toNat_of_nonneg (Int.emod_nonneg _ (by omega))
      have hlt : lineK now 1 rows.length k < rows.length := by have h := Int.emod_lt_of_pos (now - 1 + (k : Int) * 1) hnn; omega
      have hke : (k : Int) * 1 = (k : Int) := by omega
      have hq : (now - 1 + (k : Int)) % (rows.length : Int) = ((lineK now 1 rows.length k : Nat) : Int) := by rw [hidx, hke]
      have hq2 : (now - 1 + (k : Int)).tmod (rows.length : Int) = ((lineK now 1 rows.length k : Nat) : Int) := by rw [Int.tmod_eq_emod_of_nonneg (by omega), hq]
      have HD := Aside0.mk (show seekV rows pl now 1 (g + 1) k = if (findV (rows.getD (lineK now 1 rows.length k) []) pl 0).2.2 = true then ((lineK now 1 rows.length k : Int) + 1, 0) else seekV rows pl now 1 g (k + 1) from rfl)
      have HO := Aside0.mk HL.out.2
      rw [HD.out] at HO
      clear HD hidx hke
      have hrow := HBY.out (rows.getD (lineK now 1 rows.length k) []) (by rw [List.getD_eq_getElem?_getD, List.getElem?_eq_getElem hlt]; exact List.getElem_mem hlt)
      have HF := Aside0.mk (HH.out _ AS cS rows _ (below_step HS.out.2 HL.out.1) (Kd.C_below HK.out HL.out.1) hlt ⟨hrow.1, Nat.le_trans hrow.2 hl⟩)
      clear hrow
      generalize lineK now 1 rows.length k = idx at hq hq2 hlt HO HF
      generalize findV (rows.getD idx []) pl 0 = r at HF HO
      obtain ⟨r1, r2, r3⟩ := r
      simp only at HO HF
      have q6 : ((rows.length : Int) = 0) = False := eq_false (by omega)
      have q7 : ((rows.length : Int) == 0) = false := beq_eq_false_iff_ne.2 (by omega)
      cases r3 with
      | false =>
        go_wp2_with (go_at_call 55; (with_reducible refine HF.out.mono ?_); rintro e w2 ⟨rfl, hx2⟩; have HX := Aside0.mk hx2; clear hx2)
        go_roundg g
        case measure => omega
        case rel => exact ⟨k + 1, by omega, by omega, by go_num, ⟨below_step HL.out.1 HX.out, by have h := HO.out; rw [if_neg (by simp)] at h; exact h⟩⟩
      | true =>
        obtain rfl := (show (idx : Int) + 1 = out from by have h := HO.out; rw [if_pos rfl] at h; exact h)
        go_wp2_with (go_at_call 55; (with_reducible refine HF.out.mono ?_); rintro e w2 ⟨rfl, hx2⟩; have HX := Aside0.mk hx2; clear hx2)
        exact bodyPost_ret (v := .int .i64 ((idx : Int) + 1)) (by simp [results, Tryd.results34, go_sem]) rfl ⟨rfl, below_step HS.out.2 (below_step HL.out.1 HX.out)⟩
set_option maxHeartbeats 4000000 in
set_option maxRecDepth 100000 in
theorem rseek_back {w : World} {A Ap : Option Addr} {c cp : Nat} {t p : List Int} {now : Int} {pl : List PTh} (hr : Kd.C (Kd.int .u8) w A t.length t) (hc : t.length ≤ c) (ht : byte t) (hl : t.length ≤ 1048576) (hp : Kd.C (Kd.int .u8) w Ap p.length p) (bp : byte p) (hpl : (compileV p).1 = some pl) (hn1 : 1 ≤ now) (hn2 : now ≤ (X.splitR t).length) :
    Calls Tryd.prog 34 #[.slice A t.length c, .int .i64 now, .slice Ap p.length cp, .bool true] w fun e w' => e = .returned (.int .i64 (seekV (X.splitR t) pl now (-1) (X.splitR t).length 1).1) ∧ Below w.heap.size w w' := by
  have HSP := Aside0.mk (X.quoinref05_Split.calls (t.length + 2) A c t (X.splitR t) w hr hc (rsplit_all (by omega)))
  have HBY := Aside0.mk (split_bytes (P := fun x => 0 ≤ x ∧ x ≤ 255) t ht)
  have hrl := split_len t
  have HH := Aside0.mk (fun (W : World) (AS : Option Addr) (cS : Nat) (rows : List (List Int)) (k : Nat) (h : Below w.heap.size w W) (h1 : (Kd.slice 5 (Kd.int .u8)).C W AS rows.length rows) (h2 : k < rows.length) (h3 : byte (rows.getD k []) ∧ (rows.getD k []).length ≤ 1048576) => hit_calls (cS := cS) (cp := cp) h1 h2 h3 (Kd.C_below hp h) bp hpl)
  generalize X.splitR t = rows at HSP HBY hrl hn2 ⊢
  clear hr hc ht hp bp hpl
  generalize hout : (seekV rows pl now (-1) rows.length 1).1 = out
  have HO := Aside0.mk hout
  clear hout
  go_enter Tryd.func34, Tryd.ntmps34
  go_wp2_with (go_at_call 54; (with_reducible refine HSP.out.mono ?_); rintro e W1 ⟨vs, rfl, hy1, hy2⟩; have HS := Aside0.mk (And.intro hy1 hy2); clear hy1 hy2; obtain ⟨AS, cS, eS⟩ := Kd.R_slice (Kd.S_R HS.out.1); subst eS)
  have HK := Aside0.mk (Kd.R_reads' (Kd.S_R HS.out.1)).2.2
  go_loopg [11] rows.length (fun g v11 wl => ∃ k : Nat, k + g = rows.length + 1 ∧ 1 ≤ k ∧ v11 = .int .i64 k ∧ Aside0 (Below W1.heap.size W1 wl ∧ (seekV rows pl now (-1) g k).1 = out))
  case atStart => exact ⟨1, by omega, Nat.le_refl _, rfl, ⟨Below.refl _ _, HO.out⟩⟩
  case round =>
    obtain ⟨k, hk, hk1, rfl, HL⟩ := hrel
    clear HO
    cases gk with
    | zero =>
      have q3 : ((k : Int) ≤ (rows.length : Int)) = False := eq_false (by omega)
      obtain rfl := (show (0 : Int) = out from HL.out.2)
      go_wp2
      exact bodyPost_ret (v := .int .i64 0) (by simp [results, Tryd.results34, go_sem]) rfl ⟨rfl, below_step HS.out.2 HL.out.1⟩
    | succ g =>
      have q3 : ((k : Int) ≤ (rows.length : Int)) = True := eq_true (by omega)
      have hnn : (0 : Int) < (rows.length : Int) := by omega
      have hidx : ((lineK now (-1) rows.length k : Nat) : Int) = (now - 1 + (k : Int) * (-1)) % (rows.length : Int) := Int.toNat_of_nonneg (Int.emod_nonneg _ (by omega))
      have hlt : lineK now (-1) rows.length k < rows.length := by have h := Int.emod_lt_of_pos (now - 1 + (k : Int) * (-1)) hnn; omega
      have hke : (k : Int) * (-1) = -(k : Int) := by omega
      have hq : (now - 1 + (rows.length : Int) - (k : Int)) % (rows.length : Int) = ((lineK now (-1) rows.length k : Nat) : Int) := by rw [hidx, hke, show now - 1 + (rows.length : Int) - (k : Int) = now - 1 + -(k : Int) + (rows.length : Int) from by omega, Int.add_emod_right]
      have hq2 : (now - 1 + (rows.length : Int) - (k : Int)).tmod (rows.length : Int) = ((lineK now (-1) rows.length k : Nat) : Int) := by rw [Int.tmod_eq_emod_of_nonneg (by omega), hq]
      have HD := Aside0.mk (show seekV rows pl now (-1) (g + 1) k = if (findV (rows.getD (lineK now (-1) rows.length k) []) pl 0).2.2 = true then ((lineK now (-1) rows.length k : Int) + 1, 0) else seekV rows pl now (-1) g (k + 1) from rfl)
      have HO := Aside0.mk HL.out.2
      rw [HD.out] at HO
      clear HD hidx hke
      have hrow := HBY.out (rows.getD (lineK now (-1) rows.length k) []) (by rw [List.getD_eq_getElem?_getD, List.getElem?_eq_getElem hlt]; exact List.getElem_mem hlt)
      have HF := Aside0.mk (HH.out _ AS cS rows _ (below_step HS.out.2 HL.out.1) (Kd.C_below HK.out HL.out.1) hlt ⟨hrow.1, Nat.le_trans hrow.2 hl⟩)
      clear hrow
      generalize lineK now (-1) rows.length k = idx at hq hq2 hlt HO HF
      generalize findV (rows.getD idx []) pl 0 = r at HF HO
      obtain ⟨r1, r2, r3⟩ := r
      simp only at HO HF
      have q6 : ((rows.length : Int) = 0) = False := eq_false (by omega)
      have q7 : ((rows.length : Int) == 0) = false := beq_eq_false_iff_ne.2 (by omega)
      cases r3 with
      | false =>
        go_wp2_with (go_at_call 55; (with_reducible refine HF.out.mono ?_); rintro e w2 ⟨rfl, hx2⟩; have HX := Aside0.mk hx2; clear hx2)
        go_roundg g
        case measure => omega
        case rel => exact ⟨k + 1, by omega, by omega, by go_num, ⟨below_step HL.out.1 HX.out, by have h := HO.out; rw [if_neg (by simp)] at h; exact h⟩⟩
      | true =>
        obtain rfl := (show (idx : Int) + 1 = out from by have h := HO.out; rw [if_pos rfl] at h; exact h)
        go_wp2_with (go_at_call 55; (with_reducible refine HF.out.mono ?_); rintro e w2 ⟨rfl, hx2⟩; have HX := Aside0.mk hx2; clear hx2)
        exact bodyPost_ret (v := .int .i64 ((idx : Int) + 1)) (by simp [results, Tryd.results34, go_sem]) rfl ⟨rfl, below_step HS.out.2 (below_step HL.out.1 HX.out)⟩
end Go.Proofs.YtdhdngoeaneanaaDoor.PT
end
section
namespace Go.Proofs.YtdhdngoeaneanaaDoor.PT
open Go.RowKit Go.Proofs.YtdhdngoeaneanaaDoorW.PrintWords Go.Proofs.YtdhdngoeaneanaaDoorW.PrintMore
set_option linter.unusedVariables false
set_option linter.unusedSimpArgs false
set_option maxHeartbeats 16000000 in
set_option maxRecDepth 100000 in
theorem rfar {w : World} {A Ah Ax : Option Addr} {c ch cx : Nat} {t hunt x : List Int} {now base  num name add : Int} {M : Array Value} {given : Bool} (hr : Kd.C (Kd.int .u8) w A t.length t) (hc : t.length ≤ c) (ht : byte t) (hl : t.length ≤ 1048576) (hnow : now < 1 ∨ now > linesN t) (ha1 : -9223372036854775808 ≤ add) (ha2 : add ≤ 9223372036854775807) (hm1 : -9223372036854775808 ≤ num) (hm2 : num ≤ 9223372036854775807) :
    Calls Tryd.prog 16 #[.slice A t.length c, .int .i64 now, .agg M, .slice Ah hunt.length ch, .agg #[.int .u8 base, .int .i64 num, .int .u8 name, .slice Ax x.length cx, .int .i64 add, .bool given]] w fun e w' => e = .returned (.tuple #[.int .i64 ((((0 : Int), (2 : Int)))).1, .int .i64 ((((0 : Int), (2 : Int)))).2]) ∧ Below w.heap.size w w' := by
  have BX := Aside0.mk (show ((w.alloc (.cells M 37)).alloc (.cells #[.int .u8 base, .int .i64 num, .int .u8 name, .slice Ax x.length cx, .int .i64 add, .bool given] 25)).heap[w.heap.size + 1]? = some (.cells #[.int .u8 base, .int .i64 num, .int .u8 name, .slice Ax x.length cx, .int .i64 add, .bool given] 25) from by have h := blk_new (w.alloc (.cells M 37)) (.cells #[.int .u8 base, .int .i64 num, .int .u8 name, .slice Ax x.length cx, .int .i64 add, .bool given] 25); rw [World.size_alloc] at h; exact h)
  have HB := Aside0.mk (below_alloc (below_alloc (Below.refl w.heap.size w) (.cells M 37)) (.cells #[.int .u8 base, .int .i64 num, .int .u8 name, .slice Ax x.length cx, .int .i64 add, .bool given] 25))
  have HCT := Aside0.mk (fun (W : World) (h : Below w.heap.size w W) => X.quoinref05_Count.calls (t.length + 1) A c t (linesN t) W (Kd.C_below hr h) hc (rcount_eq hl))
  have hn0 : 1 ≤ linesN t := by have h := split_cnt t; have h2 : 0 ≤ X.cnt 10 t := cnt_nonneg 10 t; unfold linesN; omega
  have hn9 : linesN t ≤ 1048577 := by have h := split_len t; unfold linesN; omega
  generalize linesN t = n at HCT hnow hn0 hn9
  by_cases h1 : now < 1
  · have f1 : (now < 1) = True := eq_true h1
    clear h1 hnow
    go_enter Tryd.func16, Tryd.ntmps16
    go_wp2_with (first
      | (go_at_call 30; (with_reducible refine (HCT.out _ HB.out).mono ?_); rintro e w1 ⟨rfl, ⟨n1, rfl⟩⟩; have BK1 := Aside0.mk (blk_drewN BX.out n1); have H1 := Aside0.mk (pw_below_drewN HB.out n1); have a0 := (blk_cell BK1.out 0).trans rfl; have a1 := (blk_cell BK1.out 1).trans rfl; have a2 := (blk_cell BK1.out 2).trans rfl; have a3 := (blk_cell BK1.out 3).trans rfl; have a4 := (blk_cell BK1.out 4).trans rfl; have a5 := (blk_cell BK1.out 5).trans rfl))
    exact bodyPost_ret (v := .tuple #[.int .i64 0, .int .i64 2]) (by simp [results, Tryd.results16, go_sem]) rfl ⟨rfl, H1.out⟩
  · have f1 : (now < 1) = False := eq_false h1
    have f2 : (n < now) = True := eq_true (by omega)
    clear h1 hnow
    go_enter Tryd.func16, Tryd.ntmps16
    go_wp2_with (first
      | (go_at_call 30; (with_reducible refine (HCT.out _ HB.out).mono ?_); rintro e w1 ⟨rfl, ⟨n1, rfl⟩⟩; have BK1 := Aside0.mk (blk_drewN BX.out n1); have H1 := Aside0.mk (pw_below_drewN HB.out n1); have a0 := (blk_cell BK1.out 0).trans rfl; have a1 := (blk_cell BK1.out 1).trans rfl; have a2 := (blk_cell BK1.out 2).trans rfl; have a3 := (blk_cell BK1.out 3).trans rfl; have a4 := (blk_cell BK1.out 4).trans rfl; have a5 := (blk_cell BK1.out 5).trans rfl))
    exact bodyPost_ret (v := .tuple #[.int .i64 0, .int .i64 2]) (by simp [results, Tryd.results16, go_sem]) rfl ⟨rfl, H1.out⟩
set_option maxHeartbeats 16000000 in
set_option maxRecDepth 100000 in
theorem rnone_given {w : World} {A Ah Ax : Option Addr} {c ch cx : Nat} {t hunt x : List Int} {now base  num name add : Int} {M : Array Value} (hr : Kd.C (Kd.int .u8) w A t.length t) (hc : t.length ≤ c) (ht : byte t) (hl : t.length ≤ 1048576) (hn1 : 1 ≤ now) (hn2 : now ≤ linesN t) (ha1 : -9223372036854775808 ≤ add) (ha2 : add ≤ 9223372036854775807) (hm1 : -9223372036854775808 ≤ num) (hm2 : num ≤ 9223372036854775807) :
    Calls Tryd.prog 16 #[.slice A t.length c, .int .i64 now, .agg M, .slice Ah hunt.length ch, .agg #[.int .u8 base, .int .i64 num, .int .u8 name, .slice Ax x.length cx, .int .i64 add, .bool false]] w fun e w' => e = .returned (.tuple #[.int .i64 (((now, (0 : Int)))).1, .int .i64 (((now, (0 : Int)))).2]) ∧ Below w.heap.size w w' := by
  have BX := Aside0.mk (show ((w.alloc (.cells M 37)).alloc (.cells #[.int .u8 base, .int .i64 num, .int .u8 name, .slice Ax x.length cx, .int .i64 add, .bool false] 25)).heap[w.heap.size + 1]? = some (.cells #[.int .u8 base, .int .i64 num, .int .u8 name, .slice Ax x.length cx, .int .i64 add, .bool false] 25) from by have h := blk_new (w.alloc (.cells M 37)) (.cells #[.int .u8 base, .int .i64 num, .int .u8 name, .slice Ax x.length cx, .int .i64 add, .bool false] 25); rw [World.size_alloc] at h; exact h)
  have HB := Aside0.mk (below_alloc (below_alloc (Below.refl w.heap.size w) (.cells M 37)) (.cells #[.int .u8 base, .int .i64 num, .int .u8 name, .slice Ax x.length cx, .int .i64 add, .bool false] 25))
  have HCT := Aside0.mk (fun (W : World) (h : Below w.heap.size w W) => X.quoinref05_Count.calls (t.length + 1) A c t (linesN t) W (Kd.C_below hr h) hc (rcount_eq hl))
  have hn0 : 1 ≤ linesN t := by have h := split_cnt t; have h2 : 0 ≤ X.cnt 10 t := cnt_nonneg 10 t; unfold linesN; omega
  have hn9 : linesN t ≤ 1048577 := by have h := split_len t; unfold linesN; omega
  generalize linesN t = n at HCT hn1 hn2 hn0 hn9 ⊢
  have f1 : (now < 1) = False := eq_false (by omega)
  have f2 : (n < now) = False := eq_false (by omega)
  go_enter Tryd.func16, Tryd.ntmps16
  go_wp2_with (first
    | (go_at_call 30; (with_reducible refine (HCT.out _ HB.out).mono ?_); rintro e w1 ⟨rfl, ⟨n1, rfl⟩⟩; have BK1 := Aside0.mk (blk_drewN BX.out n1); have H1 := Aside0.mk (pw_below_drewN HB.out n1); have a0 := (blk_cell BK1.out 0).trans rfl; have a1 := (blk_cell BK1.out 1).trans rfl; have a2 := (blk_cell BK1.out 2).trans rfl; have a3 := (blk_cell BK1.out 3).trans rfl; have a4 := (blk_cell BK1.out 4).trans rfl; have a5 := (blk_cell BK1.out 5).trans rfl))
  exact bodyPost_ret (v := .tuple #[.int .i64 now, .int .i64 0]) (by simp [results, Tryd.results16, go_sem]) rfl ⟨rfl, H1.out⟩
set_option maxHeartbeats 16000000 in
set_option maxRecDepth 100000 in
theorem rstrange {w : World} {A Ah Ax : Option Addr} {c ch cx : Nat} {t hunt x : List Int} {now base  num name add : Int} {M : Array Value} (hr : Kd.C (Kd.int .u8) w A t.length t) (hc : t.length ≤ c) (ht : byte t) (hl : t.length ≤ 1048576) (hn1 : 1 ≤ now) (hn2 : now ≤ linesN t) (hb : base ∉ seven) (ha1 : -9223372036854775808 ≤ add) (ha2 : add ≤ 9223372036854775807) (hm1 : -9223372036854775808 ≤ num) (hm2 : num ≤ 9223372036854775807) :
    Calls Tryd.prog 16 #[.slice A t.length c, .int .i64 now, .agg M, .slice Ah hunt.length ch, .agg #[.int .u8 base, .int .i64 num, .int .u8 name, .slice Ax x.length cx, .int .i64 add, .bool true]] w fun e w' => e = .returned (.tuple #[.int .i64 ((((0 : Int), (2 : Int)))).1, .int .i64 ((((0 : Int), (2 : Int)))).2]) ∧ Below w.heap.size w w' := by
  have BX := Aside0.mk (show ((w.alloc (.cells M 37)).alloc (.cells #[.int .u8 base, .int .i64 num, .int .u8 name, .slice Ax x.length cx, .int .i64 add, .bool true] 25)).heap[w.heap.size + 1]? = some (.cells #[.int .u8 base, .int .i64 num, .int .u8 name, .slice Ax x.length cx, .int .i64 add, .bool true] 25) from by have h := blk_new (w.alloc (.cells M 37)) (.cells #[.int .u8 base, .int .i64 num, .int .u8 name, .slice Ax x.length cx, .int .i64 add, .bool true] 25); rw [World.size_alloc] at h; exact h)
  have HB := Aside0.mk (below_alloc (below_alloc (Below.refl w.heap.size w) (.cells M 37)) (.cells #[.int .u8 base, .int .i64 num, .int .u8 name, .slice Ax x.length cx, .int .i64 add, .bool true] 25))
  have HCT := Aside0.mk (fun (W : World) (h : Below w.heap.size w W) => X.quoinref05_Count.calls (t.length + 1) A c t (linesN t) W (Kd.C_below hr h) hc (rcount_eq hl))
  have hn0 : 1 ≤ linesN t := by have h := split_cnt t; have h2 : 0 ≤ X.cnt 10 t := cnt_nonneg 10 t; unfold linesN; omega
  have hn9 : linesN t ≤ 1048577 := by have h := split_len t; unfold linesN; omega
  generalize linesN t = n at HCT hn1 hn2 hn0 hn9 ⊢
  have f1 : (now < 1) = False := eq_false (by omega)
  have f2 : (n < now) = False := eq_false (by omega)
  simp only [seven, List.mem_cons, not_or] at hb
  obtain ⟨e1, e2, e3, e4, e5, e6, e7, _⟩ := hb
  have s1 : (base == 110) = false := beq_eq_false_iff_ne.2 e1
  have s2 : (base == 46) = false := beq_eq_false_iff_ne.2 e2
  have s3 : (base == 36) = false := beq_eq_false_iff_ne.2 e3
  have s4 : (base == 39) = false := beq_eq_false_iff_ne.2 e4
  have s5 : (base == 47) = false := beq_eq_false_iff_ne.2 e5
  have s6 : (base == 63) = false := beq_eq_false_iff_ne.2 e6
  have s7 : (base == 0) = false := beq_eq_false_iff_ne.2 e7
  clear e1 e2 e3 e4 e5 e6 e7
  go_enter Tryd.func16, Tryd.ntmps16
  go_wp2_with (first
    | (go_at_call 30; (with_reducible refine (HCT.out _ HB.out).mono ?_); rintro e w1 ⟨rfl, ⟨n1, rfl⟩⟩; have BK1 := Aside0.mk (blk_drewN BX.out n1); have H1 := Aside0.mk (pw_below_drewN HB.out n1); have a0 := (blk_cell BK1.out 0).trans rfl; have a1 := (blk_cell BK1.out 1).trans rfl; have a2 := (blk_cell BK1.out 2).trans rfl; have a3 := (blk_cell BK1.out 3).trans rfl; have a4 := (blk_cell BK1.out 4).trans rfl; have a5 := (blk_cell BK1.out 5).trans rfl))
  exact bodyPost_ret (v := .tuple #[.int .i64 0, .int .i64 2]) (by simp [results, Tryd.results16, go_sem]) rfl ⟨rfl, H1.out⟩
set_option maxHeartbeats 16000000 in
set_option maxRecDepth 100000 in
theorem rfind_36 {w : World} {A Ah Ax : Option Addr} {c ch cx : Nat} {t hunt x : List Int} {now  num name add : Int} {M : Array Value} (hr : Kd.C (Kd.int .u8) w A t.length t) (hc : t.length ≤ c) (ht : byte t) (hl : t.length ≤ 1048576) (hn1 : 1 ≤ now) (hn2 : now ≤ linesN t) (ha1 : -9223372036854775808 ≤ add) (ha2 : add ≤ 9223372036854775807) (hm1 : -9223372036854775808 ≤ num) (hm2 : num ≤ 9223372036854775807) :
    Calls Tryd.prog 16 #[.slice A t.length c, .int .i64 now, .agg M, .slice Ah hunt.length ch, .agg #[.int .u8 36, .int .i64 num, .int .u8 name, .slice Ax x.length cx, .int .i64 add, .bool true]] w fun e w' => e = .returned (.tuple #[.int .i64 ((tailF (linesN t) (linesN t) add)).1, .int .i64 ((tailF (linesN t) (linesN t) add)).2]) ∧ Below w.heap.size w w' := by
  have BX := Aside0.mk (show ((w.alloc (.cells M 37)).alloc (.cells #[.int .u8 36, .int .i64 num, .int .u8 name, .slice Ax x.length cx, .int .i64 add, .bool true] 25)).heap[w.heap.size + 1]? = some (.cells #[.int .u8 36, .int .i64 num, .int .u8 name, .slice Ax x.length cx, .int .i64 add, .bool true] 25) from by have h := blk_new (w.alloc (.cells M 37)) (.cells #[.int .u8 36, .int .i64 num, .int .u8 name, .slice Ax x.length cx, .int .i64 add, .bool true] 25); rw [World.size_alloc] at h; exact h)
  have HB := Aside0.mk (below_alloc (below_alloc (Below.refl w.heap.size w) (.cells M 37)) (.cells #[.int .u8 36, .int .i64 num, .int .u8 name, .slice Ax x.length cx, .int .i64 add, .bool true] 25))
  have HCT := Aside0.mk (fun (W : World) (h : Below w.heap.size w W) => X.quoinref05_Count.calls (t.length + 1) A c t (linesN t) W (Kd.C_below hr h) hc (rcount_eq hl))
  have hn0 : 1 ≤ linesN t := by have h := split_cnt t; have h2 : 0 ≤ X.cnt 10 t := cnt_nonneg 10 t; unfold linesN; omega
  have hn9 : linesN t ≤ 1048577 := by have h := split_len t; unfold linesN; omega
  generalize linesN t = n at HCT hn1 hn2 hn0 hn9 ⊢
  have f1 : (now < 1) = False := eq_false (by omega)
  have f2 : (n < now) = False := eq_false (by omega)
  obtain ⟨sm, sb, hs, hT⟩ := rsum_eq (l := n) (n := n) (add := add) (by omega) (by omega) ha1 ha2 hn0 (by omega)
  have HSM := Aside0.mk (fun (W : World) => X.quoinref23_sum.calls 1 (n) add n sm sb W hs)
  rw [hT]
  clear hs hT hn0 hn9 ha1 ha2 hm1 hm2 hn1 hn2
  cases sb with
  | true =>
    rw [if_pos rfl]
    go_enter Tryd.func16, Tryd.ntmps16
    go_wp2_with (first
      | (go_at_call 30; (with_reducible refine (HCT.out _ HB.out).mono ?_); rintro e w1 ⟨rfl, ⟨n1, rfl⟩⟩; have BK1 := Aside0.mk (blk_drewN BX.out n1); have H1 := Aside0.mk (pw_below_drewN HB.out n1); have a0 := (blk_cell BK1.out 0).trans rfl; have a1 := (blk_cell BK1.out 1).trans rfl; have a2 := (blk_cell BK1.out 2).trans rfl; have a3 := (blk_cell BK1.out 3).trans rfl; have a4 := (blk_cell BK1.out 4).trans rfl; have a5 := (blk_cell BK1.out 5).trans rfl)
      | (go_at_call 35; (with_reducible refine (HSM.out _).mono ?_); rintro e w9 ⟨rfl, ⟨n9, rfl⟩⟩))
    exact bodyPost_ret (v := .tuple #[.int .i64 sm, .int .i64 0]) (by simp [results, Tryd.results16, go_sem]) rfl ⟨rfl, pw_below_drewN HB.out _⟩
  | false =>
    rw [if_neg (by decide)]
    go_enter Tryd.func16, Tryd.ntmps16
    go_wp2_with (first
      | (go_at_call 30; (with_reducible refine (HCT.out _ HB.out).mono ?_); rintro e w1 ⟨rfl, ⟨n1, rfl⟩⟩; have BK1 := Aside0.mk (blk_drewN BX.out n1); have H1 := Aside0.mk (pw_below_drewN HB.out n1); have a0 := (blk_cell BK1.out 0).trans rfl; have a1 := (blk_cell BK1.out 1).trans rfl; have a2 := (blk_cell BK1.out 2).trans rfl; have a3 := (blk_cell BK1.out 3).trans rfl; have a4 := (blk_cell BK1.out 4).trans rfl; have a5 := (blk_cell BK1.out 5).trans rfl)
      | (go_at_call 35; (with_reducible refine (HSM.out _).mono ?_); rintro e w9 ⟨rfl, ⟨n9, rfl⟩⟩))
    exact bodyPost_ret (v := .tuple #[.int .i64 0, .int .i64 231]) (by simp [results, Tryd.results16, go_sem]) rfl ⟨rfl, pw_below_drewN HB.out _⟩
set_option maxHeartbeats 16000000 in
set_option maxRecDepth 100000 in
theorem rfind_46 {w : World} {A Ah Ax : Option Addr} {c ch cx : Nat} {t hunt x : List Int} {now  num name add : Int} {M : Array Value} (hr : Kd.C (Kd.int .u8) w A t.length t) (hc : t.length ≤ c) (ht : byte t) (hl : t.length ≤ 1048576) (hn1 : 1 ≤ now) (hn2 : now ≤ linesN t) (ha1 : -9223372036854775808 ≤ add) (ha2 : add ≤ 9223372036854775807) (hm1 : -9223372036854775808 ≤ num) (hm2 : num ≤ 9223372036854775807) :
    Calls Tryd.prog 16 #[.slice A t.length c, .int .i64 now, .agg M, .slice Ah hunt.length ch, .agg #[.int .u8 46, .int .i64 num, .int .u8 name, .slice Ax x.length cx, .int .i64 add, .bool true]] w fun e w' => e = .returned (.tuple #[.int .i64 ((tailF now (linesN t) add)).1, .int .i64 ((tailF now (linesN t) add)).2]) ∧ Below w.heap.size w w' := by
  have BX := Aside0.mk (show ((w.alloc (.cells M 37)).alloc (.cells #[.int .u8 46, .int .i64 num, .int .u8 name, .slice Ax x.length cx, .int .i64 add, .bool true] 25)).heap[w.heap.size + 1]? = some (.cells #[.int .u8 46, .int .i64 num, .int .u8 name, .slice Ax x.length cx, .int .i64 add, .bool true] 25) from by have h := blk_new (w.alloc (.cells M 37)) (.cells #[.int .u8 46, .int .i64 num, .int .u8 name, .slice Ax x.length cx, .int .i64 add, .bool true] 25); rw [World.size_alloc] at h; exact h)
  have HB := Aside0.mk (below_alloc (below_alloc (Below.refl w.heap.size w) (.cells M 37)) (.cells #[.int .u8 46, .int .i64 num, .int .u8 name, .slice Ax x.length cx, .int .i64 add, .bool true] 25))
  have HCT := Aside0.mk (fun (W : World) (h : Below w.heap.size w W) => X.quoinref05_Count.calls (t.length + 1) A c t (linesN t) W (Kd.C_below hr h) hc (rcount_eq hl))
  have hn0 : 1 ≤ linesN t := by have h := split_cnt t; have h2 : 0 ≤ X.cnt 10 t := cnt_nonneg 10 t; unfold linesN; omega
  have hn9 : linesN t ≤ 1048577 := by have h := split_len t; unfold linesN; omega
  generalize linesN t = n at HCT hn1 hn2 hn0 hn9 ⊢
  have f1 : (now < 1) = False := eq_false (by omega)
  have f2 : (n < now) = False := eq_false (by omega)
  obtain ⟨sm, sb, hs, hT⟩ := rsum_eq (l := now) (n := n) (add := add) (by omega) (by omega) ha1 ha2 hn0 (by omega)
  have HSM := Aside0.mk (fun (W : World) => X.quoinref23_sum.calls 1 (now) add n sm sb W hs)
  rw [hT]
  clear hs hT hn0 hn9 ha1 ha2 hm1 hm2 hn1 hn2
  cases sb with
  | true =>
    rw [if_pos rfl]
    go_enter Tryd.func16, Tryd.ntmps16
    go_wp2_with (first
      | (go_at_call 30; (with_reducible refine (HCT.out _ HB.out).mono ?_); rintro e w1 ⟨rfl, ⟨n1, rfl⟩⟩; have BK1 := Aside0.mk (blk_drewN BX.out n1); have H1 := Aside0.mk (pw_below_drewN HB.out n1); have a0 := (blk_cell BK1.out 0).trans rfl; have a1 := (blk_cell BK1.out 1).trans rfl; have a2 := (blk_cell BK1.out 2).trans rfl; have a3 := (blk_cell BK1.out 3).trans rfl; have a4 := (blk_cell BK1.out 4).trans rfl; have a5 := (blk_cell BK1.out 5).trans rfl)
      | (go_at_call 35; (with_reducible refine (HSM.out _).mono ?_); rintro e w9 ⟨rfl, ⟨n9, rfl⟩⟩))
    exact bodyPost_ret (v := .tuple #[.int .i64 sm, .int .i64 0]) (by simp [results, Tryd.results16, go_sem]) rfl ⟨rfl, pw_below_drewN HB.out _⟩
  | false =>
    rw [if_neg (by decide)]
    go_enter Tryd.func16, Tryd.ntmps16
    go_wp2_with (first
      | (go_at_call 30; (with_reducible refine (HCT.out _ HB.out).mono ?_); rintro e w1 ⟨rfl, ⟨n1, rfl⟩⟩; have BK1 := Aside0.mk (blk_drewN BX.out n1); have H1 := Aside0.mk (pw_below_drewN HB.out n1); have a0 := (blk_cell BK1.out 0).trans rfl; have a1 := (blk_cell BK1.out 1).trans rfl; have a2 := (blk_cell BK1.out 2).trans rfl; have a3 := (blk_cell BK1.out 3).trans rfl; have a4 := (blk_cell BK1.out 4).trans rfl; have a5 := (blk_cell BK1.out 5).trans rfl)
      | (go_at_call 35; (with_reducible refine (HSM.out _).mono ?_); rintro e w9 ⟨rfl, ⟨n9, rfl⟩⟩))
    exact bodyPost_ret (v := .tuple #[.int .i64 0, .int .i64 231]) (by simp [results, Tryd.results16, go_sem]) rfl ⟨rfl, pw_below_drewN HB.out _⟩
set_option maxHeartbeats 16000000 in
set_option maxRecDepth 100000 in
theorem rfind_0 {w : World} {A Ah Ax : Option Addr} {c ch cx : Nat} {t hunt x : List Int} {now  num name add : Int} {M : Array Value} (hr : Kd.C (Kd.int .u8) w A t.length t) (hc : t.length ≤ c) (ht : byte t) (hl : t.length ≤ 1048576) (hn1 : 1 ≤ now) (hn2 : now ≤ linesN t) (ha1 : -9223372036854775808 ≤ add) (ha2 : add ≤ 9223372036854775807) (hm1 : -9223372036854775808 ≤ num) (hm2 : num ≤ 9223372036854775807) :
    Calls Tryd.prog 16 #[.slice A t.length c, .int .i64 now, .agg M, .slice Ah hunt.length ch, .agg #[.int .u8 0, .int .i64 num, .int .u8 name, .slice Ax x.length cx, .int .i64 add, .bool true]] w fun e w' => e = .returned (.tuple #[.int .i64 ((tailF now (linesN t) add)).1, .int .i64 ((tailF now (linesN t) add)).2]) ∧ Below w.heap.size w w' := by
  have BX := Aside0.mk (show ((w.alloc (.cells M 37)).alloc (.cells #[.int .u8 0, .int .i64 num, .int .u8 name, .slice Ax x.length cx, .int .i64 add, .bool true] 25)).heap[w.heap.size + 1]? = some (.cells #[.int .u8 0, .int .i64 num, .int .u8 name, .slice Ax x.length cx, .int .i64 add, .bool true] 25) from by have h := blk_new (w.alloc (.cells M 37)) (.cells #[.int .u8 0, .int .i64 num, .int .u8 name, .slice Ax x.length cx, .int .i64 add, .bool true] 25); rw [World.size_alloc] at h; exact h)
  have HB := Aside0.mk (below_alloc (below_alloc (Below.refl w.heap.size w) (.cells M 37)) (.cells #[.int .u8 0, .int .i64 num, .int .u8 name, .slice Ax x.length cx, .int .i64 add, .bool true] 25))
  have HCT := Aside0.mk (fun (W : World) (h : Below w.heap.size w W) => X.quoinref05_Count.calls (t.length + 1) A c t (linesN t) W (Kd.C_below hr h) hc (rcount_eq hl))
  have hn0 : 1 ≤ linesN t := by have h := split_cnt t; have h2 : 0 ≤ X.cnt 10 t := cnt_nonneg 10 t; unfold linesN; omega
  have hn9 : linesN t ≤ 1048577 := by have h := split_len t; unfold linesN; omega
  generalize linesN t = n at HCT hn1 hn2 hn0 hn9 ⊢
  have f1 : (now < 1) = False := eq_false (by omega)
  have f2 : (n < now) = False := eq_false (by omega)
  obtain ⟨sm, sb, hs, hT⟩ := rsum_eq (l := now) (n := n) (add := add) (by omega) (by omega) ha1 ha2 hn0 (by omega)
  have HSM := Aside0.mk (fun (W : World) => X.quoinref23_sum.calls 1 (now) add n sm sb W hs)
  rw [hT]
  clear hs hT hn0 hn9 ha1 ha2 hm1 hm2 hn1 hn2
  cases sb with
  | true =>
    rw [if_pos rfl]
    go_enter Tryd.func16, Tryd.ntmps16
    go_wp2_with (first
      | (go_at_call 30; (with_reducible refine (HCT.out _ HB.out).mono ?_); rintro e w1 ⟨rfl, ⟨n1, rfl⟩⟩; have BK1 := Aside0.mk (blk_drewN BX.out n1); have H1 := Aside0.mk (pw_below_drewN HB.out n1); have a0 := (blk_cell BK1.out 0).trans rfl; have a1 := (blk_cell BK1.out 1).trans rfl; have a2 := (blk_cell BK1.out 2).trans rfl; have a3 := (blk_cell BK1.out 3).trans rfl; have a4 := (blk_cell BK1.out 4).trans rfl; have a5 := (blk_cell BK1.out 5).trans rfl)
      | (go_at_call 35; (with_reducible refine (HSM.out _).mono ?_); rintro e w9 ⟨rfl, ⟨n9, rfl⟩⟩))
    exact bodyPost_ret (v := .tuple #[.int .i64 sm, .int .i64 0]) (by simp [results, Tryd.results16, go_sem]) rfl ⟨rfl, pw_below_drewN HB.out _⟩
  | false =>
    rw [if_neg (by decide)]
    go_enter Tryd.func16, Tryd.ntmps16
    go_wp2_with (first
      | (go_at_call 30; (with_reducible refine (HCT.out _ HB.out).mono ?_); rintro e w1 ⟨rfl, ⟨n1, rfl⟩⟩; have BK1 := Aside0.mk (blk_drewN BX.out n1); have H1 := Aside0.mk (pw_below_drewN HB.out n1); have a0 := (blk_cell BK1.out 0).trans rfl; have a1 := (blk_cell BK1.out 1).trans rfl; have a2 := (blk_cell BK1.out 2).trans rfl; have a3 := (blk_cell BK1.out 3).trans rfl; have a4 := (blk_cell BK1.out 4).trans rfl; have a5 := (blk_cell BK1.out 5).trans rfl)
      | (go_at_call 35; (with_reducible refine (HSM.out _).mono ?_); rintro e w9 ⟨rfl, ⟨n9, rfl⟩⟩))
    exact bodyPost_ret (v := .tuple #[.int .i64 0, .int .i64 231]) (by simp [results, Tryd.results16, go_sem]) rfl ⟨rfl, pw_below_drewN HB.out _⟩
set_option maxHeartbeats 16000000 in
set_option maxRecDepth 100000 in
theorem rfind_110 {w : World} {A Ah Ax : Option Addr} {c ch cx : Nat} {t hunt x : List Int} {now  num name add : Int} {M : Array Value} (hr : Kd.C (Kd.int .u8) w A t.length t) (hc : t.length ≤ c) (ht : byte t) (hl : t.length ≤ 1048576) (hn1 : 1 ≤ now) (hn2 : now ≤ linesN t) (ha1 : -9223372036854775808 ≤ add) (ha2 : add ≤ 9223372036854775807) (hm1 : -9223372036854775808 ≤ num) (hm2 : num ≤ 9223372036854775807) :
    Calls Tryd.prog 16 #[.slice A t.length c, .int .i64 now, .agg M, .slice Ah hunt.length ch, .agg #[.int .u8 110, .int .i64 num, .int .u8 name, .slice Ax x.length cx, .int .i64 add, .bool true]] w fun e w' => e = .returned (.tuple #[.int .i64 ((tailF num (linesN t) add)).1, .int .i64 ((tailF num (linesN t) add)).2]) ∧ Below w.heap.size w w' := by
  have BX := Aside0.mk (show ((w.alloc (.cells M 37)).alloc (.cells #[.int .u8 110, .int .i64 num, .int .u8 name, .slice Ax x.length cx, .int .i64 add, .bool true] 25)).heap[w.heap.size + 1]? = some (.cells #[.int .u8 110, .int .i64 num, .int .u8 name, .slice Ax x.length cx, .int .i64 add, .bool true] 25) from by have h := blk_new (w.alloc (.cells M 37)) (.cells #[.int .u8 110, .int .i64 num, .int .u8 name, .slice Ax x.length cx, .int .i64 add, .bool true] 25); rw [World.size_alloc] at h; exact h)
  have HB := Aside0.mk (below_alloc (below_alloc (Below.refl w.heap.size w) (.cells M 37)) (.cells #[.int .u8 110, .int .i64 num, .int .u8 name, .slice Ax x.length cx, .int .i64 add, .bool true] 25))
  have HCT := Aside0.mk (fun (W : World) (h : Below w.heap.size w W) => X.quoinref05_Count.calls (t.length + 1) A c t (linesN t) W (Kd.C_below hr h) hc (rcount_eq hl))
  have hn0 : 1 ≤ linesN t := by have h := split_cnt t; have h2 : 0 ≤ X.cnt 10 t := cnt_nonneg 10 t; unfold linesN; omega
  have hn9 : linesN t ≤ 1048577 := by have h := split_len t; unfold linesN; omega
  generalize linesN t = n at HCT hn1 hn2 hn0 hn9 ⊢
  have f1 : (now < 1) = False := eq_false (by omega)
  have f2 : (n < now) = False := eq_false (by omega)
  obtain ⟨sm, sb, hs, hT⟩ := rsum_eq (l := num) (n := n) (add := add) (by omega) (by omega) ha1 ha2 hn0 (by omega)
  have HSM := Aside0.mk (fun (W : World) => X.quoinref23_sum.calls 1 (num) add n sm sb W hs)
  rw [hT]
  clear hs hT hn0 hn9 ha1 ha2 hm1 hm2 hn1 hn2
  cases sb with
  | true =>
    rw [if_pos rfl]
    go_enter Tryd.func16, Tryd.ntmps16
    go_wp2_with (first
      | (go_at_call 30; (with_reducible refine (HCT.out _ HB.out).mono ?_); rintro e w1 ⟨rfl, ⟨n1, rfl⟩⟩; have BK1 := Aside0.mk (blk_drewN BX.out n1); have H1 := Aside0.mk (pw_below_drewN HB.out n1); have a0 := (blk_cell BK1.out 0).trans rfl; have a1 := (blk_cell BK1.out 1).trans rfl; have a2 := (blk_cell BK1.out 2).trans rfl; have a3 := (blk_cell BK1.out 3).trans rfl; have a4 := (blk_cell BK1.out 4).trans rfl; have a5 := (blk_cell BK1.out 5).trans rfl)
      | (go_at_call 35; (with_reducible refine (HSM.out _).mono ?_); rintro e w9 ⟨rfl, ⟨n9, rfl⟩⟩))
    exact bodyPost_ret (v := .tuple #[.int .i64 sm, .int .i64 0]) (by simp [results, Tryd.results16, go_sem]) rfl ⟨rfl, pw_below_drewN HB.out _⟩
  | false =>
    rw [if_neg (by decide)]
    go_enter Tryd.func16, Tryd.ntmps16
    go_wp2_with (first
      | (go_at_call 30; (with_reducible refine (HCT.out _ HB.out).mono ?_); rintro e w1 ⟨rfl, ⟨n1, rfl⟩⟩; have BK1 := Aside0.mk (blk_drewN BX.out n1); have H1 := Aside0.mk (pw_below_drewN HB.out n1); have a0 := (blk_cell BK1.out 0).trans rfl; have a1 := (blk_cell BK1.out 1).trans rfl; have a2 := (blk_cell BK1.out 2).trans rfl; have a3 := (blk_cell BK1.out 3).trans rfl; have a4 := (blk_cell BK1.out 4).trans rfl; have a5 := (blk_cell BK1.out 5).trans rfl)
      | (go_at_call 35; (with_reducible refine (HSM.out _).mono ?_); rintro e w9 ⟨rfl, ⟨n9, rfl⟩⟩))
    exact bodyPost_ret (v := .tuple #[.int .i64 0, .int .i64 231]) (by simp [results, Tryd.results16, go_sem]) rfl ⟨rfl, pw_below_drewN HB.out _⟩
set_option maxHeartbeats 16000000 in
set_option maxRecDepth 100000 in
theorem rfind_39 {w : World} {A Ah Ax : Option Addr} {c ch cx : Nat} {t hunt x : List Int} {now  num name add : Int} {M : Array Value} (hr : Kd.C (Kd.int .u8) w A t.length t) (hc : t.length ≤ c) (ht : byte t) (hl : t.length ≤ 1048576) (hn1 : 1 ≤ now) (hn2 : now ≤ linesN t) {l : List Int} (hl7 : l.length = 27) (hM : M = marks l) (hnm : 0 ≤ name ∧ name ≤ 255) (ha1 : -9223372036854775808 ≤ add) (ha2 : add ≤ 9223372036854775807) (hm1 : -9223372036854775808 ≤ num) (hm2 : num ≤ 9223372036854775807) :
    Calls Tryd.prog 16 #[.slice A t.length c, .int .i64 now, .agg M, .slice Ah hunt.length ch, .agg #[.int .u8 39, .int .i64 num, .int .u8 name, .slice Ax x.length cx, .int .i64 add, .bool true]] w fun e w' => e = .returned (.tuple #[.int .i64 ((if (markV t l name).2 = 0 then tailF (markV t l name).1 (linesN t) add else (0, (markV t l name).2))).1, .int .i64 ((if (markV t l name).2 = 0 then tailF (markV t l name).1 (linesN t) add else (0, (markV t l name).2))).2]) ∧ Below w.heap.size w w' := by
  have BX := Aside0.mk (show ((w.alloc (.cells M 37)).alloc (.cells #[.int .u8 39, .int .i64 num, .int .u8 name, .slice Ax x.length cx, .int .i64 add, .bool true] 25)).heap[w.heap.size + 1]? = some (.cells #[.int .u8 39, .int .i64 num, .int .u8 name, .slice Ax x.length cx, .int .i64 add, .bool true] 25) from by have h := blk_new (w.alloc (.cells M 37)) (.cells #[.int .u8 39, .int .i64 num, .int .u8 name, .slice Ax x.length cx, .int .i64 add, .bool true] 25); rw [World.size_alloc] at h; exact h)
  have HB := Aside0.mk (below_alloc (below_alloc (Below.refl w.heap.size w) (.cells M 37)) (.cells #[.int .u8 39, .int .i64 num, .int .u8 name, .slice Ax x.length cx, .int .i64 add, .bool true] 25))
  have HCT := Aside0.mk (fun (W : World) (h : Below w.heap.size w W) => X.quoinref05_Count.calls (t.length + 1) A c t (linesN t) W (Kd.C_below hr h) hc (rcount_eq hl))
  have hn0 : 1 ≤ linesN t := by have h := split_cnt t; have h2 : 0 ≤ X.cnt 10 t := cnt_nonneg 10 t; unfold linesN; omega
  have hn9 : linesN t ≤ 1048577 := by have h := split_len t; unfold linesN; omega
  have HGT := Aside0.mk (fun (W : World) => show Calls Tryd.prog 31 #[.agg M, .int .u8 name] W (fun e w' => e = .returned (.tuple #[.int .i64 (getV l name).1, .int .i64 (getV l name).2]) ∧ Below W.heap.size W w') from by rw [hM]; exact rget_calls hl7 hnm.1 hnm.2)
  obtain ⟨ko, hko⟩ := rof_eq hl (getV l name).1
  have HOF := Aside0.mk (fun (W : World) (h : Below w.heap.size w W) => X.quoinref05_Of.calls ko A c t (getV l name).1 (ofV t (getV l name).1).1 (ofV t (getV l name).1).2 W (Kd.C_below hr h) hc hko)
  clear hko
  have HSZ := Aside0.mk (show (Tryd.prog.info? 37).map (·.size) = some M.size from by rw [hM]; exact szmk' hl7)
  have MX := Aside0.mk (show ((w.alloc (.cells M 37)).alloc (.cells #[.int .u8 39, .int .i64 num, .int .u8 name, .slice Ax x.length cx, .int .i64 add, .bool true] 25)).heap[w.heap.size]? = some (.cells M 37 (0, 0)) from blk_alloc (blk_new w _) _)
  have hrg := of_range t (getV l name).1
  unfold markV
  generalize ofV t (getV l name).1 = r at HOF hrg ⊢
  generalize getV l name = gv at HGT HOF ⊢
  obtain ⟨rl, re⟩ := r
  obtain ⟨ga, ge⟩ := gv
  simp only at HGT HOF hrg ⊢
  clear hM hl7 hnm
  generalize linesN t = n at HCT hn1 hn2 hn0 hn9 hrg ⊢
  have f1 : (now < 1) = False := eq_false (by omega)
  have f2 : (n < now) = False := eq_false (by omega)
  by_cases hge : ge = 0
  · by_cases hre : re = 0
    · rw [show (if ge ≠ 0 then ((0 : Int), ge) else if re ≠ 0 then ((0 : Int), (231 : Int)) else (rl + 1, (0 : Int))) = (rl + 1, 0) from by rw [if_neg (fun h => h hge), if_neg (fun h => h hre)], if_pos rfl]
      subst hge
      subst hre
      have hr2 := hrg rfl
      simp only
      have k9 : -9223372036854775808 ≤ rl + 1 ∧ rl + 1 ≤ 9223372036854775807 := by omega
      obtain ⟨sm, sb, hs, hT⟩ := rsum_eq (l := rl + 1) (n := n) (add := add) (by omega) (by omega) ha1 ha2 hn0 (by omega)
      have HSM := Aside0.mk (fun (W : World) => X.quoinref23_sum.calls 1 (rl + 1) add n sm sb W hs)
      rw [hT]
      clear hs hT hn0 hn9 ha1 ha2 hm1 hm2 hn1 hn2 hrg hr2
      cases sb with
      | true =>
        rw [if_pos rfl]
        go_enter Tryd.func16, Tryd.ntmps16
        go_wp2_with (first
          | (go_at_call 30; (with_reducible refine (HCT.out _ HB.out).mono ?_); rintro e w1 ⟨rfl, ⟨n1, rfl⟩⟩; have BK1 := Aside0.mk (blk_drewN BX.out n1); have MK1 := Aside0.mk (blk_drewN MX.out n1); have H1 := Aside0.mk (pw_below_drewN HB.out n1); have a0 := (blk_cell BK1.out 0).trans rfl; have a1 := (blk_cell BK1.out 1).trans rfl; have a2 := (blk_cell BK1.out 2).trans rfl; have a3 := (blk_cell BK1.out 3).trans rfl; have a4 := (blk_cell BK1.out 4).trans rfl; have a5 := (blk_cell BK1.out 5).trans rfl)
          | ((with_reducible refine gate_ (.load 37 (.tmp 7)) rfl ?_); refine wpList_load_row rfl 37 (.tmp 7) rfl w.heap.size rfl _ _ _ _ MK1.out Tryd.underlying37 rfl HSZ.out ?_)
          | (go_at_call 31; (with_reducible refine (HGT.out _).mono ?_); rintro e w3 ⟨rfl, hy⟩; have H3 := Aside0.mk (below_step H1.out hy); have BK3 := Aside0.mk (blk_below BK1.out hy); have d4 := (blk_cell BK3.out 4).trans rfl; clear hy)
          | (go_at_call 32; (with_reducible refine (HOF.out _ H3.out).mono ?_); rintro e w4 ⟨rfl, ⟨n4, rfl⟩⟩; have H4 := Aside0.mk (pw_below_drewN H3.out n4); have e4 := (blk_cell (blk_drewN BK3.out n4) 4).trans rfl)
          | (go_at_call 35; (with_reducible refine (HSM.out _).mono ?_); rintro e w9 ⟨rfl, ⟨n9, rfl⟩⟩))
        exact bodyPost_ret (v := .tuple #[.int .i64 sm, .int .i64 0]) (by simp [results, Tryd.results16, go_sem]) rfl ⟨rfl, pw_below_drewN H3.out _⟩
      | false =>
        rw [if_neg (by decide)]
        go_enter Tryd.func16, Tryd.ntmps16
        go_wp2_with (first
          | (go_at_call 30; (with_reducible refine (HCT.out _ HB.out).mono ?_); rintro e w1 ⟨rfl, ⟨n1, rfl⟩⟩; have BK1 := Aside0.mk (blk_drewN BX.out n1); have MK1 := Aside0.mk (blk_drewN MX.out n1); have H1 := Aside0.mk (pw_below_drewN HB.out n1); have a0 := (blk_cell BK1.out 0).trans rfl; have a1 := (blk_cell BK1.out 1).trans rfl; have a2 := (blk_cell BK1.out 2).trans rfl; have a3 := (blk_cell BK1.out 3).trans rfl; have a4 := (blk_cell BK1.out 4).trans rfl; have a5 := (blk_cell BK1.out 5).trans rfl)
          | ((with_reducible refine gate_ (.load 37 (.tmp 7)) rfl ?_); refine wpList_load_row rfl 37 (.tmp 7) rfl w.heap.size rfl _ _ _ _ MK1.out Tryd.underlying37 rfl HSZ.out ?_)
          | (go_at_call 31; (with_reducible refine (HGT.out _).mono ?_); rintro e w3 ⟨rfl, hy⟩; have H3 := Aside0.mk (below_step H1.out hy); have BK3 := Aside0.mk (blk_below BK1.out hy); have d4 := (blk_cell BK3.out 4).trans rfl; clear hy)
          | (go_at_call 32; (with_reducible refine (HOF.out _ H3.out).mono ?_); rintro e w4 ⟨rfl, ⟨n4, rfl⟩⟩; have H4 := Aside0.mk (pw_below_drewN H3.out n4); have e4 := (blk_cell (blk_drewN BK3.out n4) 4).trans rfl)
          | (go_at_call 35; (with_reducible refine (HSM.out _).mono ?_); rintro e w9 ⟨rfl, ⟨n9, rfl⟩⟩))
        exact bodyPost_ret (v := .tuple #[.int .i64 0, .int .i64 231]) (by simp [results, Tryd.results16, go_sem]) rfl ⟨rfl, pw_below_drewN H3.out _⟩
    · rw [show (if ge ≠ 0 then ((0 : Int), ge) else if re ≠ 0 then ((0 : Int), (231 : Int)) else (rl + 1, (0 : Int))) = (0, 231) from by rw [if_neg (fun h => h hge), if_pos hre], if_neg (show ¬ ((231 : Int) = 0) by decide)]
      subst hge
      have f4 : (re != 0) = true := bne_iff_ne.2 hre
      clear hre hrg
      go_enter Tryd.func16, Tryd.ntmps16
      go_wp2_with (first
        | (go_at_call 30; (with_reducible refine (HCT.out _ HB.out).mono ?_); rintro e w1 ⟨rfl, ⟨n1, rfl⟩⟩; have BK1 := Aside0.mk (blk_drewN BX.out n1); have MK1 := Aside0.mk (blk_drewN MX.out n1); have H1 := Aside0.mk (pw_below_drewN HB.out n1); have a0 := (blk_cell BK1.out 0).trans rfl; have a1 := (blk_cell BK1.out 1).trans rfl; have a2 := (blk_cell BK1.out 2).trans rfl; have a3 := (blk_cell BK1.out 3).trans rfl; have a4 := (blk_cell BK1.out 4).trans rfl; have a5 := (blk_cell BK1.out 5).trans rfl)
        | ((with_reducible refine gate_ (.load 37 (.tmp 7)) rfl ?_); refine wpList_load_row rfl 37 (.tmp 7) rfl w.heap.size rfl _ _ _ _ MK1.out Tryd.underlying37 rfl HSZ.out ?_)
        | (go_at_call 31; (with_reducible refine (HGT.out _).mono ?_); rintro e w3 ⟨rfl, hy⟩; have H3 := Aside0.mk (below_step H1.out hy); have BK3 := Aside0.mk (blk_below BK1.out hy); have d4 := (blk_cell BK3.out 4).trans rfl; clear hy)
        | (go_at_call 32; (with_reducible refine (HOF.out _ H3.out).mono ?_); rintro e w4 ⟨rfl, ⟨n4, rfl⟩⟩; have H4 := Aside0.mk (pw_below_drewN H3.out n4); have e4 := (blk_cell (blk_drewN BK3.out n4) 4).trans rfl))
      exact bodyPost_ret (v := .tuple #[.int .i64 0, .int .i64 231]) (by simp [results, Tryd.results16, go_sem]) rfl ⟨rfl, H4.out⟩
  · rw [show (if ge ≠ 0 then ((0 : Int), ge) else if re ≠ 0 then ((0 : Int), (231 : Int)) else (rl + 1, (0 : Int))) = (0, ge) from by rw [if_pos hge], if_neg hge]
    have f3 : (ge != 0) = true := bne_iff_ne.2 hge
    clear hge hrg
    go_enter Tryd.func16, Tryd.ntmps16
    go_wp2_with (first
      | (go_at_call 30; (with_reducible refine (HCT.out _ HB.out).mono ?_); rintro e w1 ⟨rfl, ⟨n1, rfl⟩⟩; have BK1 := Aside0.mk (blk_drewN BX.out n1); have MK1 := Aside0.mk (blk_drewN MX.out n1); have H1 := Aside0.mk (pw_below_drewN HB.out n1); have a0 := (blk_cell BK1.out 0).trans rfl; have a1 := (blk_cell BK1.out 1).trans rfl; have a2 := (blk_cell BK1.out 2).trans rfl; have a3 := (blk_cell BK1.out 3).trans rfl; have a4 := (blk_cell BK1.out 4).trans rfl; have a5 := (blk_cell BK1.out 5).trans rfl)
      | ((with_reducible refine gate_ (.load 37 (.tmp 7)) rfl ?_); refine wpList_load_row rfl 37 (.tmp 7) rfl w.heap.size rfl _ _ _ _ MK1.out Tryd.underlying37 rfl HSZ.out ?_)
      | (go_at_call 31; (with_reducible refine (HGT.out _).mono ?_); rintro e w3 ⟨rfl, hy⟩; have H3 := Aside0.mk (below_step H1.out hy); have BK3 := Aside0.mk (blk_below BK1.out hy); have d4 := (blk_cell BK3.out 4).trans rfl; clear hy)
      | (go_at_call 32; (with_reducible refine (HOF.out _ H3.out).mono ?_); rintro e w4 ⟨rfl, ⟨n4, rfl⟩⟩; have H4 := Aside0.mk (pw_below_drewN H3.out n4); have e4 := (blk_cell (blk_drewN BK3.out n4) 4).trans rfl))
    exact bodyPost_ret (v := .tuple #[.int .i64 0, .int .i64 ge]) (by simp [results, Tryd.results16, go_sem]) rfl ⟨rfl, H3.out⟩
set_option maxHeartbeats 16000000 in
set_option maxRecDepth 100000 in
theorem rfind_47 {w : World} {A Ah Ax : Option Addr} {c ch cx : Nat} {t hunt x : List Int} {now  num name add : Int} {M : Array Value} (hr : Kd.C (Kd.int .u8) w A t.length t) (hc : t.length ≤ c) (ht : byte t) (hl : t.length ≤ 1048576) (hn1 : 1 ≤ now) (hn2 : now ≤ linesN t) (hh : Kd.C (Kd.int .u8) w Ah hunt.length hunt) (bh : byte hunt) (hx : Kd.C (Kd.int .u8) w Ax x.length x) (bx : byte x) (ha1 : -9223372036854775808 ≤ add) (ha2 : add ≤ 9223372036854775807) (hm1 : -9223372036854775808 ≤ num) (hm2 : num ≤ 9223372036854775807) :
    Calls Tryd.prog 16 #[.slice A t.length c, .int .i64 now, .agg M, .slice Ah hunt.length ch, .agg #[.int .u8 47, .int .i64 num, .int .u8 name, .slice Ax x.length cx, .int .i64 add, .bool true]] w fun e w' => e = .returned (.tuple #[.int .i64 ((if (searchA t now hunt 47 x).2 = 0 then tailF (searchA t now hunt 47 x).1 (linesN t) add else (0, (searchA t now hunt 47 x).2))).1, .int .i64 ((if (searchA t now hunt 47 x).2 = 0 then tailF (searchA t now hunt 47 x).1 (linesN t) add else (0, (searchA t now hunt 47 x).2))).2]) ∧ Below w.heap.size w w' := by
  have BX := Aside0.mk (show ((w.alloc (.cells M 37)).alloc (.cells #[.int .u8 47, .int .i64 num, .int .u8 name, .slice Ax x.length cx, .int .i64 add, .bool true] 25)).heap[w.heap.size + 1]? = some (.cells #[.int .u8 47, .int .i64 num, .int .u8 name, .slice Ax x.length cx, .int .i64 add, .bool true] 25) from by have h := blk_new (w.alloc (.cells M 37)) (.cells #[.int .u8 47, .int .i64 num, .int .u8 name, .slice Ax x.length cx, .int .i64 add, .bool true] 25); rw [World.size_alloc] at h; exact h)
  have HB := Aside0.mk (below_alloc (below_alloc (Below.refl w.heap.size w) (.cells M 37)) (.cells #[.int .u8 47, .int .i64 num, .int .u8 name, .slice Ax x.length cx, .int .i64 add, .bool true] 25))
  have HCT := Aside0.mk (fun (W : World) (h : Below w.heap.size w W) => X.quoinref05_Count.calls (t.length + 1) A c t (linesN t) W (Kd.C_below hr h) hc (rcount_eq hl))
  have hn0 : 1 ≤ linesN t := by have h := split_cnt t; have h2 : 0 ≤ X.cnt 10 t := cnt_nonneg 10 t; unfold linesN; omega
  have hn9 : linesN t ≤ 1048577 := by have h := split_len t; unfold linesN; omega
  have hkz := fun pl => rseek_kinds (X.splitR t) pl now 1 (by unfold linesN at hn0; omega) (X.splitR t).length 1
  have HSK := fun (P : List Int) (AP : Option Addr) (cP : Nat) (hP : Kd.C (Kd.int .u8) w AP P.length P) (bP : byte P) (pl : List PTh) (hpl : (compileV P).1 = some pl) => Aside0.mk (fun (W : World) (h : Below w.heap.size w W) => rseek_on (w := W) (cp := cP) (Kd.C_below hr h) hc ht hl (Kd.C_below hP h) bP hpl hn1 hn2)
  have HCP := fun (P : List Int) (AP : Option Addr) (cP : Nat) (hP : Kd.C (Kd.int .u8) w AP P.length P) (bP : byte P) => Aside0.mk (fun (W : World) (h : Below w.heap.size w W) => rcompile_calls (w := W) (c := cP) (Kd.C_below hP h) (byte_rd bP))
  unfold searchA
  have f1 : (now < 1) = False := eq_false (by omega)
  have f2 : (linesN t < now) = False := eq_false (by omega)
  by_cases h0 : x.length = 0
  · rw [show textV x hunt = hunt from if_pos h0]
    have qx : ((x.length : Int) == 0) = true := by rw [h0]; rfl
    have qx2 : (x.length : Int) = 0 := by omega
    have H0 := Aside0.mk (And.intro h0 qx2)
    clear h0 qx2
    by_cases hz : hunt.length = 0
    · rw [if_pos hz]
      have q0 : ((hunt.length : Int) == 0) = true := by rw [hz]; rfl
      rw [if_neg (show ¬ (((0 : Int), (120 : Int)).2 = 0) by decide)]
      clear hz HSK HCP hkz hh hx bh bx
      go_enter Tryd.func16, Tryd.ntmps16
      go_wp2_with (first
        | (go_at_call 30; (with_reducible refine (HCT.out _ HB.out).mono ?_); rintro e w1 ⟨rfl, ⟨n1, rfl⟩⟩; have BK1 := Aside0.mk (blk_drewN BX.out n1); have H1 := Aside0.mk (pw_below_drewN HB.out n1); have a0 := (blk_cell BK1.out 0).trans rfl; have a1 := (blk_cell BK1.out 1).trans rfl; have a2 := (blk_cell BK1.out 2).trans rfl; have a3 := (blk_cell BK1.out 3).trans rfl; have a4 := (blk_cell BK1.out 4).trans rfl; have a5 := (blk_cell BK1.out 5).trans rfl))
      exact bodyPost_ret (v := .tuple #[.int .i64 0, .int .i64 120]) (by simp [results, Tryd.results16, go_sem]) rfl ⟨rfl, H1.out⟩
    · rw [if_neg hz]
      have q0 : ((hunt.length : Int) == 0) = false := by rw [beq_eq_false_iff_ne]; omega
      clear hz f2
      have HC := HCP hunt Ah ch hh bh
      have HK := HSK hunt Ah ch hh bh
      have hce := compile_err hunt
      generalize compileV hunt = cv at HC HK hce ⊢
      obtain ⟨co, ci, ce⟩ := cv
      simp only at HC HK hce ⊢
      clear HSK HCP hh hx bh bx
      cases co with
      | none =>
        have hce2 : ce ≠ 0 := by
          rcases hce with h | ⟨_, h, _⟩
          · exact h.2
          · cases h
        have f3 : (ce != 0) = true := bne_iff_ne.2 hce2
        simp only
        rw [if_neg hce2]
        clear hce hce2 HK hkz
        go_enter Tryd.func16, Tryd.ntmps16
        go_wp2_with (first
          | (go_at_call 30; (with_reducible refine (HCT.out _ HB.out).mono ?_); rintro e w1 ⟨rfl, ⟨n1, rfl⟩⟩; have BK1 := Aside0.mk (blk_drewN BX.out n1); have H1 := Aside0.mk (pw_below_drewN HB.out n1); have a0 := (blk_cell BK1.out 0).trans rfl; have a1 := (blk_cell BK1.out 1).trans rfl; have a2 := (blk_cell BK1.out 2).trans rfl; have a3 := (blk_cell BK1.out 3).trans rfl; have a4 := (blk_cell BK1.out 4).trans rfl; have a5 := (blk_cell BK1.out 5).trans rfl)
          | (go_at_call 33; (with_reducible refine (HC.out _ H1.out).mono ?_); rintro e w3 ⟨rfl, hy⟩; have H3 := Aside0.mk (below_step H1.out hy); have BK3 := Aside0.mk (blk_below BK1.out hy); have d0 := (blk_cell BK3.out 0).trans rfl; have d4 := (blk_cell BK3.out 4).trans rfl; clear hy))
        exact bodyPost_ret (v := .tuple #[.int .i64 0, .int .i64 ce]) (by simp [results, Tryd.results16, go_sem]) rfl ⟨rfl, H3.out⟩
      | some pl =>
        obtain rfl : ce = 0 := by
          rcases hce with h | ⟨_, _, h⟩
          · cases h.1
          · exact h
        have HK2 := HK pl rfl
        have hk2 := hkz pl
        clear hce HK hkz
        simp only
        rw [show signV 47 = 1 from rfl]
        unfold linesN at HCT hn0 hn2 hn9 ⊢
        generalize hsk : seekV (X.splitR t) pl now 1 (X.splitR t).length 1 = sv at HK2 hk2 ⊢
        obtain ⟨sl, se⟩ := sv
        generalize (((X.splitR t).length : Nat) : Int) = n at HCT hn0 hn1 hn2 hn9 hk2 ⊢
        have f1 : (now < 1) = False := eq_false (by omega)
        have f2 : (n < now) = False := eq_false (by omega)
        clear hsk
        simp only at HK2 hk2 ⊢
        rcases hk2 with z0 | ⟨z1, z2, z3⟩
        rotate_left
        · subst z1
          rw [if_pos rfl]
          have f5 : (sl == 0) = false := beq_eq_false_iff_ne.2 (by omega)
          obtain ⟨sm, sb, hs, hT⟩ := rsum_eq (l := sl) (n := n) (add := add) (by omega) (by omega) ha1 ha2 hn0 (by omega)
          have HSM := Aside0.mk (fun (W : World) => X.quoinref23_sum.calls 1 (sl) add n sm sb W hs)
          rw [hT]
          clear hs hT hn0 hn9 ha1 ha2 hm1 hm2 hn1 hn2 z2 z3
          cases sb with
          | true =>
            rw [if_pos rfl]
            go_enter Tryd.func16, Tryd.ntmps16
            go_wp2_with (first
              | (go_at_call 30; (with_reducible refine (HCT.out _ HB.out).mono ?_); rintro e w1 ⟨rfl, ⟨n1, rfl⟩⟩; have BK1 := Aside0.mk (blk_drewN BX.out n1); have H1 := Aside0.mk (pw_below_drewN HB.out n1); have a0 := (blk_cell BK1.out 0).trans rfl; have a1 := (blk_cell BK1.out 1).trans rfl; have a2 := (blk_cell BK1.out 2).trans rfl; have a3 := (blk_cell BK1.out 3).trans rfl; have a4 := (blk_cell BK1.out 4).trans rfl; have a5 := (blk_cell BK1.out 5).trans rfl)
              | (go_at_call 33; (with_reducible refine (HC.out _ H1.out).mono ?_); rintro e w3 ⟨rfl, hy⟩; have H3 := Aside0.mk (below_step H1.out hy); have BK3 := Aside0.mk (blk_below BK1.out hy); have d0 := (blk_cell BK3.out 0).trans rfl; have d4 := (blk_cell BK3.out 4).trans rfl; clear hy)
              | (go_at_call 34; (with_reducible refine (HK2.out _ H3.out).mono ?_); rintro e w4 ⟨rfl, hy⟩; have H4 := Aside0.mk (below_step H3.out hy); have e4 := (blk_cell (blk_below BK3.out hy) 4).trans rfl; clear hy)
              | (go_at_call 35; (with_reducible refine (HSM.out _).mono ?_); rintro e w9 ⟨rfl, ⟨n9, rfl⟩⟩))
            exact bodyPost_ret (v := .tuple #[.int .i64 sm, .int .i64 0]) (by simp [results, Tryd.results16, go_sem]) rfl ⟨rfl, pw_below_drewN H4.out _⟩
          | false =>
            rw [if_neg (by decide)]
            go_enter Tryd.func16, Tryd.ntmps16
            go_wp2_with (first
              | (go_at_call 30; (with_reducible refine (HCT.out _ HB.out).mono ?_); rintro e w1 ⟨rfl, ⟨n1, rfl⟩⟩; have BK1 := Aside0.mk (blk_drewN BX.out n1); have H1 := Aside0.mk (pw_below_drewN HB.out n1); have a0 := (blk_cell BK1.out 0).trans rfl; have a1 := (blk_cell BK1.out 1).trans rfl; have a2 := (blk_cell BK1.out 2).trans rfl; have a3 := (blk_cell BK1.out 3).trans rfl; have a4 := (blk_cell BK1.out 4).trans rfl; have a5 := (blk_cell BK1.out 5).trans rfl)
              | (go_at_call 33; (with_reducible refine (HC.out _ H1.out).mono ?_); rintro e w3 ⟨rfl, hy⟩; have H3 := Aside0.mk (below_step H1.out hy); have BK3 := Aside0.mk (blk_below BK1.out hy); have d0 := (blk_cell BK3.out 0).trans rfl; have d4 := (blk_cell BK3.out 4).trans rfl; clear hy)
              | (go_at_call 34; (with_reducible refine (HK2.out _ H3.out).mono ?_); rintro e w4 ⟨rfl, hy⟩; have H4 := Aside0.mk (below_step H3.out hy); have e4 := (blk_cell (blk_below BK3.out hy) 4).trans rfl; clear hy)
              | (go_at_call 35; (with_reducible refine (HSM.out _).mono ?_); rintro e w9 ⟨rfl, ⟨n9, rfl⟩⟩))
            exact bodyPost_ret (v := .tuple #[.int .i64 0, .int .i64 231]) (by simp [results, Tryd.results16, go_sem]) rfl ⟨rfl, pw_below_drewN H4.out _⟩
        · obtain ⟨z1, z2⟩ := Prod.mk.inj z0
          clear z0
          subst z1
          subst z2
          rw [if_neg (by decide)]
          go_enter Tryd.func16, Tryd.ntmps16
          go_wp2_with (first
            | (go_at_call 30; (with_reducible refine (HCT.out _ HB.out).mono ?_); rintro e w1 ⟨rfl, ⟨n1, rfl⟩⟩; have BK1 := Aside0.mk (blk_drewN BX.out n1); have H1 := Aside0.mk (pw_below_drewN HB.out n1); have a0 := (blk_cell BK1.out 0).trans rfl; have a1 := (blk_cell BK1.out 1).trans rfl; have a2 := (blk_cell BK1.out 2).trans rfl; have a3 := (blk_cell BK1.out 3).trans rfl; have a4 := (blk_cell BK1.out 4).trans rfl; have a5 := (blk_cell BK1.out 5).trans rfl)
            | (go_at_call 33; (with_reducible refine (HC.out _ H1.out).mono ?_); rintro e w3 ⟨rfl, hy⟩; have H3 := Aside0.mk (below_step H1.out hy); have BK3 := Aside0.mk (blk_below BK1.out hy); have d0 := (blk_cell BK3.out 0).trans rfl; have d4 := (blk_cell BK3.out 4).trans rfl; clear hy)
            | (go_at_call 34; (with_reducible refine (HK2.out _ H3.out).mono ?_); rintro e w4 ⟨rfl, hy⟩; have H4 := Aside0.mk (below_step H3.out hy); have e4 := (blk_cell (blk_below BK3.out hy) 4).trans rfl; clear hy))
          exact bodyPost_ret (v := .tuple #[.int .i64 0, .int .i64 120]) (by simp [results, Tryd.results16, go_sem]) rfl ⟨rfl, H4.out⟩
  · rw [show textV x hunt = x from if_neg h0, if_neg h0]
    have qx : ((x.length : Int) == 0) = false := by rw [beq_eq_false_iff_ne]; omega
    clear h0 f2
    have HC := HCP x Ax cx hx bx
    have HK := HSK x Ax cx hx bx
    have hce := compile_err x
    generalize compileV x = cv at HC HK hce ⊢
    obtain ⟨co, ci, ce⟩ := cv
    simp only at HC HK hce ⊢
    clear HSK HCP hh hx bh bx
    cases co with
    | none =>
      have hce2 : ce ≠ 0 := by
        rcases hce with h | ⟨_, h, _⟩
        · exact h.2
        · cases h
      have f3 : (ce != 0) = true := bne_iff_ne.2 hce2
      simp only
      rw [if_neg hce2]
      clear hce hce2 HK hkz
      go_enter Tryd.func16, Tryd.ntmps16
      go_wp2_with (first
        | (go_at_call 30; (with_reducible refine (HCT.out _ HB.out).mono ?_); rintro e w1 ⟨rfl, ⟨n1, rfl⟩⟩; have BK1 := Aside0.mk (blk_drewN BX.out n1); have H1 := Aside0.mk (pw_below_drewN HB.out n1); have a0 := (blk_cell BK1.out 0).trans rfl; have a1 := (blk_cell BK1.out 1).trans rfl; have a2 := (blk_cell BK1.out 2).trans rfl; have a3 := (blk_cell BK1.out 3).trans rfl; have a4 := (blk_cell BK1.out 4).trans rfl; have a5 := (blk_cell BK1.out 5).trans rfl)
        | (go_at_call 33; (with_reducible refine (HC.out _ H1.out).mono ?_); rintro e w3 ⟨rfl, hy⟩; have H3 := Aside0.mk (below_step H1.out hy); have BK3 := Aside0.mk (blk_below BK1.out hy); have d0 := (blk_cell BK3.out 0).trans rfl; have d4 := (blk_cell BK3.out 4).trans rfl; clear hy))
      exact bodyPost_ret (v := .tuple #[.int .i64 0, .int .i64 ce]) (by simp [results, Tryd.results16, go_sem]) rfl ⟨rfl, H3.out⟩
    | some pl =>
      obtain rfl : ce = 0 := by
        rcases hce with h | ⟨_, _, h⟩
        · cases h.1
        · exact h
      have HK2 := HK pl rfl
      have hk2 := hkz pl
      clear hce HK hkz
      simp only
      rw [show signV 47 = 1 from rfl]
      unfold linesN at HCT hn0 hn2 hn9 ⊢
      generalize hsk : seekV (X.splitR t) pl now 1 (X.splitR t).length 1 = sv at HK2 hk2 ⊢
      obtain ⟨sl, se⟩ := sv
      generalize (((X.splitR t).length : Nat) : Int) = n at HCT hn0 hn1 hn2 hn9 hk2 ⊢
      have f1 : (now < 1) = False := eq_false (by omega)
      have f2 : (n < now) = False := eq_false (by omega)
      clear hsk
      simp only at HK2 hk2 ⊢
      rcases hk2 with z0 | ⟨z1, z2, z3⟩
      rotate_left
      · subst z1
        rw [if_pos rfl]
        have f5 : (sl == 0) = false := beq_eq_false_iff_ne.2 (by omega)
        obtain ⟨sm, sb, hs, hT⟩ := rsum_eq (l := sl) (n := n) (add := add) (by omega) (by omega) ha1 ha2 hn0 (by omega)
        have HSM := Aside0.mk (fun (W : World) => X.quoinref23_sum.calls 1 (sl) add n sm sb W hs)
        rw [hT]
        clear hs hT hn0 hn9 ha1 ha2 hm1 hm2 hn1 hn2 z2 z3
        cases sb with
        | true =>
          rw [if_pos rfl]
          go_enter Tryd.func16, Tryd.ntmps16
          go_wp2_with (first
            | (go_at_call 30; (with_reducible refine (HCT.out _ HB.out).mono ?_); rintro e w1 ⟨rfl, ⟨n1, rfl⟩⟩; have BK1 := Aside0.mk (blk_drewN BX.out n1); have H1 := Aside0.mk (pw_below_drewN HB.out n1); have a0 := (blk_cell BK1.out 0).trans rfl; have a1 := (blk_cell BK1.out 1).trans rfl; have a2 := (blk_cell BK1.out 2).trans rfl; have a3 := (blk_cell BK1.out 3).trans rfl; have a4 := (blk_cell BK1.out 4).trans rfl; have a5 := (blk_cell BK1.out 5).trans rfl)
            | (go_at_call 33; (with_reducible refine (HC.out _ H1.out).mono ?_); rintro e w3 ⟨rfl, hy⟩; have H3 := Aside0.mk (below_step H1.out hy); have BK3 := Aside0.mk (blk_below BK1.out hy); have d0 := (blk_cell BK3.out 0).trans rfl; have d4 := (blk_cell BK3.out 4).trans rfl; clear hy)
            | (go_at_call 34; (with_reducible refine (HK2.out _ H3.out).mono ?_); rintro e w4 ⟨rfl, hy⟩; have H4 := Aside0.mk (below_step H3.out hy); have e4 := (blk_cell (blk_below BK3.out hy) 4).trans rfl; clear hy)
            | (go_at_call 35; (with_reducible refine (HSM.out _).mono ?_); rintro e w9 ⟨rfl, ⟨n9, rfl⟩⟩))
          exact bodyPost_ret (v := .tuple #[.int .i64 sm, .int .i64 0]) (by simp [results, Tryd.results16, go_sem]) rfl ⟨rfl, pw_below_drewN H4.out _⟩
        | false =>
          rw [if_neg (by decide)]
          go_enter Tryd.func16, Tryd.ntmps16
          go_wp2_with (first
            | (go_at_call 30; (with_reducible refine (HCT.out _ HB.out).mono ?_); rintro e w1 ⟨rfl, ⟨n1, rfl⟩⟩; have BK1 := Aside0.mk (blk_drewN BX.out n1); have H1 := Aside0.mk (pw_below_drewN HB.out n1); have a0 := (blk_cell BK1.out 0).trans rfl; have a1 := (blk_cell BK1.out 1).trans rfl; have a2 := (blk_cell BK1.out 2).trans rfl; have a3 := (blk_cell BK1.out 3).trans rfl; have a4 := (blk_cell BK1.out 4).trans rfl; have a5 := (blk_cell BK1.out 5).trans rfl)
            | (go_at_call 33; (with_reducible refine (HC.out _ H1.out).mono ?_); rintro e w3 ⟨rfl, hy⟩; have H3 := Aside0.mk (below_step H1.out hy); have BK3 := Aside0.mk (blk_below BK1.out hy); have d0 := (blk_cell BK3.out 0).trans rfl; have d4 := (blk_cell BK3.out 4).trans rfl; clear hy)
            | (go_at_call 34; (with_reducible refine (HK2.out _ H3.out).mono ?_); rintro e w4 ⟨rfl, hy⟩; have H4 := Aside0.mk (below_step H3.out hy); have e4 := (blk_cell (blk_below BK3.out hy) 4).trans rfl; clear hy)
            | (go_at_call 35; (with_reducible refine (HSM.out _).mono ?_); rintro e w9 ⟨rfl, ⟨n9, rfl⟩⟩))
          exact bodyPost_ret (v := .tuple #[.int .i64 0, .int .i64 231]) (by simp [results, Tryd.results16, go_sem]) rfl ⟨rfl, pw_below_drewN H4.out _⟩
      · obtain ⟨z1, z2⟩ := Prod.mk.inj z0
        clear z0
        subst z1
        subst z2
        rw [if_neg (by decide)]
        go_enter Tryd.func16, Tryd.ntmps16
        go_wp2_with (first
          | (go_at_call 30; (with_reducible refine (HCT.out _ HB.out).mono ?_); rintro e w1 ⟨rfl, ⟨n1, rfl⟩⟩; have BK1 := Aside0.mk (blk_drewN BX.out n1); have H1 := Aside0.mk (pw_below_drewN HB.out n1); have a0 := (blk_cell BK1.out 0).trans rfl; have a1 := (blk_cell BK1.out 1).trans rfl; have a2 := (blk_cell BK1.out 2).trans rfl; have a3 := (blk_cell BK1.out 3).trans rfl; have a4 := (blk_cell BK1.out 4).trans rfl; have a5 := (blk_cell BK1.out 5).trans rfl)
          | (go_at_call 33; (with_reducible refine (HC.out _ H1.out).mono ?_); rintro e w3 ⟨rfl, hy⟩; have H3 := Aside0.mk (below_step H1.out hy); have BK3 := Aside0.mk (blk_below BK1.out hy); have d0 := (blk_cell BK3.out 0).trans rfl; have d4 := (blk_cell BK3.out 4).trans rfl; clear hy)
          | (go_at_call 34; (with_reducible refine (HK2.out _ H3.out).mono ?_); rintro e w4 ⟨rfl, hy⟩; have H4 := Aside0.mk (below_step H3.out hy); have e4 := (blk_cell (blk_below BK3.out hy) 4).trans rfl; clear hy))
        exact bodyPost_ret (v := .tuple #[.int .i64 0, .int .i64 120]) (by simp [results, Tryd.results16, go_sem]) rfl ⟨rfl, H4.out⟩
set_option maxHeartbeats 16000000 in
set_option maxRecDepth 100000 in
theorem rfind_63 {w : World} {A Ah Ax : Option Addr} {c ch cx : Nat} {t hunt x : List Int} {now  num name add : Int} {M : Array Value} (hr : Kd.C (Kd.int .u8) w A t.length t) (hc : t.length ≤ c) (ht : byte t) (hl : t.length ≤ 1048576) (hn1 : 1 ≤ now) (hn2 : now ≤ linesN t) (hh : Kd.C (Kd.int .u8) w Ah hunt.length hunt) (bh : byte hunt) (hx : Kd.C (Kd.int .u8) w Ax x.length x) (bx : byte x) (ha1 : -9223372036854775808 ≤ add) (ha2 : add ≤ 9223372036854775807) (hm1 : -9223372036854775808 ≤ num) (hm2 : num ≤ 9223372036854775807) :
    Calls Tryd.prog 16 #[.slice A t.length c, .int .i64 now, .agg M, .slice Ah hunt.length ch, .agg #[.int .u8 63, .int .i64 num, .int .u8 name, .slice Ax x.length cx, .int .i64 add, .bool true]] w fun e w' => e = .returned (.tuple #[.int .i64 ((if (searchA t now hunt 63 x).2 = 0 then tailF (searchA t now hunt 63 x).1 (linesN t) add else (0, (searchA t now hunt 63 x).2))).1, .int .i64 ((if (searchA t now hunt 63 x).2 = 0 then tailF (searchA t now hunt 63 x).1 (linesN t) add else (0, (searchA t now hunt 63 x).2))).2]) ∧ Below w.heap.size w w' := by
  have BX := Aside0.mk (show ((w.alloc (.cells M 37)).alloc (.cells #[.int .u8 63, .int .i64 num, .int .u8 name, .slice Ax x.length cx, .int .i64 add, .bool true] 25)).heap[w.heap.size + 1]? = some (.cells #[.int .u8 63, .int .i64 num, .int .u8 name, .slice Ax x.length cx, .int .i64 add, .bool true] 25) from by have h := blk_new (w.alloc (.cells M 37)) (.cells #[.int .u8 63, .int .i64 num, .int .u8 name, .slice Ax x.length cx, .int .i64 add, .bool true] 25); rw [World.size_alloc] at h; exact h)
  have HB := Aside0.mk (below_alloc (below_alloc (Below.refl w.heap.size w) (.cells M 37)) (.cells #[.int .u8 63, .int .i64 num, .int .u8 name, .slice Ax x.length cx, .int .i64 add, .bool true] 25))
  have HCT := Aside0.mk (fun (W : World) (h : Below w.heap.size w W) => X.quoinref05_Count.calls (t.length + 1) A c t (linesN t) W (Kd.C_below hr h) hc (rcount_eq hl))
  have hn0 : 1 ≤ linesN t := by have h := split_cnt t; have h2 : 0 ≤ X.cnt 10 t := cnt_nonneg 10 t; unfold linesN; omega
  have hn9 : linesN t ≤ 1048577 := by have h := split_len t; unfold linesN; omega
  have hkz := fun pl => rseek_kinds (X.splitR t) pl now (-1) (by unfold linesN at hn0; omega) (X.splitR t).length 1
  have HSK := fun (P : List Int) (AP : Option Addr) (cP : Nat) (hP : Kd.C (Kd.int .u8) w AP P.length P) (bP : byte P) (pl : List PTh) (hpl : (compileV P).1 = some pl) => Aside0.mk (fun (W : World) (h : Below w.heap.size w W) => rseek_back (w := W) (cp := cP) (Kd.C_below hr h) hc ht hl (Kd.C_below hP h) bP hpl hn1 hn2)
  have HCP := fun (P : List Int) (AP : Option Addr) (cP : Nat) (hP : Kd.C (Kd.int .u8) w AP P.length P) (bP : byte P) => Aside0.mk (fun (W : World) (h : Below w.heap.size w W) => rcompile_calls (w := W) (c := cP) (Kd.C_below hP h) (byte_rd bP))
  unfold searchA
  have f1 : (now < 1) = False := eq_false (by omega)
  have f2 : (linesN t < now) = False := eq_false (by omega)
  by_cases h0 : x.length = 0
  · rw [show textV x hunt = hunt from if_pos h0]
    have qx : ((x.length : Int) == 0) = true := by rw [h0]; rfl
    have qx2 : (x.length : Int) = 0 := by omega
    have H0 := Aside0.mk (And.intro h0 qx2)
    clear h0 qx2
    by_cases hz : hunt.length = 0
    · rw [if_pos hz]
      have q0 : ((hunt.length : Int) == 0) = true := by rw [hz]; rfl
      rw [if_neg (show ¬ (((0 : Int), (120 : Int)).2 = 0) by decide)]
      clear hz HSK HCP hkz hh hx bh bx
      go_enter Tryd.func16, Tryd.ntmps16
      go_wp2_with (first
        | (go_at_call 30; (with_reducible refine (HCT.out _ HB.out).mono ?_); rintro e w1 ⟨rfl, ⟨n1, rfl⟩⟩; have BK1 := Aside0.mk (blk_drewN BX.out n1); have H1 := Aside0.mk (pw_below_drewN HB.out n1); have a0 := (blk_cell BK1.out 0).trans rfl; have a1 := (blk_cell BK1.out 1).trans rfl; have a2 := (blk_cell BK1.out 2).trans rfl; have a3 := (blk_cell BK1.out 3).trans rfl; have a4 := (blk_cell BK1.out 4).trans rfl; have a5 := (blk_cell BK1.out 5).trans rfl))
      exact bodyPost_ret (v := .tuple #[.int .i64 0, .int .i64 120]) (by simp [results, Tryd.results16, go_sem]) rfl ⟨rfl, H1.out⟩
    · rw [if_neg hz]
      have q0 : ((hunt.length : Int) == 0) = false := by rw [beq_eq_false_iff_ne]; omega
      clear hz f2
      have HC := HCP hunt Ah ch hh bh
      have HK := HSK hunt Ah ch hh bh
      have hce := compile_err hunt
      generalize compileV hunt = cv at HC HK hce ⊢
      obtain ⟨co, ci, ce⟩ := cv
      simp only at HC HK hce ⊢
      clear HSK HCP hh hx bh bx
      cases co with
      | none =>
        have hce2 : ce ≠ 0 := by
          rcases hce with h | ⟨_, h, _⟩
          · exact h.2
          · cases h
        have f3 : (ce != 0) = true := bne_iff_ne.2 hce2
        simp only
        rw [if_neg hce2]
        clear hce hce2 HK hkz
        go_enter Tryd.func16, Tryd.ntmps16
        go_wp2_with (first
          | (go_at_call 30; (with_reducible refine (HCT.out _ HB.out).mono ?_); rintro e w1 ⟨rfl, ⟨n1, rfl⟩⟩; have BK1 := Aside0.mk (blk_drewN BX.out n1); have H1 := Aside0.mk (pw_below_drewN HB.out n1); have a0 := (blk_cell BK1.out 0).trans rfl; have a1 := (blk_cell BK1.out 1).trans rfl; have a2 := (blk_cell BK1.out 2).trans rfl; have a3 := (blk_cell BK1.out 3).trans rfl; have a4 := (blk_cell BK1.out 4).trans rfl; have a5 := (blk_cell BK1.out 5).trans rfl)
          | (go_at_call 33; (with_reducible refine (HC.out _ H1.out).mono ?_); rintro e w3 ⟨rfl, hy⟩; have H3 := Aside0.mk (below_step H1.out hy); have BK3 := Aside0.mk (blk_below BK1.out hy); have d0 := (blk_cell BK3.out 0).trans rfl; have d4 := (blk_cell BK3.out 4).trans rfl; clear hy))
        exact bodyPost_ret (v := .tuple #[.int .i64 0, .int .i64 ce]) (by simp [results, Tryd.results16, go_sem]) rfl ⟨rfl, H3.out⟩
      | some pl =>
        obtain rfl : ce = 0 := by
          rcases hce with h | ⟨_, _, h⟩
          · cases h.1
          · exact h
        have HK2 := HK pl rfl
        have hk2 := hkz pl
        clear hce HK hkz
        simp only
        rw [show signV 63 = -1 from rfl]
        unfold linesN at HCT hn0 hn2 hn9 ⊢
        generalize hsk : seekV (X.splitR t) pl now (-1) (X.splitR t).length 1 = sv at HK2 hk2 ⊢
        obtain ⟨sl, se⟩ := sv
        generalize (((X.splitR t).length : Nat) : Int) = n at HCT hn0 hn1 hn2 hn9 hk2 ⊢
        have f1 : (now < 1) = False := eq_false (by omega)
        have f2 : (n < now) = False := eq_false (by omega)
        clear hsk
        simp only at HK2 hk2 ⊢
        rcases hk2 with z0 | ⟨z1, z2, z3⟩
        rotate_left
        · subst z1
          rw [if_pos rfl]
          have f5 : (sl == 0) = false := beq_eq_false_iff_ne.2 (by omega)
          obtain ⟨sm, sb, hs, hT⟩ := rsum_eq (l := sl) (n := n) (add := add) (by omega) (by omega) ha1 ha2 hn0 (by omega)
          have HSM := Aside0.mk (fun (W : World) => X.quoinref23_sum.calls 1 (sl) add n sm sb W hs)
          rw [hT]
          clear hs hT hn0 hn9 ha1 ha2 hm1 hm2 hn1 hn2 z2 z3
          cases sb with
          | true =>
            rw [if_pos rfl]
            go_enter Tryd.func16, Tryd.ntmps16
            go_wp2_with (first
              | (go_at_call 30; (with_reducible refine (HCT.out _ HB.out).mono ?_); rintro e w1 ⟨rfl, ⟨n1, rfl⟩⟩; have BK1 := Aside0.mk (blk_drewN BX.out n1); have H1 := Aside0.mk (pw_below_drewN HB.out n1); have a0 := (blk_cell BK1.out 0).trans rfl; have a1 := (blk_cell BK1.out 1).trans rfl; have a2 := (blk_cell BK1.out 2).trans rfl; have a3 := (blk_cell BK1.out 3).trans rfl; have a4 := (blk_cell BK1.out 4).trans rfl; have a5 := (blk_cell BK1.out 5).trans rfl)
              | (go_at_call 33; (with_reducible refine (HC.out _ H1.out).mono ?_); rintro e w3 ⟨rfl, hy⟩; have H3 := Aside0.mk (below_step H1.out hy); have BK3 := Aside0.mk (blk_below BK1.out hy); have d0 := (blk_cell BK3.out 0).trans rfl; have d4 := (blk_cell BK3.out 4).trans rfl; clear hy)
              | (go_at_call 34; (with_reducible refine (HK2.out _ H3.out).mono ?_); rintro e w4 ⟨rfl, hy⟩; have H4 := Aside0.mk (below_step H3.out hy); have e4 := (blk_cell (blk_below BK3.out hy) 4).trans rfl; clear hy)
              | (go_at_call 35; (with_reducible refine (HSM.out _).mono ?_); rintro e w9 ⟨rfl, ⟨n9, rfl⟩⟩))
            exact bodyPost_ret (v := .tuple #[.int .i64 sm, .int .i64 0]) (by simp [results, Tryd.results16, go_sem]) rfl ⟨rfl, pw_below_drewN H4.out _⟩
          | false =>
            rw [if_neg (by decide)]
            go_enter Tryd.func16, Tryd.ntmps16
            go_wp2_with (first
              | (go_at_call 30; (with_reducible refine (HCT.out _ HB.out).mono ?_); rintro e w1 ⟨rfl, ⟨n1, rfl⟩⟩; have BK1 := Aside0.mk (blk_drewN BX.out n1); have H1 := Aside0.mk (pw_below_drewN HB.out n1); have a0 := (blk_cell BK1.out 0).trans rfl; have a1 := (blk_cell BK1.out 1).trans rfl; have a2 := (blk_cell BK1.out 2).trans rfl; have a3 := (blk_cell BK1.out 3).trans rfl; have a4 := (blk_cell BK1.out 4).trans rfl; have a5 := (blk_cell BK1.out 5).trans rfl)
              | (go_at_call 33; (with_reducible refine (HC.out _ H1.out).mono ?_); rintro e w3 ⟨rfl, hy⟩; have H3 := Aside0.mk (below_step H1.out hy); have BK3 := Aside0.mk (blk_below BK1.out hy); have d0 := (blk_cell BK3.out 0).trans rfl; have d4 := (blk_cell BK3.out 4).trans rfl; clear hy)
              | (go_at_call 34; (with_reducible refine (HK2.out _ H3.out).mono ?_); rintro e w4 ⟨rfl, hy⟩; have H4 := Aside0.mk (below_step H3.out hy); have e4 := (blk_cell (blk_below BK3.out hy) 4).trans rfl; clear hy)
              | (go_at_call 35; (with_reducible refine (HSM.out _).mono ?_); rintro e w9 ⟨rfl, ⟨n9, rfl⟩⟩))
            exact bodyPost_ret (v := .tuple #[.int .i64 0, .int .i64 231]) (by simp [results, Tryd.results16, go_sem]) rfl ⟨rfl, pw_below_drewN H4.out _⟩
        · obtain ⟨z1, z2⟩ := Prod.mk.inj z0
          clear z0
          subst z1
          subst z2
          rw [if_neg (by decide)]
          go_enter Tryd.func16, Tryd.ntmps16
          go_wp2_with (first
            | (go_at_call 30; (with_reducible refine (HCT.out _ HB.out).mono ?_); rintro e w1 ⟨rfl, ⟨n1, rfl⟩⟩; have BK1 := Aside0.mk (blk_drewN BX.out n1); have H1 := Aside0.mk (pw_below_drewN HB.out n1); have a0 := (blk_cell BK1.out 0).trans rfl; have a1 := (blk_cell BK1.out 1).trans rfl; have a2 := (blk_cell BK1.out 2).trans rfl; have a3 := (blk_cell BK1.out 3).trans rfl; have a4 := (blk_cell BK1.out 4).trans rfl; have a5 := (blk_cell BK1.out 5).trans rfl)
            | (go_at_call 33; (with_reducible refine (HC.out _ H1.out).mono ?_); rintro e w3 ⟨rfl, hy⟩; have H3 := Aside0.mk (below_step H1.out hy); have BK3 := Aside0.mk (blk_below BK1.out hy); have d0 := (blk_cell BK3.out 0).trans rfl; have d4 := (blk_cell BK3.out 4).trans rfl; clear hy)
            | (go_at_call 34; (with_reducible refine (HK2.out _ H3.out).mono ?_); rintro e w4 ⟨rfl, hy⟩; have H4 := Aside0.mk (below_step H3.out hy); have e4 := (blk_cell (blk_below BK3.out hy) 4).trans rfl; clear hy))
          exact bodyPost_ret (v := .tuple #[.int .i64 0, .int .i64 120]) (by simp [results, Tryd.results16, go_sem]) rfl ⟨rfl, H4.out⟩
  · rw [show textV x hunt = x from if_neg h0, if_neg h0]
    have qx : ((x.length : Int) == 0) = false := by rw [beq_eq_false_iff_ne]; omega
    clear h0 f2
    have HC := HCP x Ax cx hx bx
    have HK := HSK x Ax cx hx bx
    have hce := compile_err x
    generalize compileV x = cv at HC HK hce ⊢
    obtain ⟨co, ci, ce⟩ := cv
    simp only at HC HK hce ⊢
    clear HSK HCP hh hx bh bx
    cases co with
    | none =>
      have hce2 : ce ≠ 0 := by
        rcases hce with h | ⟨_, h, _⟩
        · exact h.2
        · cases h
      have f3 : (ce != 0) = true := bne_iff_ne.2 hce2
      simp only
      rw [if_neg hce2]
      clear hce hce2 HK hkz
      go_enter Tryd.func16, Tryd.ntmps16
      go_wp2_with (first
        | (go_at_call 30; (with_reducible refine (HCT.out _ HB.out).mono ?_); rintro e w1 ⟨rfl, ⟨n1, rfl⟩⟩; have BK1 := Aside0.mk (blk_drewN BX.out n1); have H1 := Aside0.mk (pw_below_drewN HB.out n1); have a0 := (blk_cell BK1.out 0).trans rfl; have a1 := (blk_cell BK1.out 1).trans rfl; have a2 := (blk_cell BK1.out 2).trans rfl; have a3 := (blk_cell BK1.out 3).trans rfl; have a4 := (blk_cell BK1.out 4).trans rfl; have a5 := (blk_cell BK1.out 5).trans rfl)
        | (go_at_call 33; (with_reducible refine (HC.out _ H1.out).mono ?_); rintro e w3 ⟨rfl, hy⟩; have H3 := Aside0.mk (below_step H1.out hy); have BK3 := Aside0.mk (blk_below BK1.out hy); have d0 := (blk_cell BK3.out 0).trans rfl; have d4 := (blk_cell BK3.out 4).trans rfl; clear hy))
      exact bodyPost_ret (v := .tuple #[.int .i64 0, .int .i64 ce]) (by simp [results, Tryd.results16, go_sem]) rfl ⟨rfl, H3.out⟩
    | some pl =>
      obtain rfl : ce = 0 := by
        rcases hce with h | ⟨_, _, h⟩
        · cases h.1
        · exact h
      have HK2 := HK pl rfl
      have hk2 := hkz pl
      clear hce HK hkz
      simp only
      rw [show signV 63 = -1 from rfl]
      unfold linesN at HCT hn0 hn2 hn9 ⊢
      generalize hsk : seekV (X.splitR t) pl now (-1) (X.splitR t).length 1 = sv at HK2 hk2 ⊢
      obtain ⟨sl, se⟩ := sv
      generalize (((X.splitR t).length : Nat) : Int) = n at HCT hn0 hn1 hn2 hn9 hk2 ⊢
      have f1 : (now < 1) = False := eq_false (by omega)
      have f2 : (n < now) = False := eq_false (by omega)
      clear hsk
      simp only at HK2 hk2 ⊢
      rcases hk2 with z0 | ⟨z1, z2, z3⟩
      rotate_left
      · subst z1
        rw [if_pos rfl]
        have f5 : (sl == 0) = false := beq_eq_false_iff_ne.2 (by omega)
        obtain ⟨sm, sb, hs, hT⟩ := rsum_eq (l := sl) (n := n) (add := add) (by omega) (by omega) ha1 ha2 hn0 (by omega)
        have HSM := Aside0.mk (fun (W : World) => X.quoinref23_sum.calls 1 (sl) add n sm sb W hs)
        rw [hT]
        clear hs hT hn0 hn9 ha1 ha2 hm1 hm2 hn1 hn2 z2 z3
        cases sb with
        | true =>
          rw [if_pos rfl]
          go_enter Tryd.func16, Tryd.ntmps16
          go_wp2_with (first
            | (go_at_call 30; (with_reducible refine (HCT.out _ HB.out).mono ?_); rintro e w1 ⟨rfl, ⟨n1, rfl⟩⟩; have BK1 := Aside0.mk (blk_drewN BX.out n1); have H1 := Aside0.mk (pw_below_drewN HB.out n1); have a0 := (blk_cell BK1.out 0).trans rfl; have a1 := (blk_cell BK1.out 1).trans rfl; have a2 := (blk_cell BK1.out 2).trans rfl; have a3 := (blk_cell BK1.out 3).trans rfl; have a4 := (blk_cell BK1.out 4).trans rfl; have a5 := (blk_cell BK1.out 5).trans rfl)
            | (go_at_call 33; (with_reducible refine (HC.out _ H1.out).mono ?_); rintro e w3 ⟨rfl, hy⟩; have H3 := Aside0.mk (below_step H1.out hy); have BK3 := Aside0.mk (blk_below BK1.out hy); have d0 := (blk_cell BK3.out 0).trans rfl; have d4 := (blk_cell BK3.out 4).trans rfl; clear hy)
            | (go_at_call 34; (with_reducible refine (HK2.out _ H3.out).mono ?_); rintro e w4 ⟨rfl, hy⟩; have H4 := Aside0.mk (below_step H3.out hy); have e4 := (blk_cell (blk_below BK3.out hy) 4).trans rfl; clear hy)
            | (go_at_call 35; (with_reducible refine (HSM.out _).mono ?_); rintro e w9 ⟨rfl, ⟨n9, rfl⟩⟩))
          exact bodyPost_ret (v := .tuple #[.int .i64 sm, .int .i64 0]) (by simp [results, Tryd.results16, go_sem]) rfl ⟨rfl, pw_below_drewN H4.out _⟩
        | false =>
          rw [if_neg (by decide)]
          go_enter Tryd.func16, Tryd.ntmps16
          go_wp2_with (first
            | (go_at_call 30; (with_reducible refine (HCT.out _ HB.out).mono ?_); rintro e w1 ⟨rfl, ⟨n1, rfl⟩⟩; have BK1 := Aside0.mk (blk_drewN BX.out n1); have H1 := Aside0.mk (pw_below_drewN HB.out n1); have a0 := (blk_cell BK1.out 0).trans rfl; have a1 := (blk_cell BK1.out 1).trans rfl; have a2 := (blk_cell BK1.out 2).trans rfl; have a3 := (blk_cell BK1.out 3).trans rfl; have a4 := (blk_cell BK1.out 4).trans rfl; have a5 := (blk_cell BK1.out 5).trans rfl)
            | (go_at_call 33; (with_reducible refine (HC.out _ H1.out).mono ?_); rintro e w3 ⟨rfl, hy⟩; have H3 := Aside0.mk (below_step H1.out hy); have BK3 := Aside0.mk (blk_below BK1.out hy); have d0 := (blk_cell BK3.out 0).trans rfl; have d4 := (blk_cell BK3.out 4).trans rfl; clear hy)
            | (go_at_call 34; (with_reducible refine (HK2.out _ H3.out).mono ?_); rintro e w4 ⟨rfl, hy⟩; have H4 := Aside0.mk (below_step H3.out hy); have e4 := (blk_cell (blk_below BK3.out hy) 4).trans rfl; clear hy)
            | (go_at_call 35; (with_reducible refine (HSM.out _).mono ?_); rintro e w9 ⟨rfl, ⟨n9, rfl⟩⟩))
          exact bodyPost_ret (v := .tuple #[.int .i64 0, .int .i64 231]) (by simp [results, Tryd.results16, go_sem]) rfl ⟨rfl, pw_below_drewN H4.out _⟩
      · obtain ⟨z1, z2⟩ := Prod.mk.inj z0
        clear z0
        subst z1
        subst z2
        rw [if_neg (by decide)]
        go_enter Tryd.func16, Tryd.ntmps16
        go_wp2_with (first
          | (go_at_call 30; (with_reducible refine (HCT.out _ HB.out).mono ?_); rintro e w1 ⟨rfl, ⟨n1, rfl⟩⟩; have BK1 := Aside0.mk (blk_drewN BX.out n1); have H1 := Aside0.mk (pw_below_drewN HB.out n1); have a0 := (blk_cell BK1.out 0).trans rfl; have a1 := (blk_cell BK1.out 1).trans rfl; have a2 := (blk_cell BK1.out 2).trans rfl; have a3 := (blk_cell BK1.out 3).trans rfl; have a4 := (blk_cell BK1.out 4).trans rfl; have a5 := (blk_cell BK1.out 5).trans rfl)
          | (go_at_call 33; (with_reducible refine (HC.out _ H1.out).mono ?_); rintro e w3 ⟨rfl, hy⟩; have H3 := Aside0.mk (below_step H1.out hy); have BK3 := Aside0.mk (blk_below BK1.out hy); have d0 := (blk_cell BK3.out 0).trans rfl; have d4 := (blk_cell BK3.out 4).trans rfl; clear hy)
          | (go_at_call 34; (with_reducible refine (HK2.out _ H3.out).mono ?_); rintro e w4 ⟨rfl, hy⟩; have H4 := Aside0.mk (below_step H3.out hy); have e4 := (blk_cell (blk_below BK3.out hy) 4).trans rfl; clear hy))
        exact bodyPost_ret (v := .tuple #[.int .i64 0, .int .i64 120]) (by simp [results, Tryd.results16, go_sem]) rfl ⟨rfl, H4.out⟩
theorem rfind23_calls {w : World} {A Ah Ax : Option Addr} {c ch cx : Nat} {t hunt x l : List Int} {now base num name add : Int} {given : Bool} {M : Array Value} (hr : Kd.C (Kd.int .u8) w A t.length t) (hc : t.length ≤ c) (ht : byte t) (hl : t.length ≤ 1048576) (hh : Kd.C (Kd.int .u8) w Ah hunt.length hunt) (bh : byte hunt) (hx : Kd.C (Kd.int .u8) w Ax x.length x) (bx : byte x) (hl7 : l.length = 27) (hM : M = marks l) (hnm : 0 ≤ name ∧ name ≤ 255) (ha1 : -9223372036854775808 ≤ add) (ha2 : add ≤ 9223372036854775807) (hm1 : -9223372036854775808 ≤ num) (hm2 : num ≤ 9223372036854775807) :
    Calls Tryd.prog 16 #[.slice A t.length c, .int .i64 now, .agg M, .slice Ah hunt.length ch, .agg #[.int .u8 base, .int .i64 num, .int .u8 name, .slice Ax x.length cx, .int .i64 add, .bool given]] w fun e w' => e = .returned (.tuple #[.int .i64 (findA t now l hunt base num name x add given).1, .int .i64 (findA t now l hunt base num name x add given).2]) ∧ Below w.heap.size w w' := by
  by_cases hn : now < 1 ∨ now > linesN t
  · rw [show findA t now l hunt base num name x add given = (0, 2) from if_pos hn]
    exact rfar hr hc ht hl hn ha1 ha2 hm1 hm2
  · have hn1 : 1 ≤ now := by omega
    have hn2 : now ≤ linesN t := by omega
    cases given with
    | false =>
      rw [show findA t now l hunt base num name x add false = (now, 0) from by unfold findA; rw [if_neg hn, if_pos rfl]]
      exact rnone_given hr hc ht hl hn1 hn2 ha1 ha2 hm1 hm2
    | true =>
      have e : findA t now l hunt base num name x add true = if (baseF t now l hunt base num name x).2 = 0 then tailF (baseF t now l hunt base num name x).1 (linesN t) add else (0, (baseF t now l hunt base num name x).2) := by unfold findA; rw [if_neg hn, if_neg (show ¬ (true = false) by decide)]
      rw [e]
      clear e hn
      by_cases h110 : base = 110
      · subst h110; rw [show baseF t now l hunt 110 num name x = (num, 0) from by simp [baseF], if_pos rfl]; exact rfind_110 hr hc ht hl hn1 hn2 ha1 ha2 hm1 hm2
      · by_cases h36 : base = 36
        · subst h36; rw [show baseF t now l hunt 36 num name x = (linesN t, 0) from by simp [baseF], if_pos rfl]; exact rfind_36 hr hc ht hl hn1 hn2 ha1 ha2 hm1 hm2
        · by_cases h46 : base = 46
          · subst h46; rw [show baseF t now l hunt 46 num name x = (now, 0) from by simp [baseF], if_pos rfl]; exact rfind_46 hr hc ht hl hn1 hn2 ha1 ha2 hm1 hm2
          · by_cases h0 : base = 0
            · subst h0; rw [show baseF t now l hunt 0 num name x = (now, 0) from by simp [baseF], if_pos rfl]; exact rfind_0 hr hc ht hl hn1 hn2 ha1 ha2 hm1 hm2
            · by_cases h39 : base = 39
              · subst h39; rw [show baseF t now l hunt 39 num name x = markV t l name from by simp [baseF]]; exact rfind_39 hr hc ht hl hn1 hn2 hl7 hM hnm ha1 ha2 hm1 hm2
              · by_cases h47 : base = 47
                · subst h47; rw [show baseF t now l hunt 47 num name x = searchA t now hunt 47 x from by simp [baseF]]; exact rfind_47 hr hc ht hl hn1 hn2 hh bh hx bx ha1 ha2 hm1 hm2
                · by_cases h63 : base = 63
                  · subst h63; rw [show baseF t now l hunt 63 num name x = searchA t now hunt 63 x from by simp [baseF]]; exact rfind_63 hr hc ht hl hn1 hn2 hh bh hx bx ha1 ha2 hm1 hm2
                  · rw [show baseF t now l hunt base num name x = (0, 2) from by unfold baseF; rw [if_neg h110, if_neg h36, if_neg (by omega), if_neg h39, if_neg (by omega)], if_neg (by decide)]
                    exact rstrange hr hc ht hl hn1 hn2 (by simp [seven]; omega) ha1 ha2 hm1 hm2
end Go.Proofs.YtdhdngoeaneanaaDoor.PT
end
section
namespace Go.Proofs.YtdhdngoeaneanaaDoor.WalkAddressFinds
open Go.RowKit Go.Proofs.YtdhdngoeaneanaaDoorW.PrintWords Go.Proofs.YtdhdngoeaneanaaDoorW.PrintLast Go.Proofs.YtdhdngoeaneanaaDoorW.PrintMore Go.Proofs.YtdhdngoeaneanaaDoor.X Go.Proofs.YtdhdngoeaneanaaDoor.XL Go.Proofs.YtdhdngoeaneanaaDoor.XO Go.Proofs.YtdhdngoeaneanaaDoor.PT
set_option linter.unusedVariables false
set_option linter.unusedSimpArgs false
theorem cut_at {B : List Value} {i n : Nat} {L : List Value} (h : (B.drop i).take n = L) : ((⟨B⟩ : Array Value).extract i (i + n)).toList = L := by
  rw [← h]
  simp [List.extract_eq_take_drop]
theorem mk_at (B : List Value) (i : Nat) : (⟨B⟩ : Array Value)[i]? = B[i]? := by simp
set_option maxHeartbeats 16000000 in
set_option maxRecDepth 100000 in
theorem walk (x : SJ) (A0 : Option Addr) (c0 : Nat) (A3 : Option Addr) (c3 : Nat) (A4 : Option Addr) (c4 : Nat) (w : World) (hl7 : x.l.length = 27) (hr0 : (Kd.int .u8).C w A0 x.f0.length x.f0) (hc0 : x.f0.length ≤ c0) (hr3 : (Kd.int .u8).C w A3 x.f3.length x.f3) (hc3 : x.f3.length ≤ c3) (hr4 : (Kd.int .u8).C w A4 x.f4.f3.length x.f4.f3) (hc4 : x.f4.f3.length ≤ c4) (o0 : okJ x) (hb : szJ x ≤ 1048576) (htab : Tab w) :
    Calls Tryd.prog 5 #[.agg ⟨jobL x A0 c0 A3 c3 A4 c4⟩] w fun e w' => e = .returned (.bool true) ∧ Below w.heap.size w w' := by
  have q0 := (jobL_low (x := x) (A0 := A0) (c0 := c0) (A3 := A3) (c3 := c3) (A4 := A4) (c4 := c4)).1
  have q1 := (jobL_low (x := x) (A0 := A0) (c0 := c0) (A3 := A3) (c3 := c3) (A4 := A4) (c4 := c4)).2
  have q29 := (jobL_at (x := x) (A0 := A0) (c0 := c0) (A3 := A3) (c3 := c3) (A4 := A4) (c4 := c4) hl7 0).trans rfl
  have q30 := (jobL_at (x := x) (A0 := A0) (c0 := c0) (A3 := A3) (c3 := c3) (A4 := A4) (c4 := c4) hl7 1).trans rfl
  have q31 := (jobL_at (x := x) (A0 := A0) (c0 := c0) (A3 := A3) (c3 := c3) (A4 := A4) (c4 := c4) hl7 2).trans rfl
  have q32 := (jobL_at (x := x) (A0 := A0) (c0 := c0) (A3 := A3) (c3 := c3) (A4 := A4) (c4 := c4) hl7 3).trans rfl
  have q33 := (jobL_at (x := x) (A0 := A0) (c0 := c0) (A3 := A3) (c3 := c3) (A4 := A4) (c4 := c4) hl7 4).trans rfl
  have q34 := (jobL_at (x := x) (A0 := A0) (c0 := c0) (A3 := A3) (c3 := c3) (A4 := A4) (c4 := c4) hl7 5).trans rfl
  have q35 := (jobL_at (x := x) (A0 := A0) (c0 := c0) (A3 := A3) (c3 := c3) (A4 := A4) (c4 := c4) hl7 6).trans rfl
  have qm := jobL_marks (x := x) (A0 := A0) (c0 := c0) (A3 := A3) (c3 := c3) (A4 := A4) (c4 := c4) hl7
  generalize jobL x A0 c0 A3 c3 A4 c4 = B at q0 q1 q29 q30 q31 q32 q33 q34 q35 qm ⊢
  have hlt : x.f0.length ≤ 1048576 := by have h1 := szSl_length (szOne (α := Int)) (fun _ => Nat.le_refl _) x.f0; unfold szJ at hb; omega
  have ok0 := o0.1
  have ok3 := o0.2.2.2.1
  have ok4 := o0.2.2.2.2
  clear hb o0
  generalize x.l = l at hl7 qm
  obtain ⟨t, now, mk, hunt, ⟨base, num, name, text, add, given⟩⟩ := x
  simp only at hr0 hc0 hr3 hc3 hr4 hc4 hlt ok0 ok3 ok4 q0 q1 q29 q30 q31 q32 q33 q34 q35
  clear mk
  have b0 : byte t := fun y hy => ok0.2 y hy
  have b3 : byte hunt := fun y hy => ok3.2 y hy
  have b4 : byte text := fun y hy => ok4.2.2.2.1.2 y hy
  have k1 : 0 ≤ base ∧ base ≤ 255 := ok4.1
  have k2 : -9223372036854775808 ≤ num ∧ num ≤ 9223372036854775807 := ok4.2.1
  have k3 : 0 ≤ name ∧ name ≤ 255 := ok4.2.2.1
  have k4 : -9223372036854775808 ≤ add ∧ add ≤ 9223372036854775807 := ok4.2.2.2.2.1
  clear ok0 ok3 ok4 hc3 hc4
  have HFA : Aside0 (∀ (W : World) (M : Array Value) (ad : Int), Below w.heap.size w W → M = marks l → -9223372036854775808 ≤ ad → ad ≤ 9223372036854775807 → Calls Tryd.prog 17 #[.slice A0 t.length c0, .int .i64 now, .agg M, .slice A3 hunt.length c3, .agg #[.int .u8 base, .int .i64 num, .int .u8 name, .slice A4 text.length c4, .int .i64 ad, .bool given]] W fun e w' => e = .returned (.tuple #[.int .i64 (findA t now l hunt base num name text ad given).1, .int .i64 (findA t now l hunt base num name text ad given).2]) ∧ Below W.heap.size W w') := ⟨fun W M ad h hM ha1 ha2 => findA_calls (Kd.C_below hr0 h) hc0 b0 hlt (Kd.C_below hr3 h) b3 (Kd.C_below hr4 h) b4 hl7 hM k1 k3 ha1 ha2 k2.1 k2.2⟩
  have HRA : Aside0 (∀ (W : World) (M : Array Value) (ad : Int), Below w.heap.size w W → M = marks l → -9223372036854775808 ≤ ad → ad ≤ 9223372036854775807 → Calls Tryd.prog 16 #[.slice A0 t.length c0, .int .i64 now, .agg M, .slice A3 hunt.length c3, .agg #[.int .u8 base, .int .i64 num, .int .u8 name, .slice A4 text.length c4, .int .i64 ad, .bool given]] W fun e w' => e = .returned (.tuple #[.int .i64 (findA t now l hunt base num name text ad given).1, .int .i64 (findA t now l hunt base num name text ad given).2]) ∧ Below W.heap.size W w') := ⟨fun W M ad h hM ha1 ha2 => rfind23_calls (Kd.C_below hr0 h) hc0 b0 hlt (Kd.C_below hr3 h) b3 (Kd.C_below hr4 h) b4 hl7 hM k3 ha1 ha2 k2.1 k2.2⟩
  have BX := Aside0.mk (blk_new w (.cells ⟨B⟩ 39))
  have HB := Aside0.mk (below_alloc (Below.refl w.heap.size w) (.cells ⟨B⟩ 39))
  have HA := Aside0.mk (alive_calls (w := w.alloc (.cells ⟨B⟩ 39)) (htab.below (below_alloc (Below.refl w.heap.size w) (.cells ⟨B⟩ 39))))
  have HR := Aside0.mk (fun (W : World) (h : W.heap[w.heap.size]? = some (.cells ⟨B⟩ 39 (0, 0))) => show W.rangeAt w.heap.size 2 (l.map (.int .i64)) from by
    have h2 := World.rangeAt_of_block h 2 27
    rw [cut_at qm] at h2
    exact h2)
  have HSZ := Aside0.mk (show (Tryd.prog.info? 37).map (·.size) = some (l.map (Value.int .i64)).length from by rw [List.length_map, hl7]; exact szmk)
  have HM := Aside0.mk (show (l.map (Value.int .i64)).toArray = marks l from rfl)
  have HQ := Aside0.mk (show (⟨B⟩ : Array Value)[0]? = some (.slice A0 t.length c0) ∧ (⟨B⟩ : Array Value)[1]? = some (.int .i64 now) ∧ (⟨B⟩ : Array Value)[29]? = some (.slice A3 hunt.length c3) ∧ (⟨B⟩ : Array Value)[30]? = some (.int .u8 base) ∧ (⟨B⟩ : Array Value)[31]? = some (.int .i64 num) ∧ (⟨B⟩ : Array Value)[32]? = some (.int .u8 name) ∧ (⟨B⟩ : Array Value)[33]? = some (.slice A4 text.length c4) ∧ (⟨B⟩ : Array Value)[34]? = some (.int .i64 add) ∧ (⟨B⟩ : Array Value)[35]? = some (.bool given) from ⟨(mk_at B 0).trans q0, (mk_at B 1).trans q1, (mk_at B 29).trans (q29.trans rfl), (mk_at B 30).trans (q30.trans rfl), (mk_at B 31).trans (q31.trans rfl), (mk_at B 32).trans (q32.trans rfl), (mk_at B 33).trans (q33.trans rfl), (mk_at B 34).trans (q34.trans rfl), (mk_at B 35).trans (q35.trans rfl)⟩)
  clear q0 q1 q29 q30 q31 q32 q33 q34 q35 qm hr0 hr3 hr4 b0 b3 b4 htab hc0
  have HF1 := Aside0.mk (fun (W : World) (M : Array Value) (h : Below w.heap.size w W) (hM : M = marks l) => HFA.out W M add h hM k4.1 k4.2)
  have HR1 := Aside0.mk (fun (W : World) (M : Array Value) (h : Below w.heap.size w W) (hM : M = marks l) => HRA.out W M add h hM k4.1 k4.2)
  generalize findA t now l hunt base num name text add given = r1 at HF1 HR1
  obtain ⟨n, e⟩ := r1
  simp only at HF1 HR1
  clear k1 k2 k3 k4 HFA HRA
  go_enter Tryd.func5, Tryd.ntmps5
  go_wp2_with (first
    | (go_at_call 10; (with_reducible refine HA.out.mono ?_); rintro e_ w1 ⟨rfl, hx⟩; have H1 := Aside0.mk (below_step HB.out hx); have BX1 := Aside0.mk (blk_below BX.out hx); clear hx; have x0 := (blk_cell BX1.out 0).trans HQ.out.1; have x1 := (blk_cell BX1.out 1).trans HQ.out.2.1; have x29 := (blk_cell BX1.out 29).trans HQ.out.2.2.1; have x30 := (blk_cell BX1.out 30).trans HQ.out.2.2.2.1; have x31 := (blk_cell BX1.out 31).trans HQ.out.2.2.2.2.1; have x32 := (blk_cell BX1.out 32).trans HQ.out.2.2.2.2.2.1; have x33 := (blk_cell BX1.out 33).trans HQ.out.2.2.2.2.2.2.1; have x34 := (blk_cell BX1.out 34).trans HQ.out.2.2.2.2.2.2.2.1; have x35 := (blk_cell BX1.out 35).trans HQ.out.2.2.2.2.2.2.2.2)
    | ((with_reducible refine gate_ (.load 37 (.tmp 14)) rfl ?_); refine wpList_load_mid rfl 37 (.tmp 14) rfl w.heap.size 2 rfl (l.map (.int .i64)) _ (HR.out _ BX1.out) Tryd.underlying37 rfl HSZ.out ?_)
    | ((with_reducible refine gate_ (.load 37 (.tmp 28)) rfl ?_); refine wpList_load_mid rfl 37 (.tmp 28) rfl w.heap.size 2 rfl (l.map (.int .i64)) _ (HR.out _ BX2.out) Tryd.underlying37 rfl HSZ.out ?_)
    | (go_at_call 16; (with_reducible refine (HR1.out _ _ H1.out HM.out).mono ?_); rintro e_ w2 ⟨rfl, hx⟩; have H2 := Aside0.mk (below_step H1.out hx); have BX2 := Aside0.mk (blk_below BX1.out hx); clear hx; clear x0 x1 x29 x30 x31 x32 x33 x34 x35; have x0 := (blk_cell BX2.out 0).trans HQ.out.1; have x1 := (blk_cell BX2.out 1).trans HQ.out.2.1; have x29 := (blk_cell BX2.out 29).trans HQ.out.2.2.1; have x30 := (blk_cell BX2.out 30).trans HQ.out.2.2.2.1; have x31 := (blk_cell BX2.out 31).trans HQ.out.2.2.2.2.1; have x32 := (blk_cell BX2.out 32).trans HQ.out.2.2.2.2.2.1; have x33 := (blk_cell BX2.out 33).trans HQ.out.2.2.2.2.2.2.1; have x34 := (blk_cell BX2.out 34).trans HQ.out.2.2.2.2.2.2.2.1; have x35 := (blk_cell BX2.out 35).trans HQ.out.2.2.2.2.2.2.2.2)
    | (go_at_call 17; (with_reducible refine (HF1.out _ _ H2.out HM.out).mono ?_); rintro e_ w3 ⟨rfl, hx⟩; have H3 := Aside0.mk (below_step H2.out hx); clear hx))
  exact bodyPost_ret (v := .bool true) (by simp [results, Tryd.results5, go_sem]) rfl ⟨rfl, H3.out⟩
end Go.Proofs.YtdhdngoeaneanaaDoor.WalkAddressFinds
end
