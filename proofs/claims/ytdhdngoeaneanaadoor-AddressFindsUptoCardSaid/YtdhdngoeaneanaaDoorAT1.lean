/-
  Address, by hand: the search.
-/
import Derived.Test.YtdhdngoeaneanaaDoorPTE
import Derived.Test.YtdhdngoeaneanaaDoorX38
import Derived.Lib.Hide
namespace Go.Proofs.YtdhdngoeaneanaaDoor.PT
open Go.RowKit Go.Proofs.YtdhdngoeaneanaaDoorW.PrintWords Go.Proofs.YtdhdngoeaneanaaDoorW.PrintMore
set_option linter.unusedVariables false
set_option linter.unusedSimpArgs false
theorem split_len (t : List Int) : (X.splitR t).length ≤ t.length + 1 := by
  induction t with
  | nil => exact Nat.le_refl _
  | cons x t ih =>
    unfold X.splitR
    by_cases h : x = 10
    · rw [if_pos h, List.length_cons, List.length_cons]; omega
    · rw [if_neg h]
      cases e : X.splitR t with
      | nil => exact absurd e (X.splitR_ne t)
      | cons p r => rw [e] at ih; simp only [List.length_cons] at ih ⊢; omega
theorem split_bytes {P : Int → Prop} (t : List Int) (h : ∀ x ∈ t, P x) : ∀ l ∈ X.splitR t, (∀ x ∈ l, P x) ∧ l.length ≤ t.length := by
  induction t with
  | nil => intro l hl; simp [X.splitR] at hl; subst hl; exact ⟨fun x hx => (by cases hx), Nat.le_refl _⟩
  | cons y t ih =>
    intro l hl
    unfold X.splitR at hl
    have ih' := ih (fun z hz => h z (by simp [hz]))
    by_cases hy : y = 10
    · rw [if_pos hy] at hl
      rcases List.mem_cons.1 hl with e | e
      · subst e; exact ⟨fun x hx => (by cases hx), Nat.zero_le _⟩
      · exact ⟨(ih' l e).1, by have := (ih' l e).2; rw [List.length_cons]; omega⟩
    · rw [if_neg hy] at hl
      cases e : X.splitR t with
      | nil => exact absurd e (X.splitR_ne t)
      | cons p r =>
        rw [e] at hl ih'
        rcases List.mem_cons.1 hl with e2 | e2
        · subst e2
          refine ⟨fun x hx => ?_, by have := (ih' p (by simp)).2; simp only [List.length_cons]; omega⟩
          rcases List.mem_cons.1 hx with e3 | e3
          · subst e3; exact h _ (by simp)
          · exact (ih' p (by simp)).1 x e3
        · exact ⟨(ih' l (by simp [e2])).1, by have := (ih' l (by simp [e2])).2; rw [List.length_cons]; omega⟩
theorem rd_mem {P : Int → Prop} (l : List Int) (h : ∀ x ∈ l, P x) (h0 : P 0) (i : Int) : P (rd l i) := by
  unfold rd
  rw [List.getD_eq_getElem?_getD]
  cases e : l[i.toNat]? with
  | none => exact h0
  | some x => exact h x (List.mem_of_getElem? e)
/-- A line of the split, in memory. -/
theorem line_of {w : World} {A : Option Addr} {n : Nat} {ls : List (List Int)} (h : (Kd.slice 5 (Kd.int .u8)).C w A n ls) {i : Nat} (hi : i < n) : ∃ ad A' c', A = some ad ∧ w.cell? (ad.add i) = some (.slice A' (ls.getD i []).length c') ∧ (ls.getD i []).length ≤ c' ∧ Kd.C (Kd.int .u8) w A' (ls.getD i []).length (ls.getD i []) := by
  obtain ⟨ad, c, rfl, hc, hk, hcc⟩ := Kd.C_get h [] (i : Int) (by omega) (by omega)
  rw [Int.toNat_natCast] at hk hcc
  obtain ⟨A', c', rfl, e0, e1⟩ := hk
  refine ⟨ad, A', c', rfl, ?_, e0, e1⟩
  have h2 := hcc 0 _ rfl
  simpa [Kd.slice] using h2
theorem u8_C {w : World} {b : Nat} {xs : List Int} {fr : Nat × Nat} (h : w.heap[b]? = some (.cells (xs.map (Value.int .u8)).toArray 5 fr)) (hl : xs.length ≤ 281474976710656) : Kd.C (Kd.int .u8) w (some ⟨b, 0, none⟩) xs.length xs := by
  refine Kd.C_of_reads (enc := Value.int .u8) (d := (0 : Int)) (h1 := fun _ => rfl) ⟨rfl, by omega, fun _ => ⟨_, rfl, fun j hj => ?_⟩⟩
  have h1 : w.cell? ⟨b, j, none⟩ = some (.int .u8 (xs.getD j 0)) := (cell_of_row w b j _ _ _ h).trans (by rw [List.getD_eq_getElem?_getD]; simp [hj])
  cases j with
  | zero => simpa [Addr.add] using h1
  | succ j => simpa [Addr.add] using h1
def byte (l : List Int) : Prop := ∀ x ∈ l, 0 ≤ x ∧ x ≤ 255
theorem byte_u8s {l : List Int} (h : byte l) : X.u8s l = true := List.all_eq_true.2 fun x hx => decide_eq_true (h x hx)
theorem byte_rd {l : List Int} (h : byte l) : ∀ i, 0 ≤ rd l i ∧ rd l i ≤ 255 := rd_mem (P := fun x => 0 ≤ x ∧ x ≤ 255) l h (by decide)
theorem PatO_below {w w' : World} {base : Nat} {v : Value} {o : Option (List PTh)} (h : PatO w base v o) (hb : Below w.heap.size w w') : PatO w' base v o := by
  cases o with
  | none => exact h
  | some pl =>
    obtain ⟨b, A1, c1, l, e1, e2, e3, e4, e5, e6, e7⟩ := h
    exact ⟨b, A1, c1, l, e1, e2, blk_below e3 hb, Kd.R_below e4 hb, fun x hx => SetAt_below (e5 x hx) hb, e6, e7⟩
/-- The line that round k looks at, from 0 on. -/
def lineK (now s : Int) (n k : Nat) : Nat := ((now - 1 + (k : Int) * s) % (n : Int)).toNat
/-- From round k on, g rounds are left. -/
def seekV (rows : List (List Int)) (pl : List PTh) (now s : Int) : Nat → Nat → Int × Int
  | 0, _ => (0, 120)
  | g + 1, k => if (findV (rows.getD (lineK now s rows.length k) []) pl 0).2.2 = true then ((lineK now s rows.length k : Int) + 1, 0) else seekV rows pl now s g (k + 1)
def signV (base : Int) : Int := if base = 63 then -1 else 1
def textV (x hunt : List Int) : List Int := if x.length = 0 then hunt else x
def searchA (t : List Int) (now : Int) (hunt : List Int) (base : Int) (x : List Int) : Int × Int :=
  if (textV x hunt).length = 0 then (0, 120) else match (compileV (textV x hunt)).1 with
  | none => (0, (compileV (textV x hunt)).2.2)
  | some pl => seekV (X.splitR t) pl now (signV base) (X.splitR t).length 1
theorem compile_err (p : List Int) : ((compileV p).1 = none ∧ (compileV p).2.2 ≠ 0) ∨ (∃ pl, (compileV p).1 = some pl ∧ (compileV p).2.2 = 0) := by
  unfold compileV
  split
  · exact .inl ⟨rfl, show (1 : Int) ≠ 0 by decide⟩
  · split
    · exact .inl ⟨rfl, show (110 : Int) ≠ 0 by decide⟩
    · exact .inr ⟨_, rfl, rfl⟩
theorem rem_eq {a n : Int} (h : 0 < n) : (Int.tmod a n + n).tmod n = a % n := by
  have h1 : 0 ≤ Int.tmod a n + n := by have := Int.lt_tmod_of_pos a h; omega
  rw [Int.tmod_eq_emod_of_nonneg h1]
  have h2 := Int.mul_tdiv_add_tmod a n
  have h3 : Int.tmod a n + n = a + n * (1 - Int.tdiv a n) := by rw [Int.mul_sub]; omega
  rw [h3, Int.add_mul_emod_self_left]
set_option maxHeartbeats 4000000 in
set_option maxRecDepth 100000 in
theorem search_calls {w : World} {A Ah Ax : Option Addr} {c ch cx : Nat} {t hunt x : List Int} {now base num name add : Int} {given : Bool} (hr : Kd.C (Kd.int .u8) w A t.length t) (hc : t.length ≤ c) (ht : byte t)
    (hh : Kd.C (Kd.int .u8) w Ah hunt.length hunt) (bh : byte hunt) (hx : Kd.C (Kd.int .u8) w Ax x.length x) (bx : byte x) (hl : t.length ≤ 1048576) (hn1 : 1 ≤ now) (hn2 : now ≤ (X.splitR t).length) :
    Calls Tryd.prog 39 #[.slice A t.length c, .int .i64 now, .slice Ah hunt.length ch, .agg #[.int .u8 base, .int .i64 num, .int .u8 name, .slice Ax x.length cx, .int .i64 add, .bool given]] w fun e w' => e = .returned (.tuple #[.int .i64 (searchA t now hunt base x).1, .int .i64 (searchA t now hunt base x).2]) ∧ Below w.heap.size w w' := by
  have BX := Aside0.mk (blk_new w (.cells #[.int .u8 base, .int .i64 num, .int .u8 name, .slice Ax x.length cx, .int .i64 add, .bool given] 25))
  have HB := Aside0.mk (below_alloc (Below.refl w.heap.size w) (.cells #[.int .u8 base, .int .i64 num, .int .u8 name, .slice Ax x.length cx, .int .i64 add, .bool given] 25))
  have HSP := Aside0.mk (fun (W : World) (h : Below w.heap.size w W) => X.lines_Split.calls A c t (X.splitR t) W (Kd.C_below hr h) hc (by
    unfold X.lines_Split.f
    rw [if_pos (byte_u8s ht), if_pos (by omega)]))
  have HBY := Aside0.mk (split_bytes (P := fun x => 0 ≤ x ∧ x ≤ 255) t ht)
  have hrl := split_len t
  have i0 := (blk_cell BX.out 0).trans rfl
  have i3 := (blk_cell BX.out 3).trans rfl
  by_cases h0 : x.length = 0
  · have qx : ((x.length : Int) == 0) = true := by rw [h0]; rfl
    have H0 := Aside0.mk h0
    clear h0
    have hS : searchA t now hunt base x = if hunt.length = 0 then (0, 120) else match (compileV hunt).1 with
      | none => (0, (compileV hunt).2.2)
      | some pl => seekV (X.splitR t) pl now (signV base) (X.splitR t).length 1 := by unfold searchA; rw [show textV x hunt = hunt from if_pos H0.out]
    rw [hS]
    clear hS
    have HC := Aside0.mk (fun (W : World) (h : Below w.heap.size w W) => compile_calls (w := W) (c := ch) (Kd.C_below hh h) (byte_rd bh))
    have hce := compile_err hunt
    generalize X.splitR t = rows at HSP HBY hrl hn2 ⊢
    generalize compileV hunt = cv at HC hce ⊢
    obtain ⟨co, ci, ce⟩ := cv
    simp only at hce HC ⊢
    clear hh bh hx bx
    have Hhunt := Aside0.mk (show 0 ≤ hunt.length from Nat.zero_le _)
    by_cases hz : hunt.length = 0
    · rw [if_pos hz]
      have q0 : ((hunt.length : Int) == 0) = true := by rw [hz]; rfl
      clear hz
      go_enter Tryd.func39, Tryd.ntmps39
      go_wp2
      exact bodyPost_ret (v := .tuple #[.int .i64 0, .int .i64 120]) (by simp [results, Tryd.results39, go_sem]) rfl ⟨rfl, HB.out⟩
    · rw [if_neg hz]
      have q0 : ((hunt.length : Int) == 0) = false := by rw [beq_eq_false_iff_ne]; omega
      clear hz
      cases co with
      | none =>
        have q1 : (ce != 0) = true := by
          rcases hce with h | ⟨_, h, _⟩
          · exact bne_iff_ne.2 h.2
          · cases h
        clear hce
        go_enter Tryd.func39, Tryd.ntmps39
        go_wp2_with (go_at_call 19; (with_reducible refine (HC.out _ HB.out).mono ?_); rintro e w1 ⟨v1, rfl, hy, hp⟩; have H1 := Aside0.mk (below_step HB.out hy); clear hy hp)
        exact bodyPost_ret (v := .tuple #[.int .i64 0, .int .i64 ce]) (by simp [results, Tryd.results39, go_sem]) rfl ⟨rfl, H1.out⟩
      | some pl =>
        obtain rfl : ce = 0 := by
          rcases hce with h | ⟨_, _, h⟩
          · cases h.1
          · exact h
        clear hce
        have hsg : (base = 63 ∧ signV base = -1) ∨ (base ≠ 63 ∧ signV base = 1) := by
          unfold signV
          by_cases h : base = 63
          · exact .inl ⟨h, if_pos h⟩
          · exact .inr ⟨h, if_neg h⟩
        rcases hsg with ⟨hb, hs⟩ | ⟨hb, hs⟩
        · simp only [hs]
          have q2 : (base == 63) = true := by rw [hb]; rfl
          clear hs hb
          have HV := Aside0.mk (show seekV rows pl now (-1) rows.length 1 = seekV rows pl now (-1) rows.length 1 from rfl)
          generalize hout : seekV rows pl now (-1) rows.length 1 = out at HV ⊢
          clear HV
          have HO := Aside0.mk hout
          clear hout
          go_enter Tryd.func39, Tryd.ntmps39
          go_wp2_with (first
            | (go_at_call 19; (with_reducible refine (HC.out _ HB.out).mono ?_); rintro e w1 ⟨v1, rfl, hy, hp⟩; have H1 := Aside0.mk (And.intro (below_step HB.out hy) hp); have BK1 := Aside0.mk (blk_below BX.out hy); clear hy hp)
            | (go_at_call 42; (with_reducible refine (HSP.out _ H1.out.1).mono ?_); rintro e W1 ⟨vs, rfl, hy1, hy2⟩; have HS := Aside0.mk (And.intro hy1 hy2); clear hy1 hy2; obtain ⟨AS, cS, eS⟩ := Kd.R_slice (Kd.S_R HS.out.1); subst eS; have HP := Aside0.mk (PatO_below H1.out.2 HS.out.2); have i9 := (blk_cell (blk_below BK1.out HS.out.2) 0).trans rfl))
          have HK := Aside0.mk (Kd.R_reads' (Kd.S_R HS.out.1)).2.2
          clear i0 i3 i9 q0 q2
          go_loopg [16] rows.length (fun g v16 wl => ∃ k : Nat, k + g = rows.length + 1 ∧ 1 ≤ k ∧ v16 = .int .i64 k ∧ Aside0 (Below W1.heap.size W1 wl ∧ seekV rows pl now (-1) g k = out))
          case atStart => exact ⟨1, by omega, Nat.le_refl _, rfl, ⟨Below.refl _ _, HO.out⟩⟩
          case round =>
            obtain ⟨k, hk, hk1, rfl, HL⟩ := hrel
            clear HO
            cases gk with
            | zero =>
              have q3 : ((k : Int) ≤ (rows.length : Int)) = False := eq_false (by omega)
              obtain rfl := (show ((0 : Int), (120 : Int)) = out from HL.out.2)
              go_wp2
              exact bodyPost_ret (v := .tuple #[.int .i64 0, .int .i64 120]) (by simp [results, Tryd.results39, go_sem]) rfl ⟨rfl, below_step H1.out.1 (below_step HS.out.2 HL.out.1)⟩
            | succ g =>
              have q3 : ((k : Int) ≤ (rows.length : Int)) = True := eq_true (by omega)
              have hnn : (0 : Int) < (rows.length : Int) := by omega
              have hidx : ((lineK now (-1) rows.length k : Nat) : Int) = (now - 1 + (k : Int) * (-1)) % (rows.length : Int) := Int.toNat_of_nonneg (Int.emod_nonneg _ (by omega))
              have hlt : lineK now (-1) rows.length k < rows.length := by have h := Int.emod_lt_of_pos (now - 1 + (k : Int) * (-1)) hnn; omega
              have hke : (k : Int) * (-1) = -(k : Int) := by omega
              have hq : ((now - 1 + -(k : Int)).tmod (rows.length : Int) + (rows.length : Int)).tmod (rows.length : Int) = ((lineK now (-1) rows.length k : Nat) : Int) := by rw [rem_eq hnn, hidx, hke]
              have htm : -(rows.length : Int) < (now - 1 + -(k : Int)).tmod (rows.length : Int) := Int.lt_tmod_of_pos _ hnn
              have htm2 : (now - 1 + -(k : Int)).tmod (rows.length : Int) < (rows.length : Int) := Int.tmod_lt_of_pos _ hnn
              have HD := Aside0.mk (show seekV rows pl now (-1) (g + 1) k = if (findV (rows.getD (lineK now (-1) rows.length k) []) pl 0).2.2 = true then ((lineK now (-1) rows.length k : Int) + 1, 0) else seekV rows pl now (-1) g (k + 1) from rfl)
              have HO := Aside0.mk HL.out.2
              rw [HD.out] at HO
              clear HD hidx hke
              obtain ⟨ad, A', c', rfl, hy, hlc, hC⟩ := line_of HK.out hlt
              replace hy := pw_cell_below HL.out.1 hy
              have hrow := HBY.out (rows.getD (lineK now (-1) rows.length k) []) (by rw [List.getD_eq_getElem?_getD, List.getElem?_eq_getElem hlt]; exact List.getElem_mem hlt)
              have HF := Aside0.mk (find_calls (from_ := 0) (Kd.C_below hC HL.out.1) (byte_rd hrow.1) (by have := hrow.2; omega) hlc (PatO_below HP.out HL.out.1))
              generalize rows.getD (lineK now (-1) rows.length k) [] = line at hy HF HO
              clear hlc hC hrow
              generalize lineK now (-1) rows.length k = idx at hy hq hlt HO
              generalize findV line pl 0 = r at HF HO
              obtain ⟨r1, r2, r3⟩ := r
              simp only at HO HF
              have q4 : (0 ≤ (idx : Int)) = True := eq_true (by omega)
              have q5 : ((idx : Int) < (rows.length : Int)) = True := eq_true (by omega)
              have q6 : ((rows.length : Int) = 0) = False := eq_false (by omega)
              cases r3 with
              | false =>
                go_wp2_with (go_at_call 43; (with_reducible refine HF.out.mono ?_); rintro e w2 ⟨rfl, hx2⟩; have HX := Aside0.mk hx2; clear hx2)
                go_roundg g
                case measure => omega
                case rel => exact ⟨k + 1, by omega, by omega, by go_num, ⟨below_step HL.out.1 HX.out, by have h := HO.out; rw [if_neg (by simp)] at h; exact h⟩⟩
              | true =>
                obtain rfl := (show ((idx : Int) + 1, (0 : Int)) = out from by have h := HO.out; rw [if_pos rfl] at h; exact h)
                go_wp2_with (go_at_call 43; (with_reducible refine HF.out.mono ?_); rintro e w2 ⟨rfl, hx2⟩; have HX := Aside0.mk hx2; clear hx2)
                exact bodyPost_ret (v := .tuple #[.int .i64 ((idx : Int) + 1), .int .i64 0]) (by simp [results, Tryd.results39, go_sem]) rfl ⟨rfl, below_step H1.out.1 (below_step HS.out.2 (below_step HL.out.1 HX.out))⟩
        · simp only [hs]
          have q2 : (base == 63) = false := beq_eq_false_iff_ne.2 hb
          clear hs hb
          have HV := Aside0.mk (show seekV rows pl now 1 rows.length 1 = seekV rows pl now 1 rows.length 1 from rfl)
          generalize hout : seekV rows pl now 1 rows.length 1 = out at HV ⊢
          clear HV
          have HO := Aside0.mk hout
          clear hout
          go_enter Tryd.func39, Tryd.ntmps39
          go_wp2_with (first
            | (go_at_call 19; (with_reducible refine (HC.out _ HB.out).mono ?_); rintro e w1 ⟨v1, rfl, hy, hp⟩; have H1 := Aside0.mk (And.intro (below_step HB.out hy) hp); have BK1 := Aside0.mk (blk_below BX.out hy); clear hy hp)
            | (go_at_call 42; (with_reducible refine (HSP.out _ H1.out.1).mono ?_); rintro e W1 ⟨vs, rfl, hy1, hy2⟩; have HS := Aside0.mk (And.intro hy1 hy2); clear hy1 hy2; obtain ⟨AS, cS, eS⟩ := Kd.R_slice (Kd.S_R HS.out.1); subst eS; have HP := Aside0.mk (PatO_below H1.out.2 HS.out.2); have i9 := (blk_cell (blk_below BK1.out HS.out.2) 0).trans rfl))
          have HK := Aside0.mk (Kd.R_reads' (Kd.S_R HS.out.1)).2.2
          clear i0 i3 i9 q0 q2
          go_loopg [16] rows.length (fun g v16 wl => ∃ k : Nat, k + g = rows.length + 1 ∧ 1 ≤ k ∧ v16 = .int .i64 k ∧ Aside0 (Below W1.heap.size W1 wl ∧ seekV rows pl now 1 g k = out))
          case atStart => exact ⟨1, by omega, Nat.le_refl _, rfl, ⟨Below.refl _ _, HO.out⟩⟩
          case round =>
            obtain ⟨k, hk, hk1, rfl, HL⟩ := hrel
            clear HO
            cases gk with
            | zero =>
              have q3 : ((k : Int) ≤ (rows.length : Int)) = False := eq_false (by omega)
              obtain rfl := (show ((0 : Int), (120 : Int)) = out from HL.out.2)
              go_wp2
              exact bodyPost_ret (v := .tuple #[.int .i64 0, .int .i64 120]) (by simp [results, Tryd.results39, go_sem]) rfl ⟨rfl, below_step H1.out.1 (below_step HS.out.2 HL.out.1)⟩
            | succ g =>
              have q3 : ((k : Int) ≤ (rows.length : Int)) = True := eq_true (by omega)
              have hnn : (0 : Int) < (rows.length : Int) := by omega
              have hidx : ((lineK now 1 rows.length k : Nat) : Int) = (now - 1 + (k : Int) * 1) % (rows.length : Int) := Int.toNat_of_nonneg (Int.emod_nonneg _ (by omega))
              have hlt : lineK now 1 rows.length k < rows.length := by have h := Int.emod_lt_of_pos (now - 1 + (k : Int) * 1) hnn; omega
              have hke : (k : Int) * 1 = (k : Int) := by omega
              have hq : ((now - 1 + (k : Int)) % (rows.length : Int) + (rows.length : Int)).tmod (rows.length : Int) = ((lineK now 1 rows.length k : Nat) : Int) := by rw [← Int.tmod_eq_emod_of_nonneg (a := now - 1 + (k : Int)) (by omega), rem_eq hnn, hidx, hke]
              have hq2 : ((now - 1 + (k : Int)) % (rows.length : Int) + (rows.length : Int)) % (rows.length : Int) = ((lineK now 1 rows.length k : Nat) : Int) := by rw [Int.add_emod_right, Int.emod_emod_of_dvd _ (Int.dvd_refl _), hidx, hke]
              have hq3 : (now - 1 + (k : Int)) % (rows.length : Int) = ((lineK now 1 rows.length k : Nat) : Int) := by rw [hidx, hke]
              have htm : 0 ≤ (now - 1 + (k : Int)) % (rows.length : Int) := Int.emod_nonneg _ (by omega)
              have htm2 : (now - 1 + (k : Int)) % (rows.length : Int) < (rows.length : Int) := Int.emod_lt_of_pos _ hnn
              have HD := Aside0.mk (show seekV rows pl now 1 (g + 1) k = if (findV (rows.getD (lineK now 1 rows.length k) []) pl 0).2.2 = true then ((lineK now 1 rows.length k : Int) + 1, 0) else seekV rows pl now 1 g (k + 1) from rfl)
              have HO := Aside0.mk HL.out.2
              rw [HD.out] at HO
              clear HD hidx hke
              obtain ⟨ad, A', c', rfl, hy, hlc, hC⟩ := line_of HK.out hlt
              replace hy := pw_cell_below HL.out.1 hy
              have hrow := HBY.out (rows.getD (lineK now 1 rows.length k) []) (by rw [List.getD_eq_getElem?_getD, List.getElem?_eq_getElem hlt]; exact List.getElem_mem hlt)
              have HF := Aside0.mk (find_calls (from_ := 0) (Kd.C_below hC HL.out.1) (byte_rd hrow.1) (by have := hrow.2; omega) hlc (PatO_below HP.out HL.out.1))
              generalize rows.getD (lineK now 1 rows.length k) [] = line at hy HF HO
              clear hlc hC hrow
              generalize lineK now 1 rows.length k = idx at hy hq hq2 hq3 hlt HO
              have hq4 : (idx : Int) % (rows.length : Int) = (idx : Int) := Int.emod_eq_of_lt (by omega) (by omega)
              generalize findV line pl 0 = r at HF HO
              obtain ⟨r1, r2, r3⟩ := r
              simp only at HO HF
              have q4 : (0 ≤ (idx : Int)) = True := eq_true (by omega)
              have q5 : ((idx : Int) < (rows.length : Int)) = True := eq_true (by omega)
              have q6 : ((rows.length : Int) = 0) = False := eq_false (by omega)
              cases r3 with
              | false =>
                go_wp2_with (go_at_call 43; (with_reducible refine HF.out.mono ?_); rintro e w2 ⟨rfl, hx2⟩; have HX := Aside0.mk hx2; clear hx2)
                go_roundg g
                case measure => omega
                case rel => exact ⟨k + 1, by omega, by omega, by go_num, ⟨below_step HL.out.1 HX.out, by have h := HO.out; rw [if_neg (by simp)] at h; exact h⟩⟩
              | true =>
                obtain rfl := (show ((idx : Int) + 1, (0 : Int)) = out from by have h := HO.out; rw [if_pos rfl] at h; exact h)
                go_wp2_with (go_at_call 43; (with_reducible refine HF.out.mono ?_); rintro e w2 ⟨rfl, hx2⟩; have HX := Aside0.mk hx2; clear hx2)
                exact bodyPost_ret (v := .tuple #[.int .i64 ((idx : Int) + 1), .int .i64 0]) (by simp [results, Tryd.results39, go_sem]) rfl ⟨rfl, below_step H1.out.1 (below_step HS.out.2 (below_step HL.out.1 HX.out))⟩
  · have qx : ((x.length : Int) == 0) = false := by rw [beq_eq_false_iff_ne]; omega
    have H0 := Aside0.mk h0
    clear h0
    have hS : searchA t now hunt base x = if x.length = 0 then (0, 120) else match (compileV x).1 with
      | none => (0, (compileV x).2.2)
      | some pl => seekV (X.splitR t) pl now (signV base) (X.splitR t).length 1 := by unfold searchA; rw [show textV x hunt = x from if_neg H0.out]
    rw [hS]
    clear hS
    have HC := Aside0.mk (fun (W : World) (h : Below w.heap.size w W) => compile_calls (w := W) (c := cx) (Kd.C_below hx h) (byte_rd bx))
    have hce := compile_err x
    generalize X.splitR t = rows at HSP HBY hrl hn2 ⊢
    generalize compileV x = cv at HC hce ⊢
    obtain ⟨co, ci, ce⟩ := cv
    simp only at hce HC ⊢
    clear hh bh hx bx
    have Hx := Aside0.mk (show 0 ≤ x.length from Nat.zero_le _)
    by_cases hz : x.length = 0
    · exact absurd hz H0.out
    · rw [if_neg hz]
      have q0 : ((x.length : Int) == 0) = false := by rw [beq_eq_false_iff_ne]; omega
      clear hz
      cases co with
      | none =>
        have q1 : (ce != 0) = true := by
          rcases hce with h | ⟨_, h, _⟩
          · exact bne_iff_ne.2 h.2
          · cases h
        clear hce
        go_enter Tryd.func39, Tryd.ntmps39
        go_wp2_with (go_at_call 19; (with_reducible refine (HC.out _ HB.out).mono ?_); rintro e w1 ⟨v1, rfl, hy, hp⟩; have H1 := Aside0.mk (below_step HB.out hy); clear hy hp)
        exact bodyPost_ret (v := .tuple #[.int .i64 0, .int .i64 ce]) (by simp [results, Tryd.results39, go_sem]) rfl ⟨rfl, H1.out⟩
      | some pl =>
        obtain rfl : ce = 0 := by
          rcases hce with h | ⟨_, _, h⟩
          · cases h.1
          · exact h
        clear hce
        have hsg : (base = 63 ∧ signV base = -1) ∨ (base ≠ 63 ∧ signV base = 1) := by
          unfold signV
          by_cases h : base = 63
          · exact .inl ⟨h, if_pos h⟩
          · exact .inr ⟨h, if_neg h⟩
        rcases hsg with ⟨hb, hs⟩ | ⟨hb, hs⟩
        · simp only [hs]
          have q2 : (base == 63) = true := by rw [hb]; rfl
          clear hs hb
          have HV := Aside0.mk (show seekV rows pl now (-1) rows.length 1 = seekV rows pl now (-1) rows.length 1 from rfl)
          generalize hout : seekV rows pl now (-1) rows.length 1 = out at HV ⊢
          clear HV
          have HO := Aside0.mk hout
          clear hout
          go_enter Tryd.func39, Tryd.ntmps39
          go_wp2_with (first
            | (go_at_call 19; (with_reducible refine (HC.out _ HB.out).mono ?_); rintro e w1 ⟨v1, rfl, hy, hp⟩; have H1 := Aside0.mk (And.intro (below_step HB.out hy) hp); have BK1 := Aside0.mk (blk_below BX.out hy); clear hy hp)
            | (go_at_call 42; (with_reducible refine (HSP.out _ H1.out.1).mono ?_); rintro e W1 ⟨vs, rfl, hy1, hy2⟩; have HS := Aside0.mk (And.intro hy1 hy2); clear hy1 hy2; obtain ⟨AS, cS, eS⟩ := Kd.R_slice (Kd.S_R HS.out.1); subst eS; have HP := Aside0.mk (PatO_below H1.out.2 HS.out.2); have i9 := (blk_cell (blk_below BK1.out HS.out.2) 0).trans rfl))
          have HK := Aside0.mk (Kd.R_reads' (Kd.S_R HS.out.1)).2.2
          clear i0 i3 i9 q0 q2
          go_loopg [16] rows.length (fun g v16 wl => ∃ k : Nat, k + g = rows.length + 1 ∧ 1 ≤ k ∧ v16 = .int .i64 k ∧ Aside0 (Below W1.heap.size W1 wl ∧ seekV rows pl now (-1) g k = out))
          case atStart => exact ⟨1, by omega, Nat.le_refl _, rfl, ⟨Below.refl _ _, HO.out⟩⟩
          case round =>
            obtain ⟨k, hk, hk1, rfl, HL⟩ := hrel
            clear HO
            cases gk with
            | zero =>
              have q3 : ((k : Int) ≤ (rows.length : Int)) = False := eq_false (by omega)
              obtain rfl := (show ((0 : Int), (120 : Int)) = out from HL.out.2)
              go_wp2
              exact bodyPost_ret (v := .tuple #[.int .i64 0, .int .i64 120]) (by simp [results, Tryd.results39, go_sem]) rfl ⟨rfl, below_step H1.out.1 (below_step HS.out.2 HL.out.1)⟩
            | succ g =>
              have q3 : ((k : Int) ≤ (rows.length : Int)) = True := eq_true (by omega)
              have hnn : (0 : Int) < (rows.length : Int) := by omega
              have hidx : ((lineK now (-1) rows.length k : Nat) : Int) = (now - 1 + (k : Int) * (-1)) % (rows.length : Int) := Int.toNat_of_nonneg (Int.emod_nonneg _ (by omega))
              have hlt : lineK now (-1) rows.length k < rows.length := by have h := Int.emod_lt_of_pos (now - 1 + (k : Int) * (-1)) hnn; omega
              have hke : (k : Int) * (-1) = -(k : Int) := by omega
              have hq : ((now - 1 + -(k : Int)).tmod (rows.length : Int) + (rows.length : Int)).tmod (rows.length : Int) = ((lineK now (-1) rows.length k : Nat) : Int) := by rw [rem_eq hnn, hidx, hke]
              have htm : -(rows.length : Int) < (now - 1 + -(k : Int)).tmod (rows.length : Int) := Int.lt_tmod_of_pos _ hnn
              have htm2 : (now - 1 + -(k : Int)).tmod (rows.length : Int) < (rows.length : Int) := Int.tmod_lt_of_pos _ hnn
              have HD := Aside0.mk (show seekV rows pl now (-1) (g + 1) k = if (findV (rows.getD (lineK now (-1) rows.length k) []) pl 0).2.2 = true then ((lineK now (-1) rows.length k : Int) + 1, 0) else seekV rows pl now (-1) g (k + 1) from rfl)
              have HO := Aside0.mk HL.out.2
              rw [HD.out] at HO
              clear HD hidx hke
              obtain ⟨ad, A', c', rfl, hy, hlc, hC⟩ := line_of HK.out hlt
              replace hy := pw_cell_below HL.out.1 hy
              have hrow := HBY.out (rows.getD (lineK now (-1) rows.length k) []) (by rw [List.getD_eq_getElem?_getD, List.getElem?_eq_getElem hlt]; exact List.getElem_mem hlt)
              have HF := Aside0.mk (find_calls (from_ := 0) (Kd.C_below hC HL.out.1) (byte_rd hrow.1) (by have := hrow.2; omega) hlc (PatO_below HP.out HL.out.1))
              generalize rows.getD (lineK now (-1) rows.length k) [] = line at hy HF HO
              clear hlc hC hrow
              generalize lineK now (-1) rows.length k = idx at hy hq hlt HO
              generalize findV line pl 0 = r at HF HO
              obtain ⟨r1, r2, r3⟩ := r
              simp only at HO HF
              have q4 : (0 ≤ (idx : Int)) = True := eq_true (by omega)
              have q5 : ((idx : Int) < (rows.length : Int)) = True := eq_true (by omega)
              have q6 : ((rows.length : Int) = 0) = False := eq_false (by omega)
              cases r3 with
              | false =>
                go_wp2_with (go_at_call 43; (with_reducible refine HF.out.mono ?_); rintro e w2 ⟨rfl, hx2⟩; have HX := Aside0.mk hx2; clear hx2)
                go_roundg g
                case measure => omega
                case rel => exact ⟨k + 1, by omega, by omega, by go_num, ⟨below_step HL.out.1 HX.out, by have h := HO.out; rw [if_neg (by simp)] at h; exact h⟩⟩
              | true =>
                obtain rfl := (show ((idx : Int) + 1, (0 : Int)) = out from by have h := HO.out; rw [if_pos rfl] at h; exact h)
                go_wp2_with (go_at_call 43; (with_reducible refine HF.out.mono ?_); rintro e w2 ⟨rfl, hx2⟩; have HX := Aside0.mk hx2; clear hx2)
                exact bodyPost_ret (v := .tuple #[.int .i64 ((idx : Int) + 1), .int .i64 0]) (by simp [results, Tryd.results39, go_sem]) rfl ⟨rfl, below_step H1.out.1 (below_step HS.out.2 (below_step HL.out.1 HX.out))⟩
        · simp only [hs]
          have q2 : (base == 63) = false := beq_eq_false_iff_ne.2 hb
          clear hs hb
          have HV := Aside0.mk (show seekV rows pl now 1 rows.length 1 = seekV rows pl now 1 rows.length 1 from rfl)
          generalize hout : seekV rows pl now 1 rows.length 1 = out at HV ⊢
          clear HV
          have HO := Aside0.mk hout
          clear hout
          go_enter Tryd.func39, Tryd.ntmps39
          go_wp2_with (first
            | (go_at_call 19; (with_reducible refine (HC.out _ HB.out).mono ?_); rintro e w1 ⟨v1, rfl, hy, hp⟩; have H1 := Aside0.mk (And.intro (below_step HB.out hy) hp); have BK1 := Aside0.mk (blk_below BX.out hy); clear hy hp)
            | (go_at_call 42; (with_reducible refine (HSP.out _ H1.out.1).mono ?_); rintro e W1 ⟨vs, rfl, hy1, hy2⟩; have HS := Aside0.mk (And.intro hy1 hy2); clear hy1 hy2; obtain ⟨AS, cS, eS⟩ := Kd.R_slice (Kd.S_R HS.out.1); subst eS; have HP := Aside0.mk (PatO_below H1.out.2 HS.out.2); have i9 := (blk_cell (blk_below BK1.out HS.out.2) 0).trans rfl))
          have HK := Aside0.mk (Kd.R_reads' (Kd.S_R HS.out.1)).2.2
          clear i0 i3 i9 q0 q2
          go_loopg [16] rows.length (fun g v16 wl => ∃ k : Nat, k + g = rows.length + 1 ∧ 1 ≤ k ∧ v16 = .int .i64 k ∧ Aside0 (Below W1.heap.size W1 wl ∧ seekV rows pl now 1 g k = out))
          case atStart => exact ⟨1, by omega, Nat.le_refl _, rfl, ⟨Below.refl _ _, HO.out⟩⟩
          case round =>
            obtain ⟨k, hk, hk1, rfl, HL⟩ := hrel
            clear HO
            cases gk with
            | zero =>
              have q3 : ((k : Int) ≤ (rows.length : Int)) = False := eq_false (by omega)
              obtain rfl := (show ((0 : Int), (120 : Int)) = out from HL.out.2)
              go_wp2
              exact bodyPost_ret (v := .tuple #[.int .i64 0, .int .i64 120]) (by simp [results, Tryd.results39, go_sem]) rfl ⟨rfl, below_step H1.out.1 (below_step HS.out.2 HL.out.1)⟩
            | succ g =>
              have q3 : ((k : Int) ≤ (rows.length : Int)) = True := eq_true (by omega)
              have hnn : (0 : Int) < (rows.length : Int) := by omega
              have hidx : ((lineK now 1 rows.length k : Nat) : Int) = (now - 1 + (k : Int) * 1) % (rows.length : Int) := Int.toNat_of_nonneg (Int.emod_nonneg _ (by omega))
              have hlt : lineK now 1 rows.length k < rows.length := by have h := Int.emod_lt_of_pos (now - 1 + (k : Int) * 1) hnn; omega
              have hke : (k : Int) * 1 = (k : Int) := by omega
              have hq : ((now - 1 + (k : Int)) % (rows.length : Int) + (rows.length : Int)).tmod (rows.length : Int) = ((lineK now 1 rows.length k : Nat) : Int) := by rw [← Int.tmod_eq_emod_of_nonneg (a := now - 1 + (k : Int)) (by omega), rem_eq hnn, hidx, hke]
              have hq2 : ((now - 1 + (k : Int)) % (rows.length : Int) + (rows.length : Int)) % (rows.length : Int) = ((lineK now 1 rows.length k : Nat) : Int) := by rw [Int.add_emod_right, Int.emod_emod_of_dvd _ (Int.dvd_refl _), hidx, hke]
              have hq3 : (now - 1 + (k : Int)) % (rows.length : Int) = ((lineK now 1 rows.length k : Nat) : Int) := by rw [hidx, hke]
              have htm : 0 ≤ (now - 1 + (k : Int)) % (rows.length : Int) := Int.emod_nonneg _ (by omega)
              have htm2 : (now - 1 + (k : Int)) % (rows.length : Int) < (rows.length : Int) := Int.emod_lt_of_pos _ hnn
              have HD := Aside0.mk (show seekV rows pl now 1 (g + 1) k = if (findV (rows.getD (lineK now 1 rows.length k) []) pl 0).2.2 = true then ((lineK now 1 rows.length k : Int) + 1, 0) else seekV rows pl now 1 g (k + 1) from rfl)
              have HO := Aside0.mk HL.out.2
              rw [HD.out] at HO
              clear HD hidx hke
              obtain ⟨ad, A', c', rfl, hy, hlc, hC⟩ := line_of HK.out hlt
              replace hy := pw_cell_below HL.out.1 hy
              have hrow := HBY.out (rows.getD (lineK now 1 rows.length k) []) (by rw [List.getD_eq_getElem?_getD, List.getElem?_eq_getElem hlt]; exact List.getElem_mem hlt)
              have HF := Aside0.mk (find_calls (from_ := 0) (Kd.C_below hC HL.out.1) (byte_rd hrow.1) (by have := hrow.2; omega) hlc (PatO_below HP.out HL.out.1))
              generalize rows.getD (lineK now 1 rows.length k) [] = line at hy HF HO
              clear hlc hC hrow
              generalize lineK now 1 rows.length k = idx at hy hq hq2 hq3 hlt HO
              have hq4 : (idx : Int) % (rows.length : Int) = (idx : Int) := Int.emod_eq_of_lt (by omega) (by omega)
              generalize findV line pl 0 = r at HF HO
              obtain ⟨r1, r2, r3⟩ := r
              simp only at HO HF
              have q4 : (0 ≤ (idx : Int)) = True := eq_true (by omega)
              have q5 : ((idx : Int) < (rows.length : Int)) = True := eq_true (by omega)
              have q6 : ((rows.length : Int) = 0) = False := eq_false (by omega)
              cases r3 with
              | false =>
                go_wp2_with (go_at_call 43; (with_reducible refine HF.out.mono ?_); rintro e w2 ⟨rfl, hx2⟩; have HX := Aside0.mk hx2; clear hx2)
                go_roundg g
                case measure => omega
                case rel => exact ⟨k + 1, by omega, by omega, by go_num, ⟨below_step HL.out.1 HX.out, by have h := HO.out; rw [if_neg (by simp)] at h; exact h⟩⟩
              | true =>
                obtain rfl := (show ((idx : Int) + 1, (0 : Int)) = out from by have h := HO.out; rw [if_pos rfl] at h; exact h)
                go_wp2_with (go_at_call 43; (with_reducible refine HF.out.mono ?_); rintro e w2 ⟨rfl, hx2⟩; have HX := Aside0.mk hx2; clear hx2)
                exact bodyPost_ret (v := .tuple #[.int .i64 ((idx : Int) + 1), .int .i64 0]) (by simp [results, Tryd.results39, go_sem]) rfl ⟨rfl, below_step H1.out.1 (below_step HS.out.2 (below_step HL.out.1 HX.out))⟩
end Go.Proofs.YtdhdngoeaneanaaDoor.PT
