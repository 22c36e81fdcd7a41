/-
  Texts of one proof in one file (wip/some.py): AI, AT1, AT2, AT3, AT4, AT5.
  Conditions: none.
-/
import Derived.Shelf.Strconv.AppendIntPublic10
import Derived.Test.YtdhdngoeaneanaaDoorProg
import Derived.Test.YtdhdngoeaneanaaDoorPTE
import Derived.Test.YtdhdngoeaneanaaDoorX38
import Derived.Lib.Hide
import Derived.Test.YtdhdngoeaneanaaDoorX8
import Derived.Deep.QuietTactic
import Derived.BigQuiet
import Derived.Lib.ItoaLen
import Derived.Test.YtdhdngoeaneanaaDoorXC
import Derived.Lib.SlBytesConst
import Derived.Deep.MidRow
import Derived.Laws.CopyOwn
import Derived.Test.YtdhdngoeaneanaaDoorX7
section
namespace Go.Proofs
open Go.Shelf
def Tryd.lays176_ren : Go.Shelf.Ren := ⟨fun | 176 => 29 | 249 => 50 | 288 => 70 | 283 => 87 | 284 => 88 | 285 => 89 | 286 => 90 | 129 => 96 | 317 => 95 | 318 => 97 | 319 => 98 | 320 => 99 | 337 => 105 | 338 => 106 | n => n, fun | 37 => 22 | 2 => 2 | 3 => 3 | 53 => 107 | 4 => 4 | 9 => 9 | 171 => 129 | 0 => 0 | 173 => 132 | 212 => 141 | 51 => 135 | 5 => 5 | 20 => 20 | 213 => 142 | 46 => 119 | 232 => 149 | 233 => 150 | n => n, fun | 17 => 1 | 18 => 2 | 19 => 3 | n => n⟩
theorem Tryd.lays176 : Go.Proofs.LaysM.n176 Tryd.prog Tryd.lays176_ren := {
  mixed := by kernel_rfl
  f129 := Tryd.func96.trans (congrArg some (by kernel_rfl))
  f176 := Tryd.func29.trans (congrArg some (by kernel_rfl))
  f249 := Tryd.func50.trans (congrArg some (by kernel_rfl))
  f283 := Tryd.func87.trans (congrArg some (by kernel_rfl))
  f284 := Tryd.func88.trans (congrArg some (by kernel_rfl))
  f285 := Tryd.func89.trans (congrArg some (by kernel_rfl))
  f286 := Tryd.func90.trans (congrArg some (by kernel_rfl))
  f288 := Tryd.func70.trans (congrArg some (by kernel_rfl))
  f317 := Tryd.func95.trans (congrArg some (by kernel_rfl))
  f318 := Tryd.func97.trans (congrArg some (by kernel_rfl))
  f319 := Tryd.func98.trans (congrArg some (by kernel_rfl))
  f320 := Tryd.func99.trans (congrArg some (by kernel_rfl))
  f337 := Tryd.func105.trans (congrArg some (by kernel_rfl))
  f338 := Tryd.func106.trans (congrArg some (by kernel_rfl))
  t0 := Tryd.underlying0
  a0 := Tryd.isAgg0
  z0 := Tryd.sizeOf0
  v0 := Tryd.zeroValue0
  t2 := Tryd.underlying2
  a2 := Tryd.isAgg2
  z2 := Tryd.sizeOf2
  v2 := Tryd.zeroValue2
  t3 := Tryd.underlying3
  a3 := Tryd.isAgg3
  z3 := Tryd.sizeOf3
  v3 := Tryd.zeroValue3
  t4 := Tryd.underlying4
  a4 := Tryd.isAgg4
  z4 := Tryd.sizeOf4
  v4 := Tryd.zeroValue4
  t5 := Tryd.underlying5
  a5 := Tryd.isAgg5
  z5 := Tryd.sizeOf5
  v5 := Tryd.zeroValue5
  t9 := Tryd.underlying9
  a9 := Tryd.isAgg9
  z9 := Tryd.sizeOf9
  v9 := Tryd.zeroValue9
  t20 := Tryd.underlying20
  a20 := Tryd.isAgg20
  z20 := Tryd.sizeOf20
  v20 := Tryd.zeroValue20
  t37 := Tryd.underlying22
  a37 := Tryd.isAgg22
  z37 := Tryd.sizeOf22
  v37 := Tryd.zeroValue22
  t46 := Tryd.underlying119
  a46 := Tryd.isAgg119
  z46 := Tryd.sizeOf119
  v46 := Tryd.zeroValue119
  t51 := Tryd.underlying135
  a51 := Tryd.isAgg135
  z51 := Tryd.sizeOf135
  v51 := Tryd.zeroValue135
  t53 := Tryd.underlying107
  a53 := Tryd.isAgg107
  z53 := Tryd.sizeOf107
  v53 := Tryd.zeroValue107
  t171 := Tryd.underlying129
  a171 := Tryd.isAgg129
  z171 := Tryd.sizeOf129
  v171 := Tryd.zeroValue129
  t173 := Tryd.underlying132
  a173 := Tryd.isAgg132
  z173 := Tryd.sizeOf132
  v173 := Tryd.zeroValue132
  t212 := Tryd.underlying141
  a212 := Tryd.isAgg141
  z212 := Tryd.sizeOf141
  v212 := Tryd.zeroValue141
  t213 := Tryd.underlying142
  a213 := Tryd.isAgg142
  z213 := Tryd.sizeOf142
  t232 := Tryd.underlying149
  a232 := Tryd.isAgg149
  z232 := Tryd.sizeOf149
  v232 := Tryd.zeroValue149
  t233 := Tryd.underlying150
  a233 := Tryd.isAgg150
  z233 := Tryd.sizeOf150
  v233 := Tryd.zeroValue150
  g17 := by kernel_rfl
  g18 := by kernel_rfl
  g19 := by kernel_rfl
  i0 := by kernel_rfl
  i2 := by kernel_rfl
  i3 := by kernel_rfl
  i4 := by kernel_rfl
  i5 := by kernel_rfl
  i9 := by kernel_rfl
  i20 := by kernel_rfl
  i37 := by kernel_rfl
  i46 := by kernel_rfl
  i51 := by kernel_rfl
  i53 := by kernel_rfl
  i171 := by kernel_rfl
  i173 := by kernel_rfl
  i212 := by kernel_rfl
  i232 := by kernel_rfl
  i233 := by kernel_rfl
  m17 := by kernel_rfl
  m18 := by kernel_rfl
  m19 := by kernel_rfl }
end Go.Proofs
end
section
namespace Go.Proofs.YtdhdngoeaneanaaDoor.PT
open Go.RowKit Go.Proofs.YtdhdngoeaneanaaDoorW.PrintWords Go.Proofs.YtdhdngoeaneanaaDoorW.PrintMore
set_option linter.unusedVariables false
set_option linter.unusedSimpArgs false
theorem split_len (t : List Int) : (X.splitR t).length ≤ t.length + 1 := by
  induction t with
  | nil => exact Nat.le_refl _
  | cons x t ih =>
    unfold X.splitR
    by_cases h : x = 10
    · rw [if_pos h, List.length_cons, List.length_cons]; omega
    · rw [if_neg h]
      cases e : X.splitR t with
      | nil => exact absurd e (X.splitR_ne t)
      | cons p r => rw [e] at ih; simp only [List.length_cons] at ih ⊢; omega
theorem split_bytes {P : Int → Prop} (t : List Int) (h : ∀ x ∈ t, P x) : ∀ l ∈ X.splitR t, (∀ x ∈ l, P x) ∧ l.length ≤ t.length := by
  induction t with
  | nil => intro l hl; simp [X.splitR] at hl; subst hl; exact ⟨fun x hx => (by cases hx), Nat.le_refl _⟩
  | cons y t ih =>
    intro l hl
    unfold X.splitR at hl
    have ih' := ih (fun z hz => h z (by simp [hz]))
    by_cases hy : y = 10
    · rw [if_pos hy] at hl
      rcases List.mem_cons.1 hl with e | e
      · subst e; exact ⟨fun x hx => (by cases hx), Nat.zero_le _⟩
      · exact ⟨(ih' l e).1, by have := (ih' l e).2; rw [List.length_cons]; omega⟩
    · rw [if_neg hy] at hl
      cases e : X.splitR t with
      | nil => exact absurd e (X.splitR_ne t)
      | cons p r =>
        rw [e] at hl ih'
        rcases List.mem_cons.1 hl with e2 | e2
        · subst e2
          refine ⟨fun x hx => ?_, by have := (ih' p (by simp)).2; simp only [List.length_cons]; omega⟩
          rcases List.mem_cons.1 hx with e3 | e3
          · subst e3; exact h _ (by simp)
          · exact (ih' p (by simp)).1 x e3
        · exact ⟨(ih' l (by simp [e2])).1, by have := (ih' l (by simp [e2])).2; rw [List.length_cons]; omega⟩
theorem rd_mem {P : Int → Prop} (l : List Int) (h : ∀ x ∈ l, P x) (h0 : P 0) (i : Int) : P (rd l i) := by
  unfold rd
  rw [List.getD_eq_getElem?_getD]
  cases e : l[i.toNat]? with
  | none => exact h0
  | some x => exact h x (List.mem_of_getElem? e)
/-- A line of the split, in memory. -/
theorem line_of {w : World} {A : Option Addr} {n : Nat} {ls : List (List Int)} (h : (Kd.slice 5 (Kd.int .u8)).C w A n ls) {i : Nat} (hi : i < n) : ∃ ad A' c', A = some ad ∧ w.cell? (ad.add i) = some (.slice A' (ls.getD i []).length c') ∧ (ls.getD i []).length ≤ c' ∧ Kd.C (Kd.int .u8) w A' (ls.getD i []).length (ls.getD i []) := by
  obtain ⟨ad, c, rfl, hc, hk, hcc⟩ := Kd.C_get h [] (i : Int) (by omega) (by omega)
  rw [Int.toNat_natCast] at hk hcc
  obtain ⟨A', c', rfl, e0, e1⟩ := hk
  refine ⟨ad, A', c', rfl, ?_, e0, e1⟩
  have h2 := hcc 0 _ rfl
  simpa [Kd.slice] using h2
theorem u8_C {w : World} {b : Nat} {xs : List Int} {fr : Nat × Nat} (h : w.heap[b]? = some (.cells (xs.map (Value.int .u8)).toArray 5 fr)) (hl : xs.length ≤ 281474976710656) : Kd.C (Kd.int .u8) w (some ⟨b, 0, none⟩) xs.length xs := by
  refine Kd.C_of_reads (enc := Value.int .u8) (d := (0 : Int)) (h1 := fun _ => rfl) ⟨rfl, by omega, fun _ => ⟨_, rfl, fun j hj => ?_⟩⟩
  have h1 : w.cell? ⟨b, j, none⟩ = some (.int .u8 (xs.getD j 0)) := (cell_of_row w b j _ _ _ h).trans (by rw [List.getD_eq_getElem?_getD]; simp [hj])
  cases j with
  | zero => simpa [Addr.add] using h1
  | succ j => simpa [Addr.add] using h1
def byte (l : List Int) : Prop := ∀ x ∈ l, 0 ≤ x ∧ x ≤ 255
theorem byte_u8s {l : List Int} (h : byte l) : X.u8s l = true := List.all_eq_true.2 fun x hx => decide_eq_true (h x hx)
theorem byte_rd {l : List Int} (h : byte l) : ∀ i, 0 ≤ rd l i ∧ rd l i ≤ 255 := rd_mem (P := fun x => 0 ≤ x ∧ x ≤ 255) l h (by decide)
theorem PatO_below {w w' : World} {base : Nat} {v : Value} {o : Option (List PTh)} (h : PatO w base v o) (hb : Below w.heap.size w w') : PatO w' base v o := by
  cases o with
  | none => exact h
  | some pl =>
    obtain ⟨b, A1, c1, l, e1, e2, e3, e4, e5, e6, e7⟩ := h
    exact ⟨b, A1, c1, l, e1, e2, blk_below e3 hb, Kd.R_below e4 hb, fun x hx => SetAt_below (e5 x hx) hb, e6, e7⟩
/-- The line that round k looks at, from 0 on. -/
def lineK (now s : Int) (n k : Nat) : Nat := ((now - 1 + (k : Int) * s) % (n : Int)).toNat
/-- From round k on, g rounds are left. -/
def seekV (rows : List (List Int)) (pl : List PTh) (now s : Int) : Nat → Nat → Int × Int
  | 0, _ => (0, 120)
  | g + 1, k => if (findV (rows.getD (lineK now s rows.length k) []) pl 0).2.2 = true then ((lineK now s rows.length k : Int) + 1, 0) else seekV rows pl now s g (k + 1)
def signV (base : Int) : Int := if base = 63 then -1 else 1
def textV (x hunt : List Int) : List Int := if x.length = 0 then hunt else x
def searchA (t : List Int) (now : Int) (hunt : List Int) (base : Int) (x : List Int) : Int × Int :=
  if (textV x hunt).length = 0 then (0, 120) else match (compileV (textV x hunt)).1 with
  | none => (0, (compileV (textV x hunt)).2.2)
  | some pl => seekV (X.splitR t) pl now (signV base) (X.splitR t).length 1
theorem compile_err (p : List Int) : ((compileV p).1 = none ∧ (compileV p).2.2 ≠ 0) ∨ (∃ pl, (compileV p).1 = some pl ∧ (compileV p).2.2 = 0) := by
  unfold compileV
  split
  · exact .inl ⟨rfl, show (1 : Int) ≠ 0 by decide⟩
  · split
    · exact .inl ⟨rfl, show (110 : Int) ≠ 0 by decide⟩
    · exact .inr ⟨_, rfl, rfl⟩
theorem rem_eq {a n : Int} (h : 0 < n) : (Int.tmod a n + n).tmod n = a % n := by
  have h1 : 0 ≤ Int.tmod a n + n := by have := Int.lt_tmod_of_pos a h; omega
  rw [Int.tmod_eq_emod_of_nonneg h1]
  have h2 := Int.mul_tdiv_add_tmod a n
  have h3 : Int.tmod a n + n = a + n * (1 - Int.tdiv a n) := by rw [Int.mul_sub]; omega
  rw [h3, Int.add_mul_emod_self_left]
set_option maxHeartbeats 4000000 in
set_option maxRecDepth 100000 in
theorem search_calls {w : World} {A Ah Ax : Option Addr} {c ch cx : Nat} {t hunt x : List Int} {now base num name add : Int} {given : Bool} (hr : Kd.C (Kd.int .u8) w A t.length t) (hc : t.length ≤ c) (ht : byte t)
    (hh : Kd.C (Kd.int .u8) w Ah hunt.length hunt) (bh : byte hunt) (hx : Kd.C (Kd.int .u8) w Ax x.length x) (bx : byte x) (hl : t.length ≤ 1048576) (hn1 : 1 ≤ now) (hn2 : now ≤ (X.splitR t).length) :
    Calls Tryd.prog 39 #[.slice A t.length c, .int .i64 now, .slice Ah hunt.length ch, .agg #[.int .u8 base, .int .i64 num, .int .u8 name, .slice Ax x.length cx, .int .i64 add, .bool given]] w fun e w' => e = .returned (.tuple #[.int .i64 (searchA t now hunt base x).1, .int .i64 (searchA t now hunt base x).2]) ∧ Below w.heap.size w w' := by
  have BX := Aside0.mk (blk_new w (.cells #[.int .u8 base, .int .i64 num, .int .u8 name, .slice Ax x.length cx, .int .i64 add, .bool given] 25))
  have HB := Aside0.mk (below_alloc (Below.refl w.heap.size w) (.cells #[.int .u8 base, .int .i64 num, .int .u8 name, .slice Ax x.length cx, .int .i64 add, .bool given] 25))
  have HSP := Aside0.mk (fun (W : World) (h : Below w.heap.size w W) => X.lines_Split.calls A c t (X.splitR t) W (Kd.C_below hr h) hc (by
    unfold X.lines_Split.f
    rw [if_pos (byte_u8s ht), if_pos (by omega)]))
  have HBY := Aside0.mk (split_bytes (P := fun x => 0 ≤ x ∧ x ≤ 255) t ht)
  have hrl := split_len t
  have i0 := (blk_cell BX.out 0).trans rfl
  have i3 := (blk_cell BX.out 3).trans rfl
  by_cases h0 : x.length = 0
  · have qx : ((x.length : Int) == 0) = true := by rw [h0]; rfl
    have H0 := Aside0.mk h0
    clear h0
    have hS : searchA t now hunt base x = if hunt.length = 0 then (0, 120) else match (compileV hunt).1 with
      | none => (0, (compileV hunt).2.2)
      | some pl => seekV (X.splitR t) pl now (signV base) (X.splitR t).length 1 := by unfold searchA; rw [show textV x hunt = hunt from if_pos H0.out]
    rw [hS]
    clear hS
    have HC := Aside0.mk (fun (W : World) (h : Below w.heap.size w W) => compile_calls (w := W) (c := ch) (Kd.C_below hh h) (byte_rd bh))
    have hce := compile_err hunt
    generalize X.splitR t = rows at HSP HBY hrl hn2 ⊢
    generalize compileV hunt = cv at HC hce ⊢
    obtain ⟨co, ci, ce⟩ := cv
    simp only at hce HC ⊢
    clear hh bh hx bx
    have Hhunt := Aside0.mk (show 0 ≤ hunt.length from Nat.zero_le _)
    by_cases hz : hunt.length = 0
    · rw [if_pos hz]
      have q0 : ((hunt.length : Int) == 0) = true := by rw [hz]; rfl
      clear hz
      go_enter Tryd.func39, Tryd.ntmps39
      go_wp2
      exact bodyPost_ret (v := .tuple #[.int .i64 0, .int .i64 120]) (by simp [results, Tryd.results39, go_sem]) rfl ⟨rfl, HB.out⟩
    · rw [if_neg hz]
      have q0 : ((hunt.length : Int) == 0) = false := by rw [beq_eq_false_iff_ne]; omega
      clear hz
      cases co with
      | none =>
        have q1 : (ce != 0) = true := by
          rcases hce with h | ⟨_, h, _⟩
          · exact bne_iff_ne.2 h.2
          · cases h
        clear hce
        go_enter Tryd.func39, Tryd.ntmps39
        go_wp2_with (go_at_call 19; (with_reducible refine (HC.out _ HB.out).mono ?_); rintro e w1 ⟨v1, rfl, hy, hp⟩; have H1 := Aside0.mk (below_step HB.out hy); clear hy hp)
        exact bodyPost_ret (v := .tuple #[.int .i64 0, .int .i64 ce]) (by simp [results, Tryd.results39, go_sem]) rfl ⟨rfl, H1.out⟩
      | some pl =>
        obtain rfl : ce = 0 := by
          rcases hce with h | ⟨_, _, h⟩
          · cases h.1
          · exact h
        clear hce
        have hsg : (base = 63 ∧ signV base = -1) ∨ (base ≠ 63 ∧ signV base = 1) := by
          unfold signV
          by_cases h : base = 63
          · exact .inl ⟨h, if_pos h⟩
          · exact .inr ⟨h, if_neg h⟩
        rcases hsg with ⟨hb, hs⟩ | ⟨hb, hs⟩
        · simp only [hs]
          have q2 : (base == 63) = true := by rw [hb]; rfl
          clear hs hb
          have HV := Aside0.mk (show seekV rows pl now (-1) rows.length 1 = seekV rows pl now (-1) rows.length 1 from rfl)
          generalize hout : seekV rows pl now (-1) rows.length 1 = out at HV ⊢
          clear HV
          have HO := Aside0.mk hout
          clear hout
          go_enter Tryd.func39, Tryd.ntmps39
          go_wp2_with (first
            | (go_at_call 19; (with_reducible refine (HC.out _ HB.out).mono ?_); rintro e w1 ⟨v1, rfl, hy, hp⟩; have H1 := Aside0.mk (And.intro (below_step HB.out hy) hp); have BK1 := Aside0.mk (blk_below BX.out hy); clear hy hp)
            | (go_at_call 42; (with_reducible refine (HSP.out _ H1.out.1).mono ?_); rintro e W1 ⟨vs, rfl, hy1, hy2⟩; have HS := Aside0.mk (And.intro hy1 hy2); clear hy1 hy2; obtain ⟨AS, cS, eS⟩ := Kd.R_slice (Kd.S_R HS.out.1); subst eS; have HP := Aside0.mk (PatO_below H1.out.2 HS.out.2); have i9 := (blk_cell (blk_below BK1.out HS.out.2) 0).trans rfl))
          have HK := Aside0.mk (Kd.R_reads' (Kd.S_R HS.out.1)).2.2
          clear i0 i3 i9 q0 q2
          go_loopg [16] rows.length (fun g v16 wl => ∃ k : Nat, k + g = rows.length + 1 ∧ 1 ≤ k ∧ v16 = .int .i64 k ∧ Aside0 (Below W1.heap.size W1 wl ∧ seekV rows pl now (-1) g k = out))
          case atStart => exact ⟨1, by omega, Nat.le_refl _, rfl, ⟨Below.refl _ _, HO.out⟩⟩
          case round =>
            obtain ⟨k, hk, hk1, rfl, HL⟩ := hrel
            clear HO
            cases gk with
            | zero =>
              have q3 : ((k : Int) ≤ (rows.length : Int)) = False := eq_false (by omega)
              obtain rfl := (show ((0 : Int), (120 : Int)) = out from HL.out.2)
              go_wp2
              exact bodyPost_ret (v := .tuple #[.int .i64 0, .int .i64 120]) (by simp [results, Tryd.results39, go_sem]) rfl ⟨rfl, below_step H1.out.1 (below_step HS.out.2 HL.out.1)⟩
            | succ g =>
              have q3 : ((k : Int) ≤ (rows.length : Int)) = True := eq_true (by omega)
              have hnn : (0 : Int) < (rows.length : Int) := by omega
              have hidx : ((lineK now (-1) rows.length k : Nat) : Int) = (now - 1 + (k : Int) * (-1)) % (rows.length : Int) := Int.toNat_of_nonneg (Int.emod_nonneg _ (by omega))
              have hlt : lineK now (-1) rows.length k < rows.length := by have h := Int.emod_lt_of_pos (now - 1 + (k : Int) * (-1)) hnn; omega
              have hke : (k : Int) * (-1) = -(k : Int) := by omega
              have hq : ((now - 1 + -(k : Int)).tmod (rows.length : Int) + (rows.length : Int)).tmod (rows.length : Int) = ((lineK now (-1) rows.length k : Nat) : Int) := by rw [rem_eq hnn, hidx, hke]
              have htm : -(rows.length : Int) < (now - 1 + -(k : Int)).tmod (rows.length : Int) := Int.lt_tmod_of_pos _ hnn
              have htm2 : (now - 1 + -(k : Int)).tmod (rows.length : Int) < (rows.length : Int) := Int.tmod_lt_of_pos _ hnn
              have HD := Aside0.mk (show seekV rows pl now (-1) (g + 1) k = if (findV (rows.getD (lineK now (-1) rows.length k) []) pl 0).2.2 = true then ((lineK now (-1) rows.length k : Int) + 1, 0) else seekV rows pl now (-1) g (k + 1) from rfl)
              have HO := Aside0.mk HL.out.2
              rw [HD.out] at HO
              clear HD hidx hke
              obtain ⟨ad, A', c', rfl, hy, hlc, hC⟩ := line_of HK.out hlt
              replace hy := pw_cell_below HL.out.1 hy
              have hrow := HBY.out (rows.getD (lineK now (-1) rows.length k) []) (by rw [List.getD_eq_getElem?_getD, List.getElem?_eq_getElem hlt]; exact List.getElem_mem hlt)
              have HF := Aside0.mk (find_calls (from_ := 0) (Kd.C_below hC HL.out.1) (byte_rd hrow.1) (by have := hrow.2; omega) hlc (PatO_below HP.out HL.out.1))
              generalize rows.getD (lineK now (-1) rows.length k) [] = line at hy HF HO
              clear hlc hC hrow
              generalize lineK now (-1) rows.length k = idx at hy hq hlt HO
              generalize findV line pl 0 = r at HF HO
              obtain ⟨r1, r2, r3⟩ := r
              simp only at HO HF
              have q4 : (0 ≤ (idx : Int)) = True := eq_true (by omega)
              have q5 : ((idx : Int) < (rows.length : Int)) = True := eq_true (by omega)
              have q6 : ((rows.length : Int) = 0) = False := eq_false (by omega)
              cases r3 with
              | false =>
                go_wp2_with (go_at_call 43; (with_reducible refine HF.out.mono ?_); rintro e w2 ⟨rfl, hx2⟩; have HX := Aside0.mk hx2; clear hx2)
                go_roundg g
                case measure => omega
                case rel => exact ⟨k + 1, by omega, by omega, by go_num, ⟨below_step HL.out.1 HX.out, by have h := HO.out; rw [if_neg (by simp)] at h; exact h⟩⟩
              | true =>
                obtain rfl := (show ((idx : Int) + 1, (0 : Int)) = out from by have h := HO.out; rw [if_pos rfl] at h; exact h)
                go_wp2_with (go_at_call 43; (with_reducible refine HF.out.mono ?_); rintro e w2 ⟨rfl, hx2⟩; have HX := Aside0.mk hx2; clear hx2)
                exact bodyPost_ret (v := .tuple #[.int .i64 ((idx : Int) + 1), .int .i64 0]) (by simp [results, Tryd.results39, go_sem]) rfl ⟨rfl, below_step H1.out.1 (below_step HS.out.2 (below_step HL.out.1 HX.out))⟩
        · simp only [hs]
          have q2 : (base == 63) = false := beq_eq_false_iff_ne.2 hb
          clear hs hb
          have HV := Aside0.mk (show seekV rows pl now 1 rows.length 1 = seekV rows pl now 1 rows.length 1 from rfl)
          generalize hout : seekV rows pl now 1 rows.length 1 = out at HV ⊢
          clear HV
          have HO := Aside0.mk hout
          clear hout
          go_enter Tryd.func39, Tryd.ntmps39
          go_wp2_with (first
            | (go_at_call 19; (with_reducible refine (HC.out _ HB.out).mono ?_); rintro e w1 ⟨v1, rfl, hy, hp⟩; have H1 := Aside0.mk (And.intro (below_step HB.out hy) hp); have BK1 := Aside0.mk (blk_below BX.out hy); clear hy hp)
            | (go_at_call 42; (with_reducible refine (HSP.out _ H1.out.1).mono ?_); rintro e W1 ⟨vs, rfl, hy1, hy2⟩; have HS := Aside0.mk (And.intro hy1 hy2); clear hy1 hy2; obtain ⟨AS, cS, eS⟩ := Kd.R_slice (Kd.S_R HS.out.1); subst eS; have HP := Aside0.mk (PatO_below H1.out.2 HS.out.2); have i9 := (blk_cell (blk_below BK1.out HS.out.2) 0).trans rfl))
          have HK := Aside0.mk (Kd.R_reads' (Kd.S_R HS.out.1)).2.2
          clear i0 i3 i9 q0 q2
          go_loopg [16] rows.length (fun g v16 wl => ∃ k : Nat, k + g = rows.length + 1 ∧ 1 ≤ k ∧ v16 = .int .i64 k ∧ Aside0 (Below W1.heap.size W1 wl ∧ seekV rows pl now 1 g k = out))
          case atStart => exact ⟨1, by omega, Nat.le_refl _, rfl, ⟨Below.refl _ _, HO.out⟩⟩
          case round =>
            obtain ⟨k, hk, hk1, rfl, HL⟩ := hrel
            clear HO
            cases gk with
            | zero =>
              have q3 : ((k : Int) ≤ (rows.length : Int)) = False := eq_false (by omega)
              obtain rfl := (show ((0 : Int), (120 : Int)) = out from HL.out.2)
              go_wp2
              exact bodyPost_ret (v := .tuple #[.int .i64 0, .int .i64 120]) (by simp [results, Tryd.results39, go_sem]) rfl ⟨rfl, below_step H1.out.1 (below_step HS.out.2 HL.out.1)⟩
            | succ g =>
              have q3 : ((k : Int) ≤ (rows.length : Int)) = True := eq_true (by omega)
              have hnn : (0 : Int) < (rows.length : Int) := by omega
              have hidx : ((lineK now 1 rows.length k : Nat) : Int) = (now - 1 + (k : Int) * 1) % (rows.length : Int) := Int.toNat_of_nonneg (Int.emod_nonneg _ (by omega))
              have hlt : lineK now 1 rows.length k < rows.length := by have h := Int.emod_lt_of_pos (now - 1 + (k : Int) * 1) hnn; omega
              have hke : (k : Int) * 1 = (k : Int) := by omega
              have hq : ((now - 1 + (k : Int)) % (rows.length : Int) + (rows.length : Int)).tmod (rows.length : Int) = ((lineK now 1 rows.length k : Nat) : Int) := by rw [← Int.tmod_eq_emod_of_nonneg (a := now - 1 + (k : Int)) (by omega), rem_eq hnn, hidx, hke]
              have hq2 : ((now - 1 + (k : Int)) % (rows.length : Int) + (rows.length : Int)) % (rows.length : Int) = ((lineK now 1 rows.length k : Nat) : Int) := by rw [Int.add_emod_right, Int.emod_emod_of_dvd _ (Int.dvd_refl _), hidx, hke]
              have hq3 : (now - 1 + (k : Int)) % (rows.length : Int) = ((lineK now 1 rows.length k : Nat) : Int) := by rw [hidx, hke]
              have htm : 0 ≤ (now - 1 + (k : Int)) % (rows.length : Int) := Int.emod_nonneg _ (by omega)
              have htm2 : (now - 1 + (k : Int)) % (rows.length : Int) < (rows.length : Int) := Int.emod_lt_of_pos _ hnn
              have HD := Aside0.mk (show seekV rows pl now 1 (g + 1) k = if (findV (rows.getD (lineK now 1 rows.length k) []) pl 0).2.2 = true then ((lineK now 1 rows.length k : Int) + 1, 0) else seekV rows pl now 1 g (k + 1) from rfl)
              have HO := Aside0.mk HL.out.2
              rw [HD.out] at HO
              clear HD hidx hke
              obtain ⟨ad, A', c', rfl, hy, hlc, hC⟩ := line_of HK.out hlt
              replace hy := pw_cell_below HL.out.1 hy
              have hrow := HBY.out (rows.getD (lineK now 1 rows.length k) []) (by rw [List.getD_eq_getElem?_getD, List.getElem?_eq_getElem hlt]; exact List.getElem_mem hlt)
              have HF := Aside0.mk (find_calls (from_ := 0) (Kd.C_below hC HL.out.1) (byte_rd hrow.1) (by have := hrow.2; omega) hlc (PatO_below HP.out HL.out.1))
              generalize rows.getD (lineK now 1 rows.length k) [] = line at hy HF HO
              clear hlc hC hrow
              generalize lineK now 1 rows.length k = idx at hy hq hq2 hq3 hlt HO
              have hq4 : (idx : Int) % (rows.length : Int) = (idx : Int) := Int.emod_eq_of_lt (by omega) (by omega)
              generalize findV line pl 0 = r at HF HO
              obtain ⟨r1, r2, r3⟩ := r
              simp only at HO HF
              have q4 : (0 ≤ (idx : Int)) = True := eq_true (by omega)
              have q5 : ((idx : Int) < (rows.length : Int)) = True := eq_true (by omega)
              have q6 : ((rows.length : Int) = 0) = False := eq_false (by omega)
              cases r3 with
              | false =>
                go_wp2_with (go_at_call 43; (with_reducible refine HF.out.mono ?_); rintro e w2 ⟨rfl, hx2⟩; have HX := Aside0.mk hx2; clear hx2)
                go_roundg g
                case measure => omega
                case rel => exact ⟨k + 1, by omega, by omega, by go_num, ⟨below_step HL.out.1 HX.out, by have h := HO.out; rw [if_neg (by simp)] at h; exact h⟩⟩
              | true =>
                obtain rfl := (show ((idx : Int) + 1, (0 : Int)) = out from by have h := HO.out; rw [if_pos rfl] at h; exact h)
                go_wp2_with (go_at_call 43; (with_reducible refine HF.out.mono ?_); rintro e w2 ⟨rfl, hx2⟩; have HX := Aside0.mk hx2; clear hx2)
                exact bodyPost_ret (v := .tuple #[.int .i64 ((idx : Int) + 1), .int .i64 0]) (by simp [results, Tryd.results39, go_sem]) rfl ⟨rfl, below_step H1.out.1 (below_step HS.out.2 (below_step HL.out.1 HX.out))⟩
  · have qx : ((x.length : Int) == 0) = false := by rw [beq_eq_false_iff_ne]; omega
    have H0 := Aside0.mk h0
    clear h0
    have hS : searchA t now hunt base x = if x.length = 0 then (0, 120) else match (compileV x).1 with
      | none => (0, (compileV x).2.2)
      | some pl => seekV (X.splitR t) pl now (signV base) (X.splitR t).length 1 := by unfold searchA; rw [show textV x hunt = x from if_neg H0.out]
    rw [hS]
    clear hS
    have HC := Aside0.mk (fun (W : World) (h : Below w.heap.size w W) => compile_calls (w := W) (c := cx) (Kd.C_below hx h) (byte_rd bx))
    have hce := compile_err x
    generalize X.splitR t = rows at HSP HBY hrl hn2 ⊢
    generalize compileV x = cv at HC hce ⊢
    obtain ⟨co, ci, ce⟩ := cv
    simp only at hce HC ⊢
    clear hh bh hx bx
    have Hx := Aside0.mk (show 0 ≤ x.length from Nat.zero_le _)
    by_cases hz : x.length = 0
    · exact absurd hz H0.out
    · rw [if_neg hz]
      have q0 : ((x.length : Int) == 0) = false := by rw [beq_eq_false_iff_ne]; omega
      clear hz
      cases co with
      | none =>
        have q1 : (ce != 0) = true := by
          rcases hce with h | ⟨_, h, _⟩
          · exact bne_iff_ne.2 h.2
          · cases h
        clear hce
        go_enter Tryd.func39, Tryd.ntmps39
        go_wp2_with (go_at_call 19; (with_reducible refine (HC.out _ HB.out).mono ?_); rintro e w1 ⟨v1, rfl, hy, hp⟩; have H1 := Aside0.mk (below_step HB.out hy); clear hy hp)
        exact bodyPost_ret (v := .tuple #[.int .i64 0, .int .i64 ce]) (by simp [results, Tryd.results39, go_sem]) rfl ⟨rfl, H1.out⟩
      | some pl =>
        obtain rfl : ce = 0 := by
          rcases hce with h | ⟨_, _, h⟩
          · cases h.1
          · exact h
        clear hce
        have hsg : (base = 63 ∧ signV base = -1) ∨ (base ≠ 63 ∧ signV base = 1) := by
          unfold signV
          by_cases h : base = 63
          · exact .inl ⟨h, if_pos h⟩
          · exact .inr ⟨h, if_neg h⟩
        rcases hsg with ⟨hb, hs⟩ | ⟨hb, hs⟩
        · simp only [hs]
          have q2 : (base == 63) = true := by rw [hb]; rfl
          clear hs hb
          have HV := Aside0.mk (show seekV rows pl now (-1) rows.length 1 = seekV rows pl now (-1) rows.length 1 from rfl)
          generalize hout : seekV rows pl now (-1) rows.length 1 = out at HV ⊢
          clear HV
          have HO := Aside0.mk hout
          clear hout
          go_enter Tryd.func39, Tryd.ntmps39
          go_wp2_with (first
            | (go_at_call 19; (with_reducible refine (HC.out _ HB.out).mono ?_); rintro e w1 ⟨v1, rfl, hy, hp⟩; have H1 := Aside0.mk (And.intro (below_step HB.out hy) hp); have BK1 := Aside0.mk (blk_below BX.out hy); clear hy hp)
            | (go_at_call 42; (with_reducible refine (HSP.out _ H1.out.1).mono ?_); rintro e W1 ⟨vs, rfl, hy1, hy2⟩; have HS := Aside0.mk (And.intro hy1 hy2); clear hy1 hy2; obtain ⟨AS, cS, eS⟩ := Kd.R_slice (Kd.S_R HS.out.1); subst eS; have HP := Aside0.mk (PatO_below H1.out.2 HS.out.2); have i9 := (blk_cell (blk_below BK1.out HS.out.2) 0).trans rfl))
          have HK := Aside0.mk (Kd.R_reads' (Kd.S_R HS.out.1)).2.2
          clear i0 i3 i9 q0 q2
          go_loopg [16] rows.length (fun g v16 wl => ∃ k : Nat, k + g = rows.length + 1 ∧ 1 ≤ k ∧ v16 = .int .i64 k ∧ Aside0 (Below W1.heap.size W1 wl ∧ seekV rows pl now (-1) g k = out))
          case atStart => exact ⟨1, by omega, Nat.le_refl _, rfl, ⟨Below.refl _ _, HO.out⟩⟩
          case round =>
            obtain ⟨k, hk, hk1, rfl, HL⟩ := hrel
            clear HO
            cases gk with
            | zero =>
              have q3 : ((k : Int) ≤ (rows.length : Int)) = False := eq_false (by omega)
              obtain rfl := (show ((0 : Int), (120 : Int)) = out from HL.out.2)
              go_wp2
              exact bodyPost_ret (v := .tuple #[.int .i64 0, .int .i64 120]) (by simp [results, Tryd.results39, go_sem]) rfl ⟨rfl, below_step H1.out.1 (below_step HS.out.2 HL.out.1)⟩
            | succ g =>
              have q3 : ((k : Int) ≤ (rows.length : Int)) = True := eq_true (by omega)
              have hnn : (0 : Int) < (rows.length : Int) := by omega
              have hidx : ((lineK now (-1) rows.length k : Nat) : Int) = (now - 1 + (k : Int) * (-1)) % (rows.length : Int) := Int.toNat_of_nonneg (Int.emod_nonneg _ (by omega))
              have hlt : lineK now (-1) rows.length k < rows.length := by have h := Int.emod_lt_of_pos (now - 1 + (k : Int) * (-1)) hnn; omega
              have hke : (k : Int) * (-1) = -(k : Int) := by omega
              have hq : ((now - 1 + -(k : Int)).tmod (rows.length : Int) + (rows.length : Int)).tmod (rows.length : Int) = ((lineK now (-1) rows.length k : Nat) : Int) := by rw [rem_eq hnn, hidx, hke]
              have htm : -(rows.length : Int) < (now - 1 + -(k : Int)).tmod (rows.length : Int) := Int.lt_tmod_of_pos _ hnn
              have htm2 : (now - 1 + -(k : Int)).tmod (rows.length : Int) < (rows.length : Int) := Int.tmod_lt_of_pos _ hnn
              have HD := Aside0.mk (show seekV rows pl now (-1) (g + 1) k = if (findV (rows.getD (lineK now (-1) rows.length k) []) pl 0).2.2 = true then ((lineK now (-1) rows.length k : Int) + 1, 0) else seekV rows pl now (-1) g (k + 1) from rfl)
              have HO := Aside0.mk HL.out.2
              rw [HD.out] at HO
              clear HD hidx hke
              obtain ⟨ad, A', c', rfl, hy, hlc, hC⟩ := line_of HK.out hlt
              replace hy := pw_cell_below HL.out.1 hy
              have hrow := HBY.out (rows.getD (lineK now (-1) rows.length k) []) (by rw [List.getD_eq_getElem?_getD, List.getElem?_eq_getElem hlt]; exact List.getElem_mem hlt)
              have HF := Aside0.mk (find_calls (from_ := 0) (Kd.C_below hC HL.out.1) (byte_rd hrow.1) (by have := hrow.2; omega) hlc (PatO_below HP.out HL.out.1))
              generalize rows.getD (lineK now (-1) rows.length k) [] = line at hy HF HO
              clear hlc hC hrow
              generalize lineK now (-1) rows.length k = idx at hy hq hlt HO
              generalize findV line pl 0 = r at HF HO
              obtain ⟨r1, r2, r3⟩ := r
              simp only at HO HF
              have q4 : (0 ≤ (idx : Int)) = True := eq_true (by omega)
              have q5 : ((idx : Int) < (rows.length : Int)) = True := eq_true (by omega)
              have q6 : ((rows.length : Int) = 0) = False := eq_false (by omega)
              cases r3 with
              | false =>
                go_wp2_with (go_at_call 43; (with_reducible refine HF.out.mono ?_); rintro e w2 ⟨rfl, hx2⟩; have HX := Aside0.mk hx2; clear hx2)
                go_roundg g
                case measure => omega
                case rel => exact ⟨k + 1, by omega, by omega, by go_num, ⟨below_step HL.out.1 HX.out, by have h := HO.out; rw [if_neg (by simp)] at h; exact h⟩⟩
              | true =>
                obtain rfl := (show ((idx : Int) + 1, (0 : Int)) = out from by have h := HO.out; rw [if_pos rfl] at h; exact h)
                go_wp2_with (go_at_call 43; (with_reducible refine HF.out.mono ?_); rintro e w2 ⟨rfl, hx2⟩; have HX := Aside0.mk hx2; clear hx2)
                exact bodyPost_ret (v := .tuple #[.int .i64 ((idx : Int) + 1), .int .i64 0]) (by simp [results, Tryd.results39, go_sem]) rfl ⟨rfl, below_step H1.out.1 (below_step HS.out.2 (below_step HL.out.1 HX.out))⟩
        · simp only [hs]
          have q2 : (base == 63) = false := beq_eq_false_iff_ne.2 hb
          clear hs hb
          have HV := Aside0.mk (show seekV rows pl now 1 rows.length 1 = seekV rows pl now 1 rows.length 1 from rfl)
          generalize hout : seekV rows pl now 1 rows.length 1 = out at HV ⊢
          clear HV
          have HO := Aside0.mk hout
          clear hout
          go_enter Tryd.func39, Tryd.ntmps39
          go_wp2_with (first
            | (go_at_call 19; (with_reducible refine (HC.out _ HB.out).mono ?_); rintro e w1 ⟨v1, rfl, hy, hp⟩; have H1 := Aside0.mk (And.intro (below_step HB.out hy) hp); have BK1 := Aside0.mk (blk_below BX.out hy); clear hy hp)
            | (go_at_call 42; (with_reducible refine (HSP.out _ H1.out.1).mono ?_); rintro e W1 ⟨vs, rfl, hy1, hy2⟩; have HS := Aside0.mk (And.intro hy1 hy2); clear hy1 hy2; obtain ⟨AS, cS, eS⟩ := Kd.R_slice (Kd.S_R HS.out.1); subst eS; have HP := Aside0.mk (PatO_below H1.out.2 HS.out.2); have i9 := (blk_cell (blk_below BK1.out HS.out.2) 0).trans rfl))
          have HK := Aside0.mk (Kd.R_reads' (Kd.S_R HS.out.1)).2.2
          clear i0 i3 i9 q0 q2
          go_loopg [16] rows.length (fun g v16 wl => ∃ k : Nat, k + g = rows.length + 1 ∧ 1 ≤ k ∧ v16 = .int .i64 k ∧ Aside0 (Below W1.heap.size W1 wl ∧ seekV rows pl now 1 g k = out))
          case atStart => exact ⟨1, by omega, Nat.le_refl _, rfl, ⟨Below.refl _ _, HO.out⟩⟩
          case round =>
            obtain ⟨k, hk, hk1, rfl, HL⟩ := hrel
            clear HO
            cases gk with
            | zero =>
              have q3 : ((k : Int) ≤ (rows.length : Int)) = False := eq_false (by omega)
              obtain rfl := (show ((0 : Int), (120 : Int)) = out from HL.out.2)
              go_wp2
              exact bodyPost_ret (v := .tuple #[.int .i64 0, .int .i64 120]) (by simp [results, Tryd.results39, go_sem]) rfl ⟨rfl, below_step H1.out.1 (below_step HS.out.2 HL.out.1)⟩
            | succ g =>
              have q3 : ((k : Int) ≤ (rows.length : Int)) = True := eq_true (by omega)
              have hnn : (0 : Int) < (rows.length : Int) := by omega
              have hidx : ((lineK now 1 rows.length k : Nat) : Int) = (now - 1 + (k : Int) * 1) % (rows.length : Int) := Int.toNat_of_nonneg (Int.emod_nonneg _ (by omega))
              have hlt : lineK now 1 rows.length k < rows.length := by have h := Int.emod_lt_of_pos (now - 1 + (k : Int) * 1) hnn; omega
              have hke : (k : Int) * 1 = (k : Int) := by omega
              have hq : ((now - 1 + (k : Int)) % (rows.length : Int) + (rows.length : Int)).tmod (rows.length : Int) = ((lineK now 1 rows.length k : Nat) : Int) := by rw [← Int.tmod_eq_emod_of_nonneg (a := now - 1 + (k : Int)) (by omega), rem_eq hnn, hidx, hke]
              have hq2 : ((now - 1 + (k : Int)) % (rows.length : Int) + (rows.length : Int)) % (rows.length : Int) = ((lineK now 1 rows.length k : Nat) : Int) := by rw [Int.add_emod_right, Int.emod_emod_of_dvd _ (Int.dvd_refl _), hidx, hke]
              have hq3 : (now - 1 + (k : Int)) % (rows.length : Int) = ((lineK now 1 rows.length k : Nat) : Int) := by rw [hidx, hke]
              have htm : 0 ≤ (now - 1 + (k : Int)) % (rows.length : Int) := Int.emod_nonneg _ (by omega)
              have htm2 : (now - 1 + (k : Int)) % (rows.length : Int) < (rows.length : Int) := Int.emod_lt_of_pos _ hnn
              have HD := Aside0.mk (show seekV rows pl now 1 (g + 1) k = if (findV (rows.getD (lineK now 1 rows.length k) []) pl 0).2.2 = true then ((lineK now 1 rows.length k : Int) + 1, 0) else seekV rows pl now 1 g (k + 1) from rfl)
              have HO := Aside0.mk HL.out.2
              rw [HD.out] at HO
              clear HD hidx hke
              obtain ⟨ad, A', c', rfl, hy, hlc, hC⟩ := line_of HK.out hlt
              replace hy := pw_cell_below HL.out.1 hy
              have hrow := HBY.out (rows.getD (lineK now 1 rows.length k) []) (by rw [List.getD_eq_getElem?_getD, List.getElem?_eq_getElem hlt]; exact List.getElem_mem hlt)
              have HF := Aside0.mk (find_calls (from_ := 0) (Kd.C_below hC HL.out.1) (byte_rd hrow.1) (by have := hrow.2; omega) hlc (PatO_below HP.out HL.out.1))
              generalize rows.getD (lineK now 1 rows.length k) [] = line at hy HF HO
              clear hlc hC hrow
              generalize lineK now 1 rows.length k = idx at hy hq hq2 hq3 hlt HO
              have hq4 : (idx : Int) % (rows.length : Int) = (idx : Int) := Int.emod_eq_of_lt (by omega) (by omega)
              generalize findV line pl 0 = r at HF HO
              obtain ⟨r1, r2, r3⟩ := r
              simp only at HO HF
              have q4 : (0 ≤ (idx : Int)) = True := eq_true (by omega)
              have q5 : ((idx : Int) < (rows.length : Int)) = True := eq_true (by omega)
              have q6 : ((rows.length : Int) = 0) = False := eq_false (by omega)
              cases r3 with
              | false =>
                go_wp2_with (go_at_call 43; (with_reducible refine HF.out.mono ?_); rintro e w2 ⟨rfl, hx2⟩; have HX := Aside0.mk hx2; clear hx2)
                go_roundg g
                case measure => omega
                case rel => exact ⟨k + 1, by omega, by omega, by go_num, ⟨below_step HL.out.1 HX.out, by have h := HO.out; rw [if_neg (by simp)] at h; exact h⟩⟩
              | true =>
                obtain rfl := (show ((idx : Int) + 1, (0 : Int)) = out from by have h := HO.out; rw [if_pos rfl] at h; exact h)
                go_wp2_with (go_at_call 43; (with_reducible refine HF.out.mono ?_); rintro e w2 ⟨rfl, hx2⟩; have HX := Aside0.mk hx2; clear hx2)
                exact bodyPost_ret (v := .tuple #[.int .i64 ((idx : Int) + 1), .int .i64 0]) (by simp [results, Tryd.results39, go_sem]) rfl ⟨rfl, below_step H1.out.1 (below_step HS.out.2 (below_step HL.out.1 HX.out))⟩
end Go.Proofs.YtdhdngoeaneanaaDoor.PT
end
section
namespace Go.Proofs.YtdhdngoeaneanaaDoor.PT
open Go.RowKit Go.Proofs.YtdhdngoeaneanaaDoorW.PrintWords Go.Proofs.YtdhdngoeaneanaaDoorW.PrintLast Go.Proofs.YtdhdngoeaneanaaDoorW.PrintMore
set_option linter.unusedVariables false
set_option linter.unusedSimpArgs false
theorem infoB : (Tryd.prog.info? 5).map (fun i => (i.zero, i.size, i.bytes)) = some (some (.int .u8 0), 1, 1) := by kernel_rfl
/-- A number's decimal numeral, as bytes. -/
def dec (i : Int) : List Int := (Lib.itoa i).map fun b => (b.toNat : Int)
def Tab (w : World) : Prop := Lib.TabIs Tryd.prog w "internal/strconv.uint64pow10" .u64 Lib.pow10Tab
theorem Tab.below {w w' : World} (h : Tab w) (hb : Below w.heap.size w w') : Tab w' := Lib.tabBelow_of_tabIs h w' hb
theorem ai_calls {w0 w : World} (htab : Tab w0) (hB : Below w0.heap.size w0 w) {v : Value} {xs : List Int} (hR : (Kd.int .u8).R 5 w w0.heap.size (fun _ => True) v xs) {i : Int} (h0 : -9223372036854775808 ≤ i) (h1 : i ≤ 9223372036854775807) (hl : xs.length ≤ 8388608) :
    Calls Tryd.prog 29 #[v, .int .i64 i, .int .i64 10] w fun e w' => ∃ v', e = .returned v' ∧ (Kd.int .u8).R 5 w' w0.heap.size (fun _ => True) v' (xs ++ dec i) ∧ Below w0.heap.size w0 w' := by
  have h := Any.strconv_AppendInt_10 Tryd.lays176 w0.heap.size xs.length i h0 h1 v (xs.map (Value.int .u8)) w (Kd.own_of_R hR) hB.size (by omega) ((Lib.tabBelow_of_tabIs htab).on hB)
  refine Calls.mono h ?_
  rintro e w' ⟨v', rfl, ho, hb, _⟩
  refine ⟨v', rfl, Kd.R_of_own (enc := Value.int .u8) (h1 := fun _ => rfl) ?_ (fun _ _ => trivial), hB.trans hb⟩
  have e1 : (xs ++ dec i).length = xs.length + (Lib.itoa i).length := by unfold dec; rw [List.length_append, List.length_map]
  have e2 : encs (Value.int .u8) (xs ++ dec i) = xs.map (Value.int .u8) ++ Lib.byteCells (Lib.itoa i) := by unfold dec Lib.byteCells encs; rw [List.map_append, List.map_map]; rfl
  rw [e1, e2]
  exact ho
def headV (base num name : Int) (text : List Int) : List Int := if base = 110 then dec num else if base = 39 then [39, name] else if base = 47 ∨ base = 63 then [base] ++ text ++ [base] else if base = 46 ∨ base = 36 then [base] else []
def tailV (base add : Int) : List Int := if add = 0 ∧ base ≠ 0 then [] else if add < 0 then dec add else [43] ++ dec add
set_option maxHeartbeats 8000000 in
set_option maxRecDepth 100000 in
theorem spell_46 {w : World} {A : Option Addr} {c : Nat} {num name add : Int} {text : List Int} {given : Bool} (hr : Kd.C (Kd.int .u8) w A text.length text) (hl : text.length ≤ 1048576) (htab : Tab w) (h1 : -999999999 ≤ add) (h2 : add ≤ 999999999)
    (HS : ∀ W, Below w.heap.size w W → Calls Tryd.prog 28 #[.agg #[.int .u8 46, .int .i64 num, .int .u8 name, .slice A text.length c, .int .i64 add, .bool given]] W fun e w' => e = .returned (.bool true) ∧ Below W.heap.size W w') :
    Calls Tryd.prog 15 #[.agg #[.int .u8 46, .int .i64 num, .int .u8 name, .slice A text.length c, .int .i64 add, .bool given]] w fun e w' => ∃ v, e = .returned v ∧ (Kd.int .u8).R 5 w' w.heap.size (fun _ => True) v (headV 46 num name text ++ tailV 46 add) ∧ Below w.heap.size w w' := by
  have BX := Aside0.mk (blk_new w (.cells #[.int .u8 46, .int .i64 num, .int .u8 name, .slice A text.length c, .int .i64 add, .bool given] 25))
  have HB := Aside0.mk (below_alloc (Below.refl w.heap.size w) (.cells #[.int .u8 46, .int .i64 num, .int .u8 name, .slice A text.length c, .int .i64 add, .bool given] 25))
  have HS0 := Aside0.mk (HS _ HB.out)
  have HLEN : ([46] : List Int).length ≤ 1048600 := by decide
  rw [show headV 46 num name text = ([46] : List Int) from rfl]
  generalize htl : tailV 46 add = tl
  have HTL := Aside0.mk htl
  clear HS htl
  go_enter Tryd.func15, Tryd.ntmps15
  go_wp2_with (first
    | (go_at_call 28; (with_reducible refine HS0.out.mono ?_); rintro e w1 ⟨rfl, hx⟩; have HB1s := Aside0.mk (below_step HB.out hx); have BK1 := Aside0.mk (blk_below BX.out hx); have HTB := Aside0.mk (htab.below HB1s.out); have j0 := (blk_cell BK1.out 0).trans rfl; have j1 := (blk_cell BK1.out 1).trans rfl; have j2 := (blk_cell BK1.out 2).trans rfl; have j3 := (blk_cell BK1.out 3).trans rfl; have j4 := (blk_cell BK1.out 4).trans rfl; clear hx)
    | (at_builtin; refine Kd.R_append (Kd.int .u8) (w0 := w1) w1.heap.size rfl (.tmp 42) (.tmp 45) 22 5 (.int .u8 0) 1 rfl Tryd.underlying22 infoB rfl (by decide) (by decide) (.slice none 0 0) [] 46 [.int .u8 46] (fun _ => True) (fun _ => False) rfl rfl rfl (fun _ hk => hk.elim) (fun _ _ => trivial) (Kd.R_nil _ _ _ _ _) (Below.refl _ _) (Nat.le_refl _) (by simp) ?_; intro v2 w2 hR hB _ _; rw [List.nil_append] at hR; have H2 := Aside0.mk (And.intro hR hB); clear hR hB; have k0 := (blk_cell (blk_below BK1.out H2.out.2) 0).trans rfl; have k4 := (blk_cell (blk_below BK1.out H2.out.2) 4).trans rfl; refine Hid.out ?_))
  by_cases ha : add = 0
  · have HA := Aside0.mk ha
    have q0 : (add == 0) = true := by rw [ha]; rfl
    clear ha
    refine Lib.hid ?_
    go_wp2
    exact bodyPost_ret (v := v2) (by simp [results, Tryd.results15, go_sem]) rfl ⟨v2, rfl, (by rw [show tl = ([] : List Int) from HTL.out.symm.trans (by rw [HA.out]; rfl)]; have h_ := Kd.R_lower H2.out.1 HB1s.out.size; first | exact h_ | (rw [List.append_nil]; exact h_)), below_step HB1s.out H2.out.2⟩
  have HA0 := Aside0.mk ha
  by_cases hn : add < 0
  · have HN := Aside0.mk hn
    have q0 : (add == 0) = false := beq_eq_false_iff_ne.2 (by omega)
    have q1 : (add < 0) = True := eq_true hn
    clear hn
    refine Lib.hid ?_
    go_wp2_with (go_at_call 29; (with_reducible refine (ai_calls HTB.out H2.out.2 H2.out.1 (by omega) (by omega) (by have h_ := HLEN; first | omega | (simp; done) | decide | (simp only [List.length_cons, List.length_nil]; omega) | (simp only [List.length_append, List.length_cons, List.length_nil]; omega))).mono ?_); rintro e w3 ⟨v3, rfl, hR, hB⟩; have H3 := Aside0.mk (And.intro hR hB); clear hR hB)
    exact bodyPost_ret (v := v3) (by simp [results, Tryd.results15, go_sem]) rfl ⟨v3, rfl, (by rw [show tl = dec add from HTL.out.symm.trans (by have h_ := HN.out; unfold tailV; rw [if_neg (show ¬ (add = 0 ∧ _) by omega), if_pos (show add < 0 by omega)])]; exact Kd.R_lower H3.out.1 HB1s.out.size), below_step HB1s.out H3.out.2⟩
  · have HN := Aside0.mk hn
    have q0 : (add == 0) = false := beq_eq_false_iff_ne.2 (by omega)
    have q1 : (add < 0) = False := eq_false hn
    refine Lib.hid ?_
    go_wp2
    have HV2a := Aside0.mk H2.out.1
    have HB2a := Aside0.mk H2.out.2
    refine start_ (n := 7) (S := fun w' => w'.cell? ⟨w.heap.size, 4, none⟩ = some (.int .i64 add)) (ds := []) #[false, false, false, false, false, false, false] (by kernel_rfl) rfl rfl ((blk_cell (blk_below BK1.out (below_drew HB2a.out)) 4).trans rfl) (fun hHeld => ?_)
    have HB0 := Aside0.mk (below_drew HB2a.out)
    have HV0 := Aside0.mk (Kd.R_drew HV2a.out)
    generalize w2.drew = Wc0 at HB0 HV0 hHeld ⊢
    refine pure_ (i := 0) (N := some 63) (v := ?_) (a' := ?_) #[true, false, false, false, false, false, false] rfl rfl (by kernel_rfl) (fun _ _ _ h => h) (Or.inl ⟨by rfl, ?_⟩) ?_ ?_
    rotate_left
    · intro w'
      go_simp
      with_reducible rfl
    rotate_left
    · simp only [Act.put, List.setIfInBounds_toArray, List.set_cons_zero, List.set_cons_succ, i64_w, i32_w]
      rfl
    refine pure_ (i := 3) (N := some 66) (v := ?_) (a' := ?_) #[true, false, false, true, false, false, false] rfl rfl (by kernel_rfl) (fun _ _ _ h => h) (Or.inl ⟨by rfl, ?_⟩) ?_ ?_
    rotate_left
    · intro w'
      go_simp
      with_reducible rfl
    rotate_left
    · simp only [Act.put, List.setIfInBounds_toArray, List.set_cons_zero, List.set_cons_succ, i64_w, i32_w]
      rfl
    refine take_ (i := 4) (N := some 67) (v := ?_) (a' := ?_) #[true, false, false, true, true, false, false] rfl rfl (by kernel_rfl) (fun _ _ _ h => h) (Or.inl ⟨by rfl, ?_⟩) hHeld ?_ ?_
    rotate_left
    · intro w' s0
      go_simp
      with_reducible rfl
    rotate_left
    · simp only [Act.put, List.setIfInBounds_toArray, List.set_cons_zero, List.set_cons_succ, i64_w, i32_w]
      rfl
    refine one_ (i := 1) (N := some 64) #[true, true, false, true, true, false, false] rfl rfl (by kernel_rfl) (by decide) (fun K hK => ?_)
    refine value_ (w1 := ?_) (v := ?_) (by rfl) rfl ?_ ?_
    rotate_left 2
    · go_simp
      constructor
      · rfl
      · rfl
    have HB1 := Aside0.mk (below_alloc HB0.out (.cells #[.int .u8 43] 5))
    have HV1 := Aside0.mk (Kd.R_alloc HV0.out (.cells #[.int .u8 43] 5))
    have HP1 := Aside0.mk (blk_new Wc0 (.cells #[.int .u8 43] 5))
    generalize (Wc0.alloc (.cells #[.int .u8 43] 5)) = Wc1 at HB1 HV1 HP1 ⊢
    refine hK.out _ _ ((blk_cell (blk_below BK1.out HB1.out) 4).trans rfl) (fun hHeld => ?_)
    clear hK K
    refine norm_ (a' := ?_) ?_ ?_
    rotate_left
    · show Act.put _ (some 64) _ = _
      simp only [Act.put, List.setIfInBounds_toArray, List.set_cons_zero, List.set_cons_succ, i64_w, i32_w]
      rfl
    refine one_ (i := 2) (N := some 65) #[true, true, true, true, true, false, false] rfl rfl (by kernel_rfl) (by decide) (fun K hK => ?_)
    refine Kd.R_append_rows_step (Kd.int .u8) (Rr := (Kd.int .u8).K Wc1) (w0 := w1) w1.heap.size (by rfl) (.tmp 63) (.tmp 64) 22 5 (.int .u8 0) 1 rfl Tryd.underlying22 infoB rfl (by decide) (by omega) v2 ([46]) [43] (some ⟨Wc0.heap.size, 0, none⟩) 1 1 (fun _ => True) (fun _ => False) rfl rfl HV1.out (u8_C (xs := [43]) (fr := (0, 0)) HP1.out (by simp)) (fun _ _ h => h) (fun _ h => h.elim) (fun _ _ => trivial) HB1.out HB1.out.size (by have h_ := HLEN; first | omega | (simp only [List.length_cons, List.length_nil]; omega)) ?_
    intro vq Wc2 hR hB _ _
    have HV2 := Aside0.mk hR
    have HB2 := Aside0.mk hB
    clear hR hB
    refine hK.out _ _ ((blk_cell (blk_below BK1.out HB2.out) 4).trans rfl) (fun hHeld => ?_)
    clear hK K
    refine norm_ (a' := ?_) ?_ ?_
    rotate_left
    · show Act.put _ (some 65) _ = _
      simp only [Act.put, List.setIfInBounds_toArray, List.set_cons_zero, List.set_cons_succ, i64_w, i32_w]
      rfl
    refine one_ (i := 5) (N := some 68) #[true, true, true, true, true, true, false] rfl rfl (by kernel_rfl) (by decide) (fun K hK => ?_)
    refine goes_ Tryd.func29 (by kernel_rfl) rfl #[vq, .int .i64 add, .int .i64 10] (by rfl) rfl rfl (by simp only [List.map_toArray, List.map_cons, List.map_nil]; rfl) ?_
    with_reducible refine (ai_calls HTB.out HB2.out HV2.out (by omega) (by omega) (by simp only [List.length_append, List.length_singleton]; omega)).mono ?_
    rintro e Wc3 ⟨vz, rfl, hR, hB⟩
    refine ⟨_, rfl, ?_⟩
    have HZ := Aside0.mk (And.intro hR hB)
    clear hR hB
    refine hK.out _ _ ((blk_cell (blk_below BK1.out HZ.out.2) 4).trans rfl) (fun hHeld => ?_)
    clear hK K
    refine norm_ (a' := ?_) ?_ ?_
    rotate_left
    · show Act.put _ (some 68) _ = _
      simp only [Act.put, List.setIfInBounds_toArray, List.set_cons_zero, List.set_cons_succ, i64_w, i32_w]
      rfl
    refine pure_ (i := 6) (N := some 2) (v := ?_) (a' := ?_) #[true, true, true, true, true, true, true] rfl rfl (by kernel_rfl) (fun _ _ _ h => h) (Or.inl ⟨by rfl, ?_⟩) ?_ ?_
    rotate_left
    · intro w'
      go_simp
      with_reducible rfl
    rotate_left
    · simp only [Act.put, List.setIfInBounds_toArray, List.set_cons_zero, List.set_cons_succ, i64_w, i32_w]
      rfl
    refine done_ (by kernel_rfl) ?_

    go_wp2
    exact bodyPost_ret (v := vz) (by simp [results, Tryd.results15, go_sem]) rfl ⟨vz, rfl, (by rw [show tl = [43] ++ dec add from HTL.out.symm.trans (by have h_ := HN.out; unfold tailV; rw [if_neg (fun h : add = 0 ∧ _ => HA0.out h.1), if_neg (show ¬ add < 0 by omega)])]; have h_ := Kd.R_lower HZ.out.1 HB1s.out.size; first | exact h_ | (rw [← List.append_assoc]; exact h_)), below_step HB1s.out HZ.out.2⟩
end Go.Proofs.YtdhdngoeaneanaaDoor.PT
end
section
namespace Go.Proofs.YtdhdngoeaneanaaDoor.PT
open Go.RowKit Go.Proofs.YtdhdngoeaneanaaDoorW.PrintWords Go.Proofs.YtdhdngoeaneanaaDoorW.PrintMore
set_option linter.unusedVariables false
set_option linter.unusedSimpArgs false
/-- How many lines a text has. -/
def linesN (t : List Int) : Int := ((X.splitR t).length : Int)
theorem split_cnt (t : List Int) : ((X.splitR t).length : Int) = X.cnt 10 t + 1 := by
  induction t with
  | nil => rfl
  | cons x t ih =>
    unfold X.splitR X.cnt
    by_cases h : x = 10
    · rw [if_pos h, if_pos h, List.length_cons]; omega
    · rw [if_neg h, if_neg h]
      cases e : X.splitR t with
      | nil => exact absurd e (X.splitR_ne t)
      | cons p r => rw [e] at ih; simp only [List.length_cons] at ih ⊢; omega
theorem count_eq {t : List Int} (h : byte t) (hl : t.length ≤ 1048576) : X.lines_Count.f t = some (linesN t) := by
  have h1 := split_cnt t
  have h2 := split_len t
  unfold X.lines_Count.f X.bytes_Count.f linesN
  rw [byte_u8s h, show X.u8s [10] = true from rfl]
  simp only [Bool.and_self, if_true, List.length_singleton, Option.bind_some]
  congr 1
  rw [show rd [10] 0 = 10 from rfl]
  unfold wrap64
  omega
/-- A line and what is added. -/
def tailF (l n add : Int) : Int × Int := if (l < 0 ∧ add ≤ 0) ∨ (l > n ∧ add ≥ 0) ∨ (add > n ∧ l ≥ 0) then (0, 231) else if l + add < 0 ∨ l + add > n then (0, 231) else (l + add, 0)
def seven : List Int := [110, 46, 36, 39, 47, 63, 0]
theorem cnt_nonneg (c : Int) : ∀ l : List Int, 0 ≤ X.cnt c l
  | [] => Int.le_refl _
  | x :: l => by have := cnt_nonneg c l; unfold X.cnt; split <;> omega
theorem idx7 (w : World) (base r : Int) (h : X.bytes_IndexByte.f seven base = some r) : Calls Tryd.prog 36 #[.slice (some ⟨w.heap.size, 0, none⟩) 7 7, .int .u8 base] (w.alloc (.cells #[.int .u8 110, .int .u8 46, .int .u8 36, .int .u8 39, .int .u8 47, .int .u8 63, .int .u8 0] 5 (7, 8))) fun e w' => e = .returned (.int .i64 r) ∧ Drawn0 (w.alloc (.cells #[.int .u8 110, .int .u8 46, .int .u8 36, .int .u8 39, .int .u8 47, .int .u8 63, .int .u8 0] 5 (7, 8))) w' :=
  X.bytes_IndexByte.calls (some ⟨w.heap.size, 0, none⟩) 7 seven base r (w.alloc (.cells #[.int .u8 110, .int .u8 46, .int .u8 36, .int .u8 39, .int .u8 47, .int .u8 63, .int .u8 0] 5 (7, 8))) (u8_C (xs := seven) (fr := (7, 8)) (blk_new w _) (by decide)) (by decide) h
theorem seek_range (rows : List (List Int)) (pl : List PTh) (now s : Int) (h0 : 0 < rows.length) : ∀ g k, (seekV rows pl now s g k).2 = 0 → 1 ≤ (seekV rows pl now s g k).1 ∧ (seekV rows pl now s g k).1 ≤ (rows.length : Int) := by
  intro g
  induction g with
  | zero => intro k h; cases h
  | succ g ih =>
    intro k h
    unfold seekV at h ⊢
    by_cases hf : (findV (rows.getD (lineK now s rows.length k) []) pl 0).2.2 = true
    · rw [if_pos hf]
      have h1 : ((lineK now s rows.length k : Nat) : Int) = (now - 1 + (k : Int) * s) % (rows.length : Int) := Int.toNat_of_nonneg (Int.emod_nonneg _ (by omega))
      have h2 := Int.emod_lt_of_pos (now - 1 + (k : Int) * s) (show (0 : Int) < (rows.length : Int) by omega)
      simp only
      omega
    · rw [if_neg hf] at h ⊢
      exact ih _ h
theorem search_range (t : List Int) (now : Int) (hunt : List Int) (base : Int) (x : List Int) (h1 : 1 ≤ now) (h2 : now ≤ linesN t) : (searchA t now hunt base x).2 = 0 → 1 ≤ (searchA t now hunt base x).1 ∧ (searchA t now hunt base x).1 ≤ linesN t := by
  unfold searchA
  split
  · intro h; cases h
  · split
    · rename_i hn
      intro h
      rcases compile_err (textV x hunt) with e | ⟨pl, e, _⟩
      · exact absurd h e.2
      · rw [hn] at e; cases e
    · exact seek_range _ _ _ _ (by unfold linesN at h2; omega) _ _
set_option maxHeartbeats 16000000 in
set_option maxRecDepth 100000 in
theorem find_36 {w : World} {A Ah Ax : Option Addr} {c ch cx : Nat} {t hunt x : List Int} {now num name add : Int} {M : Array Value} (hr : Kd.C (Kd.int .u8) w A t.length t) (hc : t.length ≤ c) (ht : byte t) (hl : t.length ≤ 1048576) (hn1 : 1 ≤ now) (hn2 : now ≤ linesN t) (ha1 : -9223372036854775808 ≤ add) (ha2 : add ≤ 9223372036854775807) (hm1 : -9223372036854775808 ≤ num) (hm2 : num ≤ 9223372036854775807) :
    Calls Tryd.prog 17 #[.slice A t.length c, .int .i64 now, .agg M, .slice Ah hunt.length ch, .agg #[.int .u8 36, .int .i64 num, .int .u8 name, .slice Ax x.length cx, .int .i64 add, .bool true]] w fun e w' => e = .returned (.tuple #[.int .i64 ((tailF (linesN t) (linesN t) add)).1, .int .i64 ((tailF (linesN t) (linesN t) add)).2]) ∧ Below w.heap.size w w' := by
  have BX := Aside0.mk (show ((w.alloc (.cells M 37)).alloc (.cells #[.int .u8 36, .int .i64 num, .int .u8 name, .slice Ax x.length cx, .int .i64 add, .bool true] 25)).heap[w.heap.size + 1]? = some (.cells #[.int .u8 36, .int .i64 num, .int .u8 name, .slice Ax x.length cx, .int .i64 add, .bool true] 25) from by have h := blk_new (w.alloc (.cells M 37)) (.cells #[.int .u8 36, .int .i64 num, .int .u8 name, .slice Ax x.length cx, .int .i64 add, .bool true] 25); rw [World.size_alloc] at h; exact h)
  have HB := Aside0.mk (below_alloc (below_alloc (Below.refl w.heap.size w) (.cells M 37)) (.cells #[.int .u8 36, .int .i64 num, .int .u8 name, .slice Ax x.length cx, .int .i64 add, .bool true] 25))
  have HCT := Aside0.mk (fun (W : World) (h : Below w.heap.size w W) => X.lines_Count.calls A c t (linesN t) W (Kd.C_below hr h) hc (count_eq ht hl))
  have kc := fun (w_ : World) (C_ : Array Value) (n_ c_ : Nat) => Lib.run_convert_bytes_const (P := Tryd.prog) w_ 22 5 C_ n_ c_ Tryd.underlying22 Tryd.underlying5
  have hn0 : 1 ≤ linesN t := by have h := split_cnt t; have h2 : 0 ≤ X.cnt 10 t := cnt_nonneg 10 t; unfold linesN; omega
  have hn9 : linesN t ≤ 1048577 := by have h := split_len t; unfold linesN; omega
  generalize linesN t = n at HCT hn1 hn2 hn0 hn9 ⊢
  have f1 : (now < 1) = False := eq_false (by omega)
  have f2 : (n < now) = False := eq_false (by omega)
  by_cases hk : n < add
  · skip
    have HTF := Aside0.mk (show tailF n n add = (0, 231) from by unfold tailF; rw [if_pos (by omega)])
    have g1 : (n < 0) = False := eq_false (by omega)
    have g3 : (n < n) = False := eq_false (by omega)
    have g6 : (0 ≤ n) = True := eq_true (by omega)
    have g5 : (n < add) = True := eq_true hk
    go_enter Tryd.func17, Tryd.ntmps17
    go_wp2_with (first
      | (go_at_call 18; (with_reducible refine (HCT.out _ HB.out).mono ?_); rintro e w1 ⟨rfl, hy⟩; have BK1 := Aside0.mk (blk_below BX.out hy); have H1 := Aside0.mk (below_step HB.out hy); clear hy; have a0 := (blk_cell BK1.out 0).trans rfl; have b0 := fun o_ => (blk_cell (blk_alloc BK1.out o_) 0).trans rfl; have a1 := (blk_cell BK1.out 1).trans rfl; have b1 := fun o_ => (blk_cell (blk_alloc BK1.out o_) 1).trans rfl; have a2 := (blk_cell BK1.out 2).trans rfl; have b2 := fun o_ => (blk_cell (blk_alloc BK1.out o_) 2).trans rfl; have a3 := (blk_cell BK1.out 3).trans rfl; have b3 := fun o_ => (blk_cell (blk_alloc BK1.out o_) 3).trans rfl; have a4 := (blk_cell BK1.out 4).trans rfl; have b4 := fun o_ => (blk_cell (blk_alloc BK1.out o_) 4).trans rfl; have a5 := (blk_cell BK1.out 5).trans rfl; have b5 := fun o_ => (blk_cell (blk_alloc BK1.out o_) 5).trans rfl)
      | (go_at_call 36; (with_reducible refine (idx7 w1 36 2 rfl).mono ?_); rintro e w2 ⟨rfl, ⟨nd, rfl⟩⟩))
    exact bodyPost_ret (v := .tuple #[.int .i64 0, .int .i64 231]) (by simp [results, Tryd.results17, go_sem]) rfl ⟨by rw [HTF.out], pw_below_drewN (below_alloc H1.out _) _⟩
  by_cases hs1 : n + add < 0
  · skip
    have HTF := Aside0.mk (show tailF n n add = (0, 231) from by unfold tailF; rw [if_neg (by omega), if_pos (.inl hs1)])
    have g1 : (n < 0) = False := eq_false (by omega)
    have g3 : (n < n) = False := eq_false (by omega)
    have g6 : (0 ≤ n) = True := eq_true (by omega)
    have g5 : (n < add) = False := eq_false hk
    have g7 : (n + add < 0) = True := eq_true hs1
    go_enter Tryd.func17, Tryd.ntmps17
    go_wp2_with (first
      | (go_at_call 18; (with_reducible refine (HCT.out _ HB.out).mono ?_); rintro e w1 ⟨rfl, hy⟩; have BK1 := Aside0.mk (blk_below BX.out hy); have H1 := Aside0.mk (below_step HB.out hy); clear hy; have a0 := (blk_cell BK1.out 0).trans rfl; have b0 := fun o_ => (blk_cell (blk_alloc BK1.out o_) 0).trans rfl; have a1 := (blk_cell BK1.out 1).trans rfl; have b1 := fun o_ => (blk_cell (blk_alloc BK1.out o_) 1).trans rfl; have a2 := (blk_cell BK1.out 2).trans rfl; have b2 := fun o_ => (blk_cell (blk_alloc BK1.out o_) 2).trans rfl; have a3 := (blk_cell BK1.out 3).trans rfl; have b3 := fun o_ => (blk_cell (blk_alloc BK1.out o_) 3).trans rfl; have a4 := (blk_cell BK1.out 4).trans rfl; have b4 := fun o_ => (blk_cell (blk_alloc BK1.out o_) 4).trans rfl; have a5 := (blk_cell BK1.out 5).trans rfl; have b5 := fun o_ => (blk_cell (blk_alloc BK1.out o_) 5).trans rfl)
      | (go_at_call 36; (with_reducible refine (idx7 w1 36 2 rfl).mono ?_); rintro e w2 ⟨rfl, ⟨nd, rfl⟩⟩))
    exact bodyPost_ret (v := .tuple #[.int .i64 0, .int .i64 231]) (by simp [results, Tryd.results17, go_sem]) rfl ⟨by rw [HTF.out], pw_below_drewN (below_alloc H1.out _) _⟩
  by_cases hs2 : n < n + add
  · skip
    have HTF := Aside0.mk (show tailF n n add = (0, 231) from by unfold tailF; rw [if_neg (by omega), if_pos (.inr hs2)])
    have g1 : (n < 0) = False := eq_false (by omega)
    have g3 : (n < n) = False := eq_false (by omega)
    have g6 : (0 ≤ n) = True := eq_true (by omega)
    have g5 : (n < add) = False := eq_false hk
    have g7 : (n + add < 0) = False := eq_false hs1
    have g8 : (n < n + add) = True := eq_true hs2
    go_enter Tryd.func17, Tryd.ntmps17
    go_wp2_with (first
      | (go_at_call 18; (with_reducible refine (HCT.out _ HB.out).mono ?_); rintro e w1 ⟨rfl, hy⟩; have BK1 := Aside0.mk (blk_below BX.out hy); have H1 := Aside0.mk (below_step HB.out hy); clear hy; have a0 := (blk_cell BK1.out 0).trans rfl; have b0 := fun o_ => (blk_cell (blk_alloc BK1.out o_) 0).trans rfl; have a1 := (blk_cell BK1.out 1).trans rfl; have b1 := fun o_ => (blk_cell (blk_alloc BK1.out o_) 1).trans rfl; have a2 := (blk_cell BK1.out 2).trans rfl; have b2 := fun o_ => (blk_cell (blk_alloc BK1.out o_) 2).trans rfl; have a3 := (blk_cell BK1.out 3).trans rfl; have b3 := fun o_ => (blk_cell (blk_alloc BK1.out o_) 3).trans rfl; have a4 := (blk_cell BK1.out 4).trans rfl; have b4 := fun o_ => (blk_cell (blk_alloc BK1.out o_) 4).trans rfl; have a5 := (blk_cell BK1.out 5).trans rfl; have b5 := fun o_ => (blk_cell (blk_alloc BK1.out o_) 5).trans rfl)
      | (go_at_call 36; (with_reducible refine (idx7 w1 36 2 rfl).mono ?_); rintro e w2 ⟨rfl, ⟨nd, rfl⟩⟩))
    exact bodyPost_ret (v := .tuple #[.int .i64 0, .int .i64 231]) (by simp [results, Tryd.results17, go_sem]) rfl ⟨by rw [HTF.out], pw_below_drewN (below_alloc H1.out _) _⟩
  have HTF := Aside0.mk (show tailF n n add = ((n + add), 0) from by unfold tailF; rw [if_neg (by omega), if_neg (by omega)])
  have g1 : (n < 0) = False := eq_false (by omega)
  have g3 : (n < n) = False := eq_false (by omega)
  have g6 : (0 ≤ n) = True := eq_true (by omega)
  have g5 : (n < add) = False := eq_false hk
  have g7 : (n + add < 0) = False := eq_false hs1
  have g8 : (n < n + add) = False := eq_false hs2
  go_enter Tryd.func17, Tryd.ntmps17
  go_wp2_with (first
    | (go_at_call 18; (with_reducible refine (HCT.out _ HB.out).mono ?_); rintro e w1 ⟨rfl, hy⟩; have BK1 := Aside0.mk (blk_below BX.out hy); have H1 := Aside0.mk (below_step HB.out hy); clear hy; have a0 := (blk_cell BK1.out 0).trans rfl; have b0 := fun o_ => (blk_cell (blk_alloc BK1.out o_) 0).trans rfl; have a1 := (blk_cell BK1.out 1).trans rfl; have b1 := fun o_ => (blk_cell (blk_alloc BK1.out o_) 1).trans rfl; have a2 := (blk_cell BK1.out 2).trans rfl; have b2 := fun o_ => (blk_cell (blk_alloc BK1.out o_) 2).trans rfl; have a3 := (blk_cell BK1.out 3).trans rfl; have b3 := fun o_ => (blk_cell (blk_alloc BK1.out o_) 3).trans rfl; have a4 := (blk_cell BK1.out 4).trans rfl; have b4 := fun o_ => (blk_cell (blk_alloc BK1.out o_) 4).trans rfl; have a5 := (blk_cell BK1.out 5).trans rfl; have b5 := fun o_ => (blk_cell (blk_alloc BK1.out o_) 5).trans rfl)
    | (go_at_call 36; (with_reducible refine (idx7 w1 36 2 rfl).mono ?_); rintro e w2 ⟨rfl, ⟨nd, rfl⟩⟩))
  exact bodyPost_ret (v := .tuple #[.int .i64 (n + add), .int .i64 0]) (by simp [results, Tryd.results17, go_sem]) rfl ⟨by rw [HTF.out], pw_below_drewN (below_alloc H1.out _) _⟩
set_option maxHeartbeats 16000000 in
set_option maxRecDepth 100000 in
theorem find_47 {w : World} {A Ah Ax : Option Addr} {c ch cx : Nat} {t hunt x : List Int} {now num name add : Int} {M : Array Value} (hr : Kd.C (Kd.int .u8) w A t.length t) (hc : t.length ≤ c) (ht : byte t) (hl : t.length ≤ 1048576) (hn1 : 1 ≤ now) (hn2 : now ≤ linesN t) (hh : Kd.C (Kd.int .u8) w Ah hunt.length hunt) (bh : byte hunt) (hx : Kd.C (Kd.int .u8) w Ax x.length x) (bx : byte x) (ha1 : -9223372036854775808 ≤ add) (ha2 : add ≤ 9223372036854775807) (hm1 : -9223372036854775808 ≤ num) (hm2 : num ≤ 9223372036854775807) :
    Calls Tryd.prog 17 #[.slice A t.length c, .int .i64 now, .agg M, .slice Ah hunt.length ch, .agg #[.int .u8 47, .int .i64 num, .int .u8 name, .slice Ax x.length cx, .int .i64 add, .bool true]] w fun e w' => e = .returned (.tuple #[.int .i64 ((if (searchA t now hunt 47 x).2 = 0 then tailF (searchA t now hunt 47 x).1 (linesN t) add else (0, (searchA t now hunt 47 x).2))).1, .int .i64 ((if (searchA t now hunt 47 x).2 = 0 then tailF (searchA t now hunt 47 x).1 (linesN t) add else (0, (searchA t now hunt 47 x).2))).2]) ∧ Below w.heap.size w w' := by
  have BX := Aside0.mk (show ((w.alloc (.cells M 37)).alloc (.cells #[.int .u8 47, .int .i64 num, .int .u8 name, .slice Ax x.length cx, .int .i64 add, .bool true] 25)).heap[w.heap.size + 1]? = some (.cells #[.int .u8 47, .int .i64 num, .int .u8 name, .slice Ax x.length cx, .int .i64 add, .bool true] 25) from by have h := blk_new (w.alloc (.cells M 37)) (.cells #[.int .u8 47, .int .i64 num, .int .u8 name, .slice Ax x.length cx, .int .i64 add, .bool true] 25); rw [World.size_alloc] at h; exact h)
  have HB := Aside0.mk (below_alloc (below_alloc (Below.refl w.heap.size w) (.cells M 37)) (.cells #[.int .u8 47, .int .i64 num, .int .u8 name, .slice Ax x.length cx, .int .i64 add, .bool true] 25))
  have HCT := Aside0.mk (fun (W : World) (h : Below w.heap.size w W) => X.lines_Count.calls A c t (linesN t) W (Kd.C_below hr h) hc (count_eq ht hl))
  have kc := fun (w_ : World) (C_ : Array Value) (n_ c_ : Nat) => Lib.run_convert_bytes_const (P := Tryd.prog) w_ 22 5 C_ n_ c_ Tryd.underlying22 Tryd.underlying5
  have hn0 : 1 ≤ linesN t := by have h := split_cnt t; have h2 : 0 ≤ X.cnt 10 t := cnt_nonneg 10 t; unfold linesN; omega
  have hn9 : linesN t ≤ 1048577 := by have h := split_len t; unfold linesN; omega
  have HSR := Aside0.mk (fun (W : World) (h : Below w.heap.size w W) => search_calls (w := W) (num := num) (name := name) (add := add) (given := true) (base := 47) (cx := cx) (ch := ch) (Kd.C_below hr h) hc ht (Kd.C_below hh h) bh (Kd.C_below hx h) bx hl hn1 hn2)
  have hrg := search_range t now hunt 47 x hn1 hn2
  generalize searchA t now hunt 47 x = r at HSR hrg ⊢
  obtain ⟨rl, re⟩ := r
  simp only at HSR hrg ⊢
  generalize linesN t = n at HCT hn1 hn2 hn0 hn9 hrg ⊢
  have f1 : (now < 1) = False := eq_false (by omega)
  have f2 : (n < now) = False := eq_false (by omega)
  clear hh bh hx bx
  by_cases he : re = 0
  · rw [if_pos he]
    subst he
    have hr2 := hrg rfl
    clear hrg
    by_cases hk : n < add
    · skip
      have HTF := Aside0.mk (show tailF rl n add = (0, 231) from by unfold tailF; rw [if_pos (by omega)])
      have g1 : (rl < 0) = False := eq_false (by omega)
      have g3 : (n < rl) = False := eq_false (by omega)
      have g6 : (0 ≤ rl) = True := eq_true (by omega)
      have g5 : (n < add) = True := eq_true hk
      go_enter Tryd.func17, Tryd.ntmps17
      go_wp2_with (first
        | (go_at_call 18; (with_reducible refine (HCT.out _ HB.out).mono ?_); rintro e w1 ⟨rfl, hy⟩; have BK1 := Aside0.mk (blk_below BX.out hy); have H1 := Aside0.mk (below_step HB.out hy); clear hy; have a0 := (blk_cell BK1.out 0).trans rfl; have b0 := fun o_ => (blk_cell (blk_alloc BK1.out o_) 0).trans rfl; have a1 := (blk_cell BK1.out 1).trans rfl; have b1 := fun o_ => (blk_cell (blk_alloc BK1.out o_) 1).trans rfl; have a2 := (blk_cell BK1.out 2).trans rfl; have b2 := fun o_ => (blk_cell (blk_alloc BK1.out o_) 2).trans rfl; have a3 := (blk_cell BK1.out 3).trans rfl; have b3 := fun o_ => (blk_cell (blk_alloc BK1.out o_) 3).trans rfl; have a4 := (blk_cell BK1.out 4).trans rfl; have b4 := fun o_ => (blk_cell (blk_alloc BK1.out o_) 4).trans rfl; have a5 := (blk_cell BK1.out 5).trans rfl; have b5 := fun o_ => (blk_cell (blk_alloc BK1.out o_) 5).trans rfl)
        | (go_at_call 36; (with_reducible refine (idx7 w1 47 4 rfl).mono ?_); rintro e w2 ⟨rfl, ⟨nd, rfl⟩⟩)
        | (go_at_call 39; (with_reducible refine (HSR.out _ (pw_below_drewN (below_alloc H1.out _) _)).mono ?_); rintro e w3 ⟨rfl, hy⟩; have H3 := Aside0.mk (below_step (pw_below_drewN (below_alloc H1.out _) _) hy); have d4 := (blk_cell (blk_below (blk_drewN (blk_alloc BK1.out _) _) hy) 4).trans rfl; clear hy))
      exact bodyPost_ret (v := .tuple #[.int .i64 0, .int .i64 231]) (by simp [results, Tryd.results17, go_sem]) rfl ⟨by rw [HTF.out], H3.out⟩
    by_cases hs1 : rl + add < 0
    · skip
      have HTF := Aside0.mk (show tailF rl n add = (0, 231) from by unfold tailF; rw [if_neg (by omega), if_pos (.inl hs1)])
      have g1 : (rl < 0) = False := eq_false (by omega)
      have g3 : (n < rl) = False := eq_false (by omega)
      have g6 : (0 ≤ rl) = True := eq_true (by omega)
      have g5 : (n < add) = False := eq_false hk
      have g7 : (rl + add < 0) = True := eq_true hs1
      go_enter Tryd.func17, Tryd.ntmps17
      go_wp2_with (first
        | (go_at_call 18; (with_reducible refine (HCT.out _ HB.out).mono ?_); rintro e w1 ⟨rfl, hy⟩; have BK1 := Aside0.mk (blk_below BX.out hy); have H1 := Aside0.mk (below_step HB.out hy); clear hy; have a0 := (blk_cell BK1.out 0).trans rfl; have b0 := fun o_ => (blk_cell (blk_alloc BK1.out o_) 0).trans rfl; have a1 := (blk_cell BK1.out 1).trans rfl; have b1 := fun o_ => (blk_cell (blk_alloc BK1.out o_) 1).trans rfl; have a2 := (blk_cell BK1.out 2).trans rfl; have b2 := fun o_ => (blk_cell (blk_alloc BK1.out o_) 2).trans rfl; have a3 := (blk_cell BK1.out 3).trans rfl; have b3 := fun o_ => (blk_cell (blk_alloc BK1.out o_) 3).trans rfl; have a4 := (blk_cell BK1.out 4).trans rfl; have b4 := fun o_ => (blk_cell (blk_alloc BK1.out o_) 4).trans rfl; have a5 := (blk_cell BK1.out 5).trans rfl; have b5 := fun o_ => (blk_cell (blk_alloc BK1.out o_) 5).trans rfl)
        | (go_at_call 36; (with_reducible refine (idx7 w1 47 4 rfl).mono ?_); rintro e w2 ⟨rfl, ⟨nd, rfl⟩⟩)
        | (go_at_call 39; (with_reducible refine (HSR.out _ (pw_below_drewN (below_alloc H1.out _) _)).mono ?_); rintro e w3 ⟨rfl, hy⟩; have H3 := Aside0.mk (below_step (pw_below_drewN (below_alloc H1.out _) _) hy); have d4 := (blk_cell (blk_below (blk_drewN (blk_alloc BK1.out _) _) hy) 4).trans rfl; clear hy))
      exact bodyPost_ret (v := .tuple #[.int .i64 0, .int .i64 231]) (by simp [results, Tryd.results17, go_sem]) rfl ⟨by rw [HTF.out], H3.out⟩
    by_cases hs2 : n < rl + add
    · skip
      have HTF := Aside0.mk (show tailF rl n add = (0, 231) from by unfold tailF; rw [if_neg (by omega), if_pos (.inr hs2)])
      have g1 : (rl < 0) = False := eq_false (by omega)
      have g3 : (n < rl) = False := eq_false (by omega)
      have g6 : (0 ≤ rl) = True := eq_true (by omega)
      have g5 : (n < add) = False := eq_false hk
      have g7 : (rl + add < 0) = False := eq_false hs1
      have g8 : (n < rl + add) = True := eq_true hs2
      go_enter Tryd.func17, Tryd.ntmps17
      go_wp2_with (first
        | (go_at_call 18; (with_reducible refine (HCT.out _ HB.out).mono ?_); rintro e w1 ⟨rfl, hy⟩; have BK1 := Aside0.mk (blk_below BX.out hy); have H1 := Aside0.mk (below_step HB.out hy); clear hy; have a0 := (blk_cell BK1.out 0).trans rfl; have b0 := fun o_ => (blk_cell (blk_alloc BK1.out o_) 0).trans rfl; have a1 := (blk_cell BK1.out 1).trans rfl; have b1 := fun o_ => (blk_cell (blk_alloc BK1.out o_) 1).trans rfl; have a2 := (blk_cell BK1.out 2).trans rfl; have b2 := fun o_ => (blk_cell (blk_alloc BK1.out o_) 2).trans rfl; have a3 := (blk_cell BK1.out 3).trans rfl; have b3 := fun o_ => (blk_cell (blk_alloc BK1.out o_) 3).trans rfl; have a4 := (blk_cell BK1.out 4).trans rfl; have b4 := fun o_ => (blk_cell (blk_alloc BK1.out o_) 4).trans rfl; have a5 := (blk_cell BK1.out 5).trans rfl; have b5 := fun o_ => (blk_cell (blk_alloc BK1.out o_) 5).trans rfl)
        | (go_at_call 36; (with_reducible refine (idx7 w1 47 4 rfl).mono ?_); rintro e w2 ⟨rfl, ⟨nd, rfl⟩⟩)
        | (go_at_call 39; (with_reducible refine (HSR.out _ (pw_below_drewN (below_alloc H1.out _) _)).mono ?_); rintro e w3 ⟨rfl, hy⟩; have H3 := Aside0.mk (below_step (pw_below_drewN (below_alloc H1.out _) _) hy); have d4 := (blk_cell (blk_below (blk_drewN (blk_alloc BK1.out _) _) hy) 4).trans rfl; clear hy))
      exact bodyPost_ret (v := .tuple #[.int .i64 0, .int .i64 231]) (by simp [results, Tryd.results17, go_sem]) rfl ⟨by rw [HTF.out], H3.out⟩
    have HTF := Aside0.mk (show tailF rl n add = ((rl + add), 0) from by unfold tailF; rw [if_neg (by omega), if_neg (by omega)])
    have g1 : (rl < 0) = False := eq_false (by omega)
    have g3 : (n < rl) = False := eq_false (by omega)
    have g6 : (0 ≤ rl) = True := eq_true (by omega)
    have g5 : (n < add) = False := eq_false hk
    have g7 : (rl + add < 0) = False := eq_false hs1
    have g8 : (n < rl + add) = False := eq_false hs2
    go_enter Tryd.func17, Tryd.ntmps17
    go_wp2_with (first
      | (go_at_call 18; (with_reducible refine (HCT.out _ HB.out).mono ?_); rintro e w1 ⟨rfl, hy⟩; have BK1 := Aside0.mk (blk_below BX.out hy); have H1 := Aside0.mk (below_step HB.out hy); clear hy; have a0 := (blk_cell BK1.out 0).trans rfl; have b0 := fun o_ => (blk_cell (blk_alloc BK1.out o_) 0).trans rfl; have a1 := (blk_cell BK1.out 1).trans rfl; have b1 := fun o_ => (blk_cell (blk_alloc BK1.out o_) 1).trans rfl; have a2 := (blk_cell BK1.out 2).trans rfl; have b2 := fun o_ => (blk_cell (blk_alloc BK1.out o_) 2).trans rfl; have a3 := (blk_cell BK1.out 3).trans rfl; have b3 := fun o_ => (blk_cell (blk_alloc BK1.out o_) 3).trans rfl; have a4 := (blk_cell BK1.out 4).trans rfl; have b4 := fun o_ => (blk_cell (blk_alloc BK1.out o_) 4).trans rfl; have a5 := (blk_cell BK1.out 5).trans rfl; have b5 := fun o_ => (blk_cell (blk_alloc BK1.out o_) 5).trans rfl)
      | (go_at_call 36; (with_reducible refine (idx7 w1 47 4 rfl).mono ?_); rintro e w2 ⟨rfl, ⟨nd, rfl⟩⟩)
      | (go_at_call 39; (with_reducible refine (HSR.out _ (pw_below_drewN (below_alloc H1.out _) _)).mono ?_); rintro e w3 ⟨rfl, hy⟩; have H3 := Aside0.mk (below_step (pw_below_drewN (below_alloc H1.out _) _) hy); have d4 := (blk_cell (blk_below (blk_drewN (blk_alloc BK1.out _) _) hy) 4).trans rfl; clear hy))
    exact bodyPost_ret (v := .tuple #[.int .i64 (rl + add), .int .i64 0]) (by simp [results, Tryd.results17, go_sem]) rfl ⟨by rw [HTF.out], H3.out⟩
  · rw [if_neg he]
    have f3 : (re != 0) = true := bne_iff_ne.2 he
    clear he hrg
    go_enter Tryd.func17, Tryd.ntmps17
    go_wp2_with (first
      | (go_at_call 18; (with_reducible refine (HCT.out _ HB.out).mono ?_); rintro e w1 ⟨rfl, hy⟩; have BK1 := Aside0.mk (blk_below BX.out hy); have H1 := Aside0.mk (below_step HB.out hy); clear hy; have a0 := (blk_cell BK1.out 0).trans rfl; have b0 := fun o_ => (blk_cell (blk_alloc BK1.out o_) 0).trans rfl; have a1 := (blk_cell BK1.out 1).trans rfl; have b1 := fun o_ => (blk_cell (blk_alloc BK1.out o_) 1).trans rfl; have a2 := (blk_cell BK1.out 2).trans rfl; have b2 := fun o_ => (blk_cell (blk_alloc BK1.out o_) 2).trans rfl; have a3 := (blk_cell BK1.out 3).trans rfl; have b3 := fun o_ => (blk_cell (blk_alloc BK1.out o_) 3).trans rfl; have a4 := (blk_cell BK1.out 4).trans rfl; have b4 := fun o_ => (blk_cell (blk_alloc BK1.out o_) 4).trans rfl; have a5 := (blk_cell BK1.out 5).trans rfl; have b5 := fun o_ => (blk_cell (blk_alloc BK1.out o_) 5).trans rfl)
      | (go_at_call 36; (with_reducible refine (idx7 w1 47 4 rfl).mono ?_); rintro e w2 ⟨rfl, ⟨nd, rfl⟩⟩)
      | (go_at_call 39; (with_reducible refine (HSR.out _ (pw_below_drewN (below_alloc H1.out _) _)).mono ?_); rintro e w3 ⟨rfl, hy⟩; have H3 := Aside0.mk (below_step (pw_below_drewN (below_alloc H1.out _) _) hy); have d4 := (blk_cell (blk_below (blk_drewN (blk_alloc BK1.out _) _) hy) 4).trans rfl; clear hy))
    exact bodyPost_ret (v := .tuple #[.int .i64 0, .int .i64 re]) (by simp [results, Tryd.results17, go_sem]) rfl ⟨rfl, H3.out⟩
end Go.Proofs.YtdhdngoeaneanaaDoor.PT
end
section
namespace Go.Proofs.YtdhdngoeaneanaaDoor.PT
open Go.RowKit Go.Proofs.YtdhdngoeaneanaaDoorW.PrintWords Go.Proofs.YtdhdngoeaneanaaDoorW.PrintMore
set_option linter.unusedVariables false
set_option linter.unusedSimpArgs false
/-- Marks as cells. -/
def marks (l : List Int) : Array Value := (l.map (Value.int .i64)).toArray
theorem marks_size (l : List Int) : (marks l).size = l.length := by simp [marks]
theorem marks_one (l : List Int) : (marks l).all (·.oneCell') = true := Array.all_eq_true_iff_forall_mem.2 (fun v hv => by
  simp [marks] at hv
  obtain ⟨x, _, rfl⟩ := hv
  rfl)
theorem marks_get {l : List Int} {i : Nat} (h : i < l.length) : (marks l)[i]? = some (.int .i64 (l.getD i 0)) := by
  simp [marks, h]
theorem marks_set (l : List Int) (i : Nat) (x : Int) : (marks l).setIfInBounds i (.int .i64 x) = marks (l.set i x) := by
  simp [marks, List.map_set]
def nil27 : List Int := List.replicate 27 0
theorem zmk (w : World) : (zeroValue 37).run Tryd.prog w = .ok (.agg (marks nil27)) w := by kernel_rfl
theorem szmk : (Tryd.prog.info? 37).map (·.size) = some 27 := by kernel_rfl
theorem szmk' {l : List Int} (h : l.length = 27) : (Tryd.prog.info? 37).map (·.size) = some (marks l).size := by rw [marks_size, h]; exact szmk
theorem szar : (Tryd.prog.info? 35).map (·.size) = some 26 := by kernel_rfl
theorem bld27 : Tryd.prog.built 37 [] = some (marks nil27) := by kernel_rfl
section
variable {P : Program} {ops : Array Oper} {rest : List Oper} {o : Oper} {a : Act} {Q : Exit → Act → World → Prop} {W : World}
theorem wpl_build0 (hgd : o.guard = none) (t : TypeId) (ho : o.op = .build t #[]) (cells : Array Value)
    (hf : P.built t [] = some cells) (h : wpList P ops Q rest (a.put o.dst (.agg cells)) W) : wpList P ops Q (o :: rest) a W := by
  have hf' : P.built t ((#[] : Array (Nat × Operand)).map fun (i, x) => (i, a.eval x)).toList = some cells := by simpa using hf
  exact wpList_plain hgd fun _ hK => wp_build t _ ho (by rw [hf']; rfl) (by rw [hf']; exact hK _ _ h)
end
theorem range26 {w : World} {g : Nat} {l : List Int} (h : w.heap[g]? = some (.cells (marks l) 37 (0, 0))) (hl : l.length = 27) : w.rangeAt g 0 ((l.take 26).map (Value.int .i64)) := by
  have h2 := World.rangeAt_of_block h 0 26
  rw [show ((marks l).extract 0 (0 + 26)).toList = (l.take 26).map (Value.int .i64) from by simp [marks, List.map_take]] at h2
  exact h2
theorem idx27 {N : Array Value} {i : Nat} {x : Int} (hi : i < 26) (h : N[i]? = some (.int .i64 x)) (w : World) : (Instr.index 35 (.agg N) (.int .i64 i)).run Tryd.prog w = .ok (.int .i64 x) w := by
  have hs : (sizeOf 3).run Tryd.prog w = .ok 1 w := by kernel_rfl
  simp [Instr.index, run_underlying Tryd.underlying35, asIntOf, hi, go_sem, part, hs, h]
theorem unset_calls {w : World} (x : Int) : Calls Tryd.prog 45 #[.int .i64 x] w fun e w' => e = .returned (.int .i64 (-1)) ∧ Below w.heap.size w w' := by
  go_enter Tryd.func45, Tryd.ntmps45
  go_wp2
  exact bodyPost_ret (v := .int .i64 (-1)) (by simp [results, Tryd.results45, go_sem]) rfl ⟨rfl, Below.refl _ _⟩
set_option maxHeartbeats 4000000 in
set_option maxRecDepth 100000 in
theorem each_calls {w : World} {l : List Int} (hl : l.length = 27) : Calls Tryd.prog 44 #[.agg (marks l), .func (Fn.func 45) #[] #[]] w fun e w' => ∃ l' : List Int, l'.length = 27 ∧ e = .returned (.agg (marks l')) ∧ Below w.heap.size w w' := by
  have z := zmk
  have HR := Aside0.mk (show ((w.alloc (.cells (marks l) 37)).alloc (.cells (marks nil27) 37)).heap[w.heap.size]? = some (.cells (marks l) 37 (0, 0)) from blk_alloc (blk_new w _) _)
  have HZ := Aside0.mk (show ((w.alloc (.cells (marks l) 37)).alloc (.cells (marks nil27) 37)).heap[w.heap.size + 1]? = some (.cells (marks nil27) 37 (0, 0)) from by have h := blk_new (w.alloc (.cells (marks l) 37)) (.cells (marks nil27) 37); rw [World.size_alloc] at h; exact h)
  have HB := Aside0.mk (below_alloc (below_alloc (Below.refl w.heap.size w) (.cells (marks l) 37)) (.cells (marks nil27) 37))
  go_enter Tryd.func44, Tryd.ntmps44
  go_wp2_with ((with_reducible refine gate_ (.load 35 (.tmp 7)) rfl ?_); refine wpList_load_mid rfl 35 (.tmp 7) rfl w.heap.size 0 rfl ((l.take 26).map (Value.int .i64)) _ (range26 HR.out hl) Tryd.underlying35 rfl (by rw [List.length_map, List.length_take, hl]; exact szar) ?_)
  have hg : ∀ i : Nat, i < 26 → (List.take 26 (List.map (Value.int .i64) l)).toArray[i]? = some (.int .i64 (l.getD i 0)) := fun i hi => by
    have h1 : i < l.length := by omega
    simp [List.getElem?_take, hi, h1]
  generalize (List.take 26 (List.map (Value.int .i64) l)).toArray = N at hg ⊢
  generalize ((w.alloc (.cells (marks l) 37)).alloc (.cells (marks nil27) 37)) = W at HR HZ HB ⊢
  have HG := Aside0.mk hg
  clear hg z
  go_loopg [9] 26 (fun g v9 wl => ∃ (i : Nat) (L : List Int), i + g = 26 ∧ v9 = .int .i64 i ∧ Aside0 (L.length = 27 ∧ wl.heap[w.heap.size]? = some (.cells (marks L) 37 (0, 0)) ∧ wl.heap[w.heap.size + 1]? = some (.cells (marks nil27) 37 (0, 0)) ∧ Below w.heap.size w wl))
  case atStart => exact ⟨0, l, by omega, rfl, ⟨hl, HR.out, HZ.out, HB.out⟩⟩
  case round =>
    obtain ⟨i, L, hi, rfl, HL⟩ := hrel
    clear HR HZ HB
    cases gk with
    | succ g =>
      have q1 : ((i : Int) < 26) = True := eq_true (by omega)
      have q2 : (0 ≤ (i : Int)) = True := eq_true (by omega)
      have hn := idx27 (by omega) (HG.out i (by omega))
      have HM := Aside0.mk HL.out.2.1
      go_wp2_with (go_at_call 45; (with_reducible refine (unset_calls _).mono ?_); rintro e w2 ⟨rfl, hy⟩; have HN := Aside0.mk (blk_below HM.out hy); have HX := Aside0.mk (And.intro (blk_below HL.out.2.2.1 hy) (below_step HL.out.2.2.2 hy)); have c1 := (blk_cell HN.out i).trans (marks_get (by have h1 := HL.out.1; omega)); have c2 := blk_frozen HN.out i; clear hy)
      go_roundg g
      case measure => omega
      case rel =>
        refine ⟨i + 1, L.set i (-1), by omega, by go_num, ⟨by rw [List.length_set]; exact HL.out.1, ?_, ?_, HX.out.2.setCell (p := ⟨w.heap.size, i, none⟩) (Nat.le_refl _) _⟩⟩
        · have h := blk_set HN.out i (.int .i64 (-1))
          rw [marks_set] at h
          exact h
        · exact blk_far HX.out.1 (p := ⟨w.heap.size, i, none⟩) (by show w.heap.size + 1 ≠ w.heap.size; omega) _
    | zero =>
      have q1 : ((i : Int) < 26) = False := eq_false (by omega)
      have c0 := (blk_cell HL.out.2.1 26).trans (marks_get (by have h1 := HL.out.1; omega))
      have HM := Aside0.mk HL.out.2.1
      go_wp2_with (first
        | (go_at_call 45; (with_reducible refine (unset_calls _).mono ?_); rintro e w2 ⟨rfl, hy⟩; have HN := Aside0.mk (blk_below HM.out hy); have HX := Aside0.mk (And.intro (blk_below HL.out.2.2.1 hy) (below_step HL.out.2.2.2 hy)); have c1 := (blk_cell HN.out 26).trans (marks_get (by have h1 := HL.out.1; omega)); have c2 := blk_frozen HN.out 26; have HP := Aside0.mk (by have h := blk_set HN.out 26 (.int .i64 (-1)); rw [marks_set] at h; exact h); have HQ := Aside0.mk (blk_far HX.out.1 (p := ⟨w.heap.size, 26, none⟩) (by show w.heap.size + 1 ≠ w.heap.size; omega) (.int .i64 (-1))); clear hy)
        | ((with_reducible refine gate_ (.load 37 (.tmp 2)) rfl ?_); refine wpList_load_row rfl 37 (.tmp 2) rfl w.heap.size rfl _ _ _ _ HP.out Tryd.underlying37 rfl (szmk' (by rw [List.length_set]; exact HL.out.1)) ?_)
        | ((with_reducible refine gate_ (.store 37 (.tmp 4) (.tmp 25)) rfl ?_); refine wpList_store_row rfl 37 (.tmp 4) (.tmp 25) rfl (w.heap.size + 1) (marks (L.set 26 (-1))) rfl rfl _ _ HQ.out (szmk' (by rw [List.length_set]; exact HL.out.1)) (by rw [marks_size, marks_size, List.length_set, HL.out.1]; rfl) (marks_one _) ?_))
      exact bodyPost_ret (v := .agg (marks (L.set 26 (-1)))) (results_cell_row Tryd.results44 _ _ (w.heap.size + 1) 37 (marks (L.set 26 (-1))) (0, 0) _ rfl (setRow_heap _ _ _ _ _ _ HQ.out) Tryd.underlying37 rfl (szmk' (by rw [List.length_set]; exact HL.out.1))) rfl ⟨_, by rw [List.length_set]; exact HL.out.1, rfl, below_setRow (HX.out.2.setCell (p := ⟨w.heap.size, 26, none⟩) (Nat.le_refl _) _) (by omega) _⟩
set_option maxHeartbeats 4000000 in
set_option maxRecDepth 100000 in
theorem none_calls {w : World} : Calls Tryd.prog 21 #[] w fun e w' => ∃ M : Array Value, e = .returned (.agg M) ∧ Below w.heap.size w w' := by
  have z := zmk
  have HZ := Aside0.mk (blk_new w (.cells (marks nil27) 37))
  have HB := Aside0.mk (below_alloc (Below.refl w.heap.size w) (.cells (marks nil27) 37))
  go_enter Tryd.func21, Tryd.ntmps21
  go_wp2_with (first
    | ((with_reducible refine gate_ (.build 37 #[]) rfl ?_); refine wpl_build0 rfl 37 rfl (marks nil27) bld27 ?_)
    | (go_at_call 44; (with_reducible refine (each_calls (l := nil27) rfl).mono ?_); rintro e w2 ⟨l', hl', rfl, hy⟩; have HX := Aside0.mk (And.intro (blk_below HZ.out hy) (below_step HB.out hy)); have HL := Aside0.mk hl'; clear hy hl')
    | ((with_reducible refine gate_ (.store 37 (.tmp 0) (.tmp 2)) rfl ?_); refine wpList_store_row rfl 37 (.tmp 0) (.tmp 2) rfl w.heap.size (marks l') rfl rfl _ _ HX.out.1 (szmk' HL.out) (by rw [marks_size, marks_size, HL.out]; rfl) (marks_one _) ?_))
  exact bodyPost_ret (v := .agg (marks l')) (results_cell_row Tryd.results21 _ _ w.heap.size 37 (marks l') (0, 0) _ rfl (setRow_heap _ _ _ _ _ _ HX.out.1) Tryd.underlying37 rfl (szmk' HL.out)) rfl ⟨_, rfl, below_setRow HX.out.2 (Nat.le_refl _) _⟩
end Go.Proofs.YtdhdngoeaneanaaDoor.PT
end
section
namespace Go.Proofs.YtdhdngoeaneanaaDoor.PT
open Go.RowKit Go.Proofs.YtdhdngoeaneanaaDoorW.PrintWords Go.Proofs.YtdhdngoeaneanaaDoorW.PrintMore
set_option linter.unusedVariables false
set_option linter.unusedSimpArgs false
def l1 : List Int := [46, 43, 51, 45, 100]
def l2 : List Int := [97, 120, 10, 98, 10, 97, 120]
theorem par1 : ∃ k, X.address_Parse.f k l1 = some (46, 0, 0, [], 2, true, 4, 0) := ⟨40, by kernel_rfl⟩
theorem snd1 : ∃ k, X.address_sound.f k 46 0 0 [] 2 true = some true := ⟨40, by decide +kernel⟩
theorem lin2 : linesN l2 = 3 := by decide +kernel
theorem sea2 : searchA l2 1 [] 47 [120] = (3, 0) := by decide +kernel
theorem dec2 : dec 2 = [50] := by decide +kernel
theorem alive_parse (w : World) : Calls Tryd.prog 12 #[.slice (some ⟨w.heap.size, 0, none⟩) 5 5] (w.alloc (.cells #[.int .u8 46, .int .u8 43, .int .u8 51, .int .u8 45, .int .u8 100] 5 (5, 6))) fun e w' => ∃ A c, e = .returned (.tuple #[.agg #[.int .u8 46, .int .i64 0, .int .u8 0, .slice A 0 c, .int .i64 2, .bool true], .int .i64 4, .int .i64 0]) ∧ (Kd.int .u8).C w' A 0 [] ∧ Below w.heap.size w w' := by
  obtain ⟨k, hk⟩ := par1
  have h := X.address_Parse.calls k (some ⟨w.heap.size, 0, none⟩) 5 l1 _ _ _ _ _ _ _ _ (w.alloc (.cells #[.int .u8 46, .int .u8 43, .int .u8 51, .int .u8 45, .int .u8 100] 5 (5, 6))) (u8_C (xs := l1) (fr := (5, 6)) (blk_new w _) (by decide)) (by decide) hk
  refine h.mono ?_
  rintro e w' ⟨v, rfl, hr, hb⟩
  obtain ⟨A, c, rfl⟩ := Kd.R_slice hr
  exact ⟨A, c, rfl, (Kd.R_reads' hr).2.2, below_step (below_alloc (Below.refl _ _) _) hb⟩
theorem alive_spell (w : World) {A : Option Addr} {c : Nat} (hC : (Kd.int .u8).C w A 0 []) (htab : Tab w) : Calls Tryd.prog 15 #[.agg #[.int .u8 46, .int .i64 0, .int .u8 0, .slice A 0 c, .int .i64 2, .bool true]] w fun e w' => ∃ A c, e = .returned (.slice A 3 c) ∧ (Kd.int .u8).C w' A 3 [46, 43, 50] ∧ Below w.heap.size w w' := by
  obtain ⟨k, hk⟩ := snd1
  have h := spell_46 (num := 0) (name := 0) (text := []) (given := true) (add := 2) (c := c) hC (by decide) htab (by decide) (by decide) (fun W hW => X.address_sound.calls k 46 0 0 A c [] 2 true true W (Kd.C_below hC hW) (Nat.zero_le _) hk)
  rw [show headV 46 0 0 [] ++ tailV 46 2 = [46, 43, 50] from by unfold headV tailV; rw [dec2]; decide] at h
  refine h.mono ?_
  rintro e w' ⟨v, rfl, hr, hb⟩
  obtain ⟨A2, c2, rfl⟩ := Kd.R_slice hr
  exact ⟨A2, c2, rfl, (Kd.R_reads' hr).2.2, hb⟩
theorem nil_C (w : World) : (Kd.int .u8).C w none 0 [] := (Kd.R_reads' (Kd.R_nil (Kd.int .u8) 5 w 0 (fun _ => True))).2.2
theorem byte2 : byte l2 := fun x hx => by simp [l2] at hx; omega
theorem byte0 : byte [] := fun x hx => by cases hx
theorem byteX : byte [120] := fun x hx => by simp at hx; omega
theorem tail3 : tailF 3 3 0 = (3, 0) := by decide
theorem tail4 : tailF 3 3 1 = (0, 231) := by decide
theorem alive_find47 {w : World} {g : Nat} (hb : w.heap[g]? = some (.cells #[.int .u8 97, .int .u8 120, .int .u8 10, .int .u8 98, .int .u8 10, .int .u8 97, .int .u8 120] 5 (7, 8))) (M : Array Value) : Calls Tryd.prog 17 #[.slice (some ⟨g, 0, none⟩) 7 7, .int .i64 1, .agg M, .slice none 0 0, .agg #[.int .u8 47, .int .i64 0, .int .u8 0, .slice (some ⟨w.heap.size, 0, none⟩) 1 1, .int .i64 0, .bool true]] (w.alloc (.cells #[.int .u8 120] 5 (1, 2))) fun e w' => e = .returned (.tuple #[.int .i64 3, .int .i64 0]) ∧ Below w.heap.size w w' := by
  have h := find_47 (w := w.alloc (.cells #[.int .u8 120] 5 (1, 2))) (A := some ⟨g, 0, none⟩) (c := 7) (t := l2) (now := 1) (M := M) (Ah := none) (hunt := []) (ch := 0) (num := 0) (name := 0) (Ax := some ⟨w.heap.size, 0, none⟩) (x := [120]) (cx := 1) (add := 0) (u8_C (xs := l2) (fr := (7, 8)) (blk_alloc hb _) (by decide)) (by decide) byte2 (by decide) (by decide) (by rw [lin2]; decide) (nil_C _) byte0 (u8_C (xs := [120]) (fr := (1, 2)) (blk_new w _) (by decide)) byteX (by decide) (by decide) (by decide) (by decide)
  rw [sea2, lin2, if_pos (show (((3 : Int), (0 : Int)).2 = 0) from rfl), tail3] at h
  exact h.mono fun e w' ⟨h1, h2⟩ => ⟨h1, below_step (below_alloc (Below.refl _ _) _) h2⟩
theorem alive_find36 {w : World} {g : Nat} (hb : w.heap[g]? = some (.cells #[.int .u8 97, .int .u8 120, .int .u8 10, .int .u8 98, .int .u8 10, .int .u8 97, .int .u8 120] 5 (7, 8))) (M : Array Value) : Calls Tryd.prog 17 #[.slice (some ⟨g, 0, none⟩) 7 7, .int .i64 1, .agg M, .slice none 0 0, .agg #[.int .u8 36, .int .i64 0, .int .u8 0, .slice none 0 0, .int .i64 1, .bool true]] w fun e w' => e = .returned (.tuple #[.int .i64 0, .int .i64 231]) ∧ Below w.heap.size w w' := by
  have h := find_36 (w := w) (A := some ⟨g, 0, none⟩) (c := 7) (t := l2) (now := 1) (M := M) (Ah := none) (hunt := []) (ch := 0) (num := 0) (name := 0) (Ax := none) (x := []) (cx := 0) (add := 1) (u8_C (xs := l2) (fr := (7, 8)) hb (by decide)) (by decide) byte2 (by decide) (by decide) (by rw [lin2]; decide) (by decide) (by decide) (by decide) (by decide)
  rw [lin2, tail4] at h
  exact h
theorem str3 {w : World} {A : Option Addr} {c : Nat} (h : (Kd.int .u8).C w A 3 [46, 43, 50]) : (convert 22 9 (.slice A 3 c)).run Tryd.prog w = .ok (.string ⟨#[46, 43, 50]⟩) w := by
  have h2 := Kd.C_string (P := Tryd.prog) (c := c) Tryd.underlying22 Tryd.underlying5 Tryd.underlying9 h
  rw [show strOfNums [46, 43, 50] = ⟨#[46, 43, 50]⟩ from by decide] at h2
  exact h2
set_option maxHeartbeats 4000000 in
set_option maxRecDepth 100000 in
theorem alive_calls {w : World} (htab : Tab w) : Calls Tryd.prog 10 #[] w fun e w' => e = .returned (.bool true) ∧ Below w.heap.size w w' := by
  have kc := fun (w_ : World) (C_ : Array Value) (n_ c_ : Nat) => Lib.run_convert_bytes_const (P := Tryd.prog) w_ 22 5 C_ n_ c_ Tryd.underlying22 Tryd.underlying5
  have kc1 : ∀ (w_ : World) (o_ : Obj) (C_ : Array Value) (n_ c_ : Nat), (convert 22 22 (.slice (some ⟨w_.heap.size + 1, 0, none⟩) n_ c_)).run Tryd.prog ((w_.alloc o_).alloc (.cells C_ 5)) = .ok (.slice (some ⟨w_.heap.size + 1, 0, none⟩) n_ c_) ((w_.alloc o_).alloc (.cells C_ 5 (C_.size, C_.size + 1))) := fun w_ o_ C_ n_ c_ => by
    have h := kc (w_.alloc o_) C_ n_ c_
    rw [World.size_alloc] at h
    exact h
  have HP := Aside0.mk (alive_parse w)
  go_enter Tryd.func10, Tryd.ntmps10
  go_wp2_with (first
    | (go_at_call 12; (with_reducible refine HP.out.mono ?_); rintro e w1 ⟨A, c, rfl, hC, hx⟩; have H1 := Aside0.mk (And.intro hC hx); have BX := Aside0.mk (blk_new w1 (.cells #[.int .u8 46, .int .i64 0, .int .u8 0, .slice A 0 c, .int .i64 2, .bool true] 25)); have HW1 := Aside0.mk (below_alloc hx (.cells #[.int .u8 46, .int .i64 0, .int .u8 0, .slice A 0 c, .int .i64 2, .bool true] 25)); have BT := Aside0.mk (show ((w1.alloc (.cells #[.int .u8 46, .int .i64 0, .int .u8 0, .slice A 0 c, .int .i64 2, .bool true] 25)).alloc (.cells #[.int .u8 97, .int .u8 120, .int .u8 10, .int .u8 98, .int .u8 10, .int .u8 97, .int .u8 120] 5 (7, 8))).heap[w1.heap.size + 1]? = some (.cells #[.int .u8 97, .int .u8 120, .int .u8 10, .int .u8 98, .int .u8 10, .int .u8 97, .int .u8 120] 5 (7, 8)) from by have h := blk_new (w1.alloc (.cells #[.int .u8 46, .int .i64 0, .int .u8 0, .slice A 0 c, .int .i64 2, .bool true] 25)) (.cells #[.int .u8 97, .int .u8 120, .int .u8 10, .int .u8 98, .int .u8 10, .int .u8 97, .int .u8 120] 5 (7, 8)); rw [World.size_alloc] at h; exact h); clear hC hx)
    | (go_at_call 21; (with_reducible refine (none_calls (w := (w1.alloc (.cells #[.int .u8 46, .int .i64 0, .int .u8 0, .slice A 0 c, .int .i64 2, .bool true] 25)).alloc (.cells #[.int .u8 97, .int .u8 120, .int .u8 10, .int .u8 98, .int .u8 10, .int .u8 97, .int .u8 120] 5 (7, 8)))).mono ?_); rintro e w2 ⟨M1, rfl, hx⟩; have H2 := Aside0.mk (below_step (below_alloc HW1.out (.cells #[.int .u8 97, .int .u8 120, .int .u8 10, .int .u8 98, .int .u8 10, .int .u8 97, .int .u8 120] 5 (7, 8))) hx); have BX2 := Aside0.mk (blk_below (blk_alloc BX.out (.cells #[.int .u8 97, .int .u8 120, .int .u8 10, .int .u8 98, .int .u8 10, .int .u8 97, .int .u8 120] 5 (7, 8))) hx); have BT2 := Aside0.mk (blk_below BT.out hx); have HV2 := Aside0.mk (below_step (below_alloc (below_alloc (Below.refl w1.heap.size w1) (.cells #[.int .u8 46, .int .i64 0, .int .u8 0, .slice A 0 c, .int .i64 2, .bool true] 25)) (.cells #[.int .u8 97, .int .u8 120, .int .u8 10, .int .u8 98, .int .u8 10, .int .u8 97, .int .u8 120] 5 (7, 8))) hx); clear hx)
    | (go_at_call 17; (with_reducible refine (alive_find47 BT2.out M1).mono ?_); rintro e w3 ⟨rfl, hx⟩; have H3 := Aside0.mk (below_step H2.out hx); have BX3 := Aside0.mk (blk_below BX2.out hx); have HV3 := Aside0.mk (below_step HV2.out hx); clear hx)
    | (go_at_call 21; (with_reducible refine (none_calls (w := w3.alloc (.cells #[.int .u8 97, .int .u8 120, .int .u8 10, .int .u8 98, .int .u8 10, .int .u8 97, .int .u8 120] 5 (7, 8)))).mono ?_); rintro e w4 ⟨M2, rfl, hx⟩; have H4 := Aside0.mk (below_step (below_alloc H3.out (.cells #[.int .u8 97, .int .u8 120, .int .u8 10, .int .u8 98, .int .u8 10, .int .u8 97, .int .u8 120] 5 (7, 8))) hx); have BX4 := Aside0.mk (blk_below (blk_alloc BX3.out (.cells #[.int .u8 97, .int .u8 120, .int .u8 10, .int .u8 98, .int .u8 10, .int .u8 97, .int .u8 120] 5 (7, 8))) hx); have BT4 := Aside0.mk (blk_below (blk_new w3 (.cells #[.int .u8 97, .int .u8 120, .int .u8 10, .int .u8 98, .int .u8 10, .int .u8 97, .int .u8 120] 5 (7, 8))) hx); have HV4 := Aside0.mk (below_step (below_alloc HV3.out (.cells #[.int .u8 97, .int .u8 120, .int .u8 10, .int .u8 98, .int .u8 10, .int .u8 97, .int .u8 120] 5 (7, 8))) hx); clear hx)
    | (go_at_call 17; (with_reducible refine (alive_find36 BT4.out M2).mono ?_); rintro e w5 ⟨rfl, hx⟩; have H5 := Aside0.mk (below_step H4.out hx); have BX5 := Aside0.mk (blk_below BX4.out hx); have HV5 := Aside0.mk (below_step HV4.out hx); clear hx; have f0 := (blk_cell BX5.out 0).trans rfl; have f1 := (blk_cell BX5.out 1).trans rfl; have f2 := (blk_cell BX5.out 2).trans rfl; have f3 := (blk_cell BX5.out 3).trans rfl; have f4 := (blk_cell BX5.out 4).trans rfl; have f5 := (blk_cell BX5.out 5).trans rfl)
    | (go_at_call 15; (with_reducible refine (alive_spell w5 (Kd.C_below H1.out.1 HV5.out) (htab.below H5.out)).mono ?_); rintro e w6 ⟨A6, c6, rfl, hC, hx⟩; have H6 := Aside0.mk (below_step H5.out hx); have hcv := str3 (c := c6) hC; clear hx hC))
  exact bodyPost_ret (v := .bool true) (by simp [results, Tryd.results10, go_sem]) rfl ⟨rfl, H6.out⟩
end Go.Proofs.YtdhdngoeaneanaaDoor.PT
end
