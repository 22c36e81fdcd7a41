/-
  HuntRounds: the walk.
-/
import Derived.Test.YtffpkldphkmjmaaDoorRTM
import Derived.Test.YtffpkldphkmjmaaDoorXS
namespace Go.Proofs.YtffpkldphkmjmaaDoor.WalkHuntRounds
open Go.RowKit Go.Proofs.YtffpkldphkmjmaaDoorW.PrintWords Go.Proofs.YtffpkldphkmjmaaDoorW.PrintMore Go.Proofs.YtffpkldphkmjmaaDoor.X Go.Proofs.YtffpkldphkmjmaaDoor.XO Go.Proofs.YtffpkldphkmjmaaDoor.PT
set_option linter.unusedVariables false
set_option linter.unusedSimpArgs false
theorem sum_len (l : List Int) : l.length ≤ (l.map szOne).sum := by
  induction l with
  | nil => simp
  | cons x l ih => have : szOne x = 1 := rfl; simp only [List.map_cons, List.sum_cons, List.length_cons]; omega
theorem u8_all (l : List Int) (h : okSl 1 okU8 l) : ∀ i, 0 ≤ rd l i ∧ rd l i ≤ 255 := rd_mem (P := fun x => 0 ≤ x ∧ x ≤ 255) l (fun x hx => h.2 x hx) (by decide)
/-- The place of a hit, so many on around the end. -/
def wrapI (m k n : Nat) : Nat := if k + n < m then k + n else k + n - m
theorem hunt_ok {n : Nat} {l : List Int} {p c : Int} {back : Bool} (h : ¬ (p < 0 ∨ p > n ∨ c < 0 ∨ c > 9999)) (hl : l ≠ []) : huntV n l p c back = ((p, pickV l p c back, 1), 0) := by
  unfold huntV
  rw [if_neg h, if_neg hl]
theorem wrapI_zero {m k : Nat} (h : k < m) : wrapI m k 0 = k := by unfold wrapI; rw [Nat.add_zero, if_pos h]
theorem wrapI_lt {m k n : Nat} (h : k < m) (hn : n < m) : wrapI m k n < m := by unfold wrapI; split <;> omega
theorem wrapI_next {m k n : Nat} (h : k < m) (hn : n + 1 < m) : wrapI m k (n + 1) = (if wrapI m k n + 1 < m then wrapI m k n + 1 else 0) := by
  unfold wrapI
  split <;> split <;> split <;> omega
theorem wrapI_end {m k n : Nat} (h : k < m) (hn : n + 1 = m) : (if wrapI m k n + 1 < m then wrapI m k n + 1 else 0) = k := by
  unfold wrapI
  split <;> split <;> omega
theorem wrapI_ne {m k n : Nat} (h : k < m) (hn : n + 1 < m) : wrapI m k (n + 1) ≠ k := by
  unfold wrapI
  split <;> omega
set_option maxHeartbeats 8000000 in
set_option maxRecDepth 100000 in
theorem walk (x0 : S24) (A0_0 : Option Addr) (c0_0 : Nat) (A0_1 : Option Addr) (c0_1 : Nat) (w : World) (hr0_0 : Kd.C (Kd.int .u8) w A0_0 x0.f0.length x0.f0) (hc0_0 : x0.f0.length ≤ c0_0) (hr0_1 : Kd.C (Kd.int .u8) w A0_1 x0.f1.length x0.f1) (hc0_1 : x0.f1.length ≤ c0_1) (o0 : okS24 x0) (hb : (szS24 x0 ≤ 1048576)) :
    Calls Tryd.prog 5 #[.agg #[.slice A0_0 x0.f0.length c0_0, .slice A0_1 x0.f1.length c0_1, .int .i64 x0.f2, .int .i64 x0.f3, .bool x0.f4]] w fun e w' => e = .returned (.bool true) ∧ Below w.heap.size w w' := by
  obtain ⟨t, q, p0, cnt, bk⟩ := x0
  obtain ⟨o1, o2, _, _, _⟩ := o0
  simp only at hr0_0 hc0_0 hr0_1 hc0_1 hb o1 o2 ⊢
  have hl0 : t.length ≤ 1048576 := by have := sum_len t; unfold szS24 szSl at hb; simp only at hb; omega
  have hu0 := u8_all t o1
  have hu1 := u8_all q o2
  clear hb o1 o2
  have HB := Aside0.mk (below_alloc (Below.refl w.heap.size w) (.cells #[.slice A0_0 t.length c0_0, .slice A0_1 q.length c0_1, .int .i64 p0, .int .i64 cnt, .bool bk] 24))
  have BX := Aside0.mk (blk_new w (.cells #[.slice A0_0 t.length c0_0, .slice A0_1 q.length c0_1, .int .i64 p0, .int .i64 cnt, .bool bk] 24))
  have HA : ∀ W, Aside0 _ := fun W => ⟨awake_calls (w := W)⟩
  have HC : Aside0 (∀ W, Below w.heap.size w W → Calls Tryd.prog 11 #[.agg #[.slice A0_0 t.length c0_0, .slice A0_1 q.length c0_1, .int .i64 p0, .int .i64 cnt, .bool bk]] W fun e w' => ∃ v, e = .returned (.tuple #[v, .bool (compileV q).1.isSome]) ∧ Below W.heap.size W w' ∧ PatO w' W.heap.size v (compileV q).1) := ⟨fun W h => compiled_calls (Kd.C_below hr0_1 h) hu1⟩
  generalize (compileV q).1 = o at HC
  have HN : Aside0 (∀ (pl : List PTh) (W W' : World) (v : Value) (base : Nat) (p c : Int) (b : Bool), PatO W base v (some pl) → Below w.heap.size w W → Below W.heap.size W W' → Calls Tryd.prog 10 #[.slice A0_0 t.length c0_0, .int .i64 p, .int .i64 c, v, .bool b] W' fun e w' => e = .returned (.tuple #[.agg #[.int .i64 (huntV t.length (hitsV t pl) p c b).1.1, .int .i64 (huntV t.length (hitsV t pl) p c b).1.2.1, .int .i64 (huntV t.length (hitsV t pl) p c b).1.2.2], .int .i64 (huntV t.length (hitsV t pl) p c b).2]) ∧ Below W'.heap.size W' w') := ⟨fun pl W W' v base p c b hp h1 h2 => hunt_calls (Kd.C_below hr0_0 (below_step h1 h2)) hu0 (by omega) hc0_0 (PatO_below hp h2)⟩
  clear hr0_0 hr0_1 hu0 hu1
  cases o with
  | none =>
    simp only [Option.isSome_none] at HC
    go_enter Tryd.func5, Tryd.ntmps5
    go_wp2_with (first
      | (go_at_call 9; (with_reducible refine (HA _).out.mono ?_); rintro e w1 ⟨rfl, hx⟩; have BK := Aside0.mk (blk_below BX.out hx); have H1 := Aside0.mk (below_step HB.out hx); clear hx; have c0 := (blk_cell BK.out 0).trans rfl; have c1 := (blk_cell BK.out 1).trans rfl; have c2 := (blk_cell BK.out 2).trans rfl; have c3 := (blk_cell BK.out 3).trans rfl; have c4 := (blk_cell BK.out 4).trans rfl)
      | (go_at_call 11; (with_reducible refine (HC.out _ H1.out).mono ?_); rintro e w2 ⟨v2, rfl, hx, hp⟩; have H2 := Aside0.mk hx; clear hx hp))
    exact bodyPost_ret (v := .bool true) (by simp [results, Tryd.results5, go_sem]) rfl ⟨rfl, below_step H1.out H2.out⟩
  | some pl =>
    simp only [Option.isSome_some] at HC
    by_cases h300 : 300 < t.length
    · have g1 : (300 < (t.length : Int)) = True := eq_true (by omega)
      go_enter Tryd.func5, Tryd.ntmps5
      go_wp2_with (first
        | (go_at_call 9; (with_reducible refine (HA _).out.mono ?_); rintro e w1 ⟨rfl, hx⟩; have BK := Aside0.mk (blk_below BX.out hx); have H1 := Aside0.mk (below_step HB.out hx); clear hx; have c0 := (blk_cell BK.out 0).trans rfl; have c1 := (blk_cell BK.out 1).trans rfl; have c2 := (blk_cell BK.out 2).trans rfl; have c3 := (blk_cell BK.out 3).trans rfl; have c4 := (blk_cell BK.out 4).trans rfl)
        | (go_at_call 11; (with_reducible refine (HC.out _ H1.out).mono ?_); rintro e w2 ⟨v2, rfl, hx, hp⟩; have BK2 := Aside0.mk (blk_below BK.out hx); have H2 := Aside0.mk (And.intro (below_step H1.out hx) hp); clear hx hp; have d0 := (blk_cell BK2.out 0).trans rfl; have d1 := (blk_cell BK2.out 1).trans rfl; have d2 := (blk_cell BK2.out 2).trans rfl; have d3 := (blk_cell BK2.out 3).trans rfl; have d4 := (blk_cell BK2.out 4).trans rfl))
      exact bodyPost_ret (v := .bool true) (by simp [results, Tryd.results5, go_sem]) rfl ⟨rfl, H2.out.1⟩
    have g1 : (300 < (t.length : Int)) = False := eq_false (by omega)
    have hlb := hits_len t pl
    have hin := hits_inc t pl
    replace HN := HN.out pl
    generalize hitsV t pl = l at HN hlb hin
    by_cases hg : p0 < 0 ∨ p0 > t.length
    · have hv : huntV t.length l p0 1 false = ((0, 0, 0), 2) := by unfold huntV; rw [if_pos (by omega)]
      have HN1 : Aside0 (∀ (W W' : World) (v : Value) (base : Nat) (hp : PatO W base v (some pl)) (h1 : Below w.heap.size w W) (h2 : Below W.heap.size W W'), _) := ⟨fun W W' v base hp h1 h2 => HN W W' v base p0 1 false hp h1 h2⟩
      simp only [hv] at HN1
      clear HN
      go_enter Tryd.func5, Tryd.ntmps5
      go_wp2_with (first
        | (go_at_call 9; (with_reducible refine (HA _).out.mono ?_); rintro e w1 ⟨rfl, hx⟩; have BK := Aside0.mk (blk_below BX.out hx); have H1 := Aside0.mk (below_step HB.out hx); clear hx; have c0 := (blk_cell BK.out 0).trans rfl; have c1 := (blk_cell BK.out 1).trans rfl; have c2 := (blk_cell BK.out 2).trans rfl; have c3 := (blk_cell BK.out 3).trans rfl; have c4 := (blk_cell BK.out 4).trans rfl)
        | (go_at_call 11; (with_reducible refine (HC.out _ H1.out).mono ?_); rintro e w2 ⟨v2, rfl, hx, hp⟩; have BK2 := Aside0.mk (blk_below BK.out hx); have H2 := Aside0.mk (And.intro (below_step H1.out hx) hp); clear hx hp; have d0 := (blk_cell BK2.out 0).trans rfl; have d1 := (blk_cell BK2.out 1).trans rfl; have d2 := (blk_cell BK2.out 2).trans rfl; have d3 := (blk_cell BK2.out 3).trans rfl; have d4 := (blk_cell BK2.out 4).trans rfl)
        | (go_at_call 10; (with_reducible refine (HN1.out _ _ _ _ H2.out.2 H2.out.1 (Below.refl _ _)).mono ?_); rintro e w3 ⟨rfl, hx⟩; have BK3 := Aside0.mk (blk_below BK2.out hx); have H3 := Aside0.mk hx; clear hx))
      exact bodyPost_ret (v := .bool true) (by simp [results, Tryd.results5, go_sem]) rfl ⟨rfl, below_step H2.out.1 (below_alloc H3.out _)⟩
    by_cases hl : l = []
    · have hv : huntV t.length l p0 1 false = ((0, 0, 0), 120) := by unfold huntV; rw [if_neg (by omega), if_pos hl]
      have HN1 : Aside0 (∀ (W W' : World) (v : Value) (base : Nat) (hp : PatO W base v (some pl)) (h1 : Below w.heap.size w W) (h2 : Below W.heap.size W W'), _) := ⟨fun W W' v base hp h1 h2 => HN W W' v base p0 1 false hp h1 h2⟩
      simp only [hv] at HN1
      clear HN
      go_enter Tryd.func5, Tryd.ntmps5
      go_wp2_with (first
        | (go_at_call 9; (with_reducible refine (HA _).out.mono ?_); rintro e w1 ⟨rfl, hx⟩; have BK := Aside0.mk (blk_below BX.out hx); have H1 := Aside0.mk (below_step HB.out hx); clear hx; have c0 := (blk_cell BK.out 0).trans rfl; have c1 := (blk_cell BK.out 1).trans rfl; have c2 := (blk_cell BK.out 2).trans rfl; have c3 := (blk_cell BK.out 3).trans rfl; have c4 := (blk_cell BK.out 4).trans rfl)
        | (go_at_call 11; (with_reducible refine (HC.out _ H1.out).mono ?_); rintro e w2 ⟨v2, rfl, hx, hp⟩; have BK2 := Aside0.mk (blk_below BK.out hx); have H2 := Aside0.mk (And.intro (below_step H1.out hx) hp); clear hx hp; have d0 := (blk_cell BK2.out 0).trans rfl; have d1 := (blk_cell BK2.out 1).trans rfl; have d2 := (blk_cell BK2.out 2).trans rfl; have d3 := (blk_cell BK2.out 3).trans rfl; have d4 := (blk_cell BK2.out 4).trans rfl)
        | (go_at_call 10; (with_reducible refine (HN1.out _ _ _ _ H2.out.2 H2.out.1 (Below.refl _ _)).mono ?_); rintro e w3 ⟨rfl, hx⟩; have BK3 := Aside0.mk (blk_below BK2.out hx); have H3 := Aside0.mk hx; clear hx))
      exact bodyPost_ret (v := .bool true) (by simp [results, Tryd.results5, go_sem]) rfl ⟨rfl, below_step H2.out.1 (below_alloc H3.out _)⟩
    have hm := List.length_pos_iff.2 hl
    have hv : huntV t.length l p0 1 false = ((p0, rd l (pickI l p0 1 false : Nat), 1), 0) := hunt_ok (by omega) hl
    have hk0 := pickI_lt hl p0 1 false
    have HN1 : Aside0 (∀ (W W' : World) (v : Value) (base : Nat) (hp : PatO W base v (some pl)) (h1 : Below w.heap.size w W) (h2 : Below W.heap.size W W'), _) := ⟨fun W W' v base hp h1 h2 => HN W W' v base p0 1 false hp h1 h2⟩
    simp only [hv] at HN1
    generalize pickI l p0 1 false = k0 at HN1 hk0
    have HNA := Aside0.mk HN
    clear HN hv
    go_enter Tryd.func5, Tryd.ntmps5
    go_wp2_with (first
        | (go_at_call 9; (with_reducible refine (HA _).out.mono ?_); rintro e w1 ⟨rfl, hx⟩; have BK := Aside0.mk (blk_below BX.out hx); have H1 := Aside0.mk (below_step HB.out hx); clear hx; have c0 := (blk_cell BK.out 0).trans rfl; have c1 := (blk_cell BK.out 1).trans rfl; have c2 := (blk_cell BK.out 2).trans rfl; have c3 := (blk_cell BK.out 3).trans rfl; have c4 := (blk_cell BK.out 4).trans rfl)
        | (go_at_call 11; (with_reducible refine (HC.out _ H1.out).mono ?_); rintro e w2 ⟨v2, rfl, hx, hp⟩; have BK2 := Aside0.mk (blk_below BK.out hx); have H2 := Aside0.mk (And.intro (below_step H1.out hx) hp); clear hx hp; have d0 := (blk_cell BK2.out 0).trans rfl; have d1 := (blk_cell BK2.out 1).trans rfl; have d2 := (blk_cell BK2.out 2).trans rfl; have d3 := (blk_cell BK2.out 3).trans rfl; have d4 := (blk_cell BK2.out 4).trans rfl)
        | (go_at_call 10; (with_reducible refine (HN1.out _ _ _ _ H2.out.2 H2.out.1 (Below.refl _ _)).mono ?_); rintro e w3 ⟨rfl, hx⟩; have BK3 := Aside0.mk (blk_below BK2.out hx); have H3 := Aside0.mk hx; clear hx))
    go_region
    have B5 := Aside0.mk (blk_new w3 (.cells #[.int .i64 p0, .int .i64 (rd l (k0 : Int)), .int .i64 1] 27))
    have BK5 := Aside0.mk (blk_alloc BK3.out (.cells #[.int .i64 p0, .int .i64 (rd l (k0 : Int)), .int .i64 1] 27))
    have HB5 := Aside0.mk (below_alloc H3.out (.cells #[.int .i64 p0, .int .i64 (rd l (k0 : Int)), .int .i64 1] 27))
    generalize (w3.alloc (.cells #[.int .i64 p0, .int .i64 (rd l (k0 : Int)), .int .i64 1] 27)) = W5 at B5 BK5 HB5 ⊢
    generalize w3.heap.size = b5 at B5 ⊢
    clear HN1 HC HA c0 c1 c2 c3 c4 d0 d1 d2 d3 d4
    go_wp2
    go_loopg [7, 8] l.length (fun g v7 v8 wl => ∃ nn : Nat, nn + g = l.length ∧ nn < l.length ∧ v7 = .int .i64 nn ∧ v8 = .int .i64 (rd l (wrapI l.length k0 nn : Nat)) ∧ Aside0 (Below W5.heap.size W5 wl))
    case atStart => exact ⟨0, by omega, hm, rfl, by rw [wrapI_zero hk0], ⟨by first | exact Below.refl _ _ | exact below_drew (Below.refl _ _) | exact pw_below_drewN (Below.refl _ _) _⟩⟩
    case round =>
      obtain ⟨nn, hn1, hn2, rfl, rfl, HL⟩ := hrel
      obtain ⟨g, rfl⟩ : ∃ g, gk = g + 1 := ⟨gk - 1, by omega⟩
      have hkl := wrapI_lt hk0 hn2
      have hkn : nn + 1 < l.length → wrapI l.length k0 (nn + 1) = (if wrapI l.length k0 nn + 1 < l.length then wrapI l.length k0 nn + 1 else 0) ∧ wrapI l.length k0 (nn + 1) ≠ k0 := fun h => ⟨wrapI_next hk0 h, wrapI_ne hk0 h⟩
      have hke : nn + 1 = l.length → (if wrapI l.length k0 nn + 1 < l.length then wrapI l.length k0 nn + 1 else 0) = k0 := fun h => wrapI_end hk0 h
      have hkl2 : nn + 1 < l.length → wrapI l.length k0 (nn + 1) < l.length := fun h => wrapI_lt hk0 h
      have HKN := Aside0.mk (And.intro hkn (And.intro hke hkl2))
      clear hkn hke hkl2
      generalize wrapI l.length k0 nn = k at hkl HKN ⊢
      have hbd : ∀ j : Nat, j < l.length → 0 ≤ rd l (j : Int) ∧ rd l (j : Int) ≤ t.length := fun j hj => by
        refine hin.2 _ ?_
        unfold rd
        rw [Int.toNat_natCast, List.getD_eq_getElem?_getD, List.getElem?_eq_getElem hj]
        exact List.getElem_mem hj
      have HBD := Aside0.mk hbd
      clear hbd
      have hv2 : huntV t.length l (rd l (k : Int)) 1 false = ((rd l (k : Int), rd l ((if k + 1 < l.length then k + 1 else 0 : Nat) : Int), 1), 0) := by
        rw [hunt_ok (by have := HBD.out k hkl; omega) hl, pickV_rd, pick_one hin.1 hkl]
      have HN2 : Aside0 (∀ (W W' : World) (v : Value) (base : Nat) (hp : PatO W base v (some pl)) (h1 : Below w.heap.size w W) (h2 : Below W.heap.size W W'), _) := ⟨fun W W' v base hp h1 h2 => HNA.out W W' v base (rd l (k : Int)) 1 false hp h1 h2⟩
      simp only [hv2] at HN2
    
      clear hv2
      have e0 := (blk_cell (blk_below BK5.out HL.out) 0).trans rfl
      have gn : ((t.length : Int) < (nn : Int)) = False := eq_false (by omega)
      by_cases hend : nn + 1 = l.length
      · have hkk := HKN.out.2.1 hend
        rw [hkk] at HN2
        have gm : (((nn : Int) + 1) = 0) = False := eq_false (by omega)
        by_cases hc1 : cnt < 1
        · have q1 : (cnt < 1) = True := eq_true hc1
          go_wp2_with (go_at_call 10; (with_reducible refine (HN2.out _ _ _ _ H2.out.2 H2.out.1 (below_step HB5.out HL.out)).mono ?_); rintro e w6 ⟨rfl, hx⟩; have H6 := Aside0.mk (below_step (below_step HB5.out HL.out) hx); have BB6 := Aside0.mk (blk_below (blk_below BK5.out HL.out) hx); have x6_0 := fun o_ => (blk_cell (blk_alloc BB6.out o_) 0).trans rfl; have x6_2 := fun o_ => (blk_cell (blk_alloc BB6.out o_) 2).trans rfl; have x6_3 := fun o_ => (blk_cell (blk_alloc BB6.out o_) 3).trans rfl; have x6_4 := fun o_ => (blk_cell (blk_alloc BB6.out o_) 4).trans rfl; have B56 := Aside0.mk (blk_below (blk_below B5.out HL.out) hx); have y6 := fun o_ => (blk_cell (blk_alloc B56.out o_) 1).trans rfl; clear hx)
          exact bodyPost_ret (v := .bool true) (by simp [results, Tryd.results5, go_sem]) rfl ⟨rfl, below_step H2.out.1 (below_alloc H6.out _)⟩
        have q1 : (cnt < 1) = False := eq_false hc1
        by_cases hc2 : 9999 < cnt
        · have q2 : (9999 < cnt) = True := eq_true hc2
          go_wp2_with (go_at_call 10; (with_reducible refine (HN2.out _ _ _ _ H2.out.2 H2.out.1 (below_step HB5.out HL.out)).mono ?_); rintro e w6 ⟨rfl, hx⟩; have H6 := Aside0.mk (below_step (below_step HB5.out HL.out) hx); have BB6 := Aside0.mk (blk_below (blk_below BK5.out HL.out) hx); have x6_0 := fun o_ => (blk_cell (blk_alloc BB6.out o_) 0).trans rfl; have x6_2 := fun o_ => (blk_cell (blk_alloc BB6.out o_) 2).trans rfl; have x6_3 := fun o_ => (blk_cell (blk_alloc BB6.out o_) 3).trans rfl; have x6_4 := fun o_ => (blk_cell (blk_alloc BB6.out o_) 4).trans rfl; have B56 := Aside0.mk (blk_below (blk_below B5.out HL.out) hx); have y6 := fun o_ => (blk_cell (blk_alloc B56.out o_) 1).trans rfl; clear hx)
          exact bodyPost_ret (v := .bool true) (by simp [results, Tryd.results5, go_sem]) rfl ⟨rfl, below_step H2.out.1 (below_alloc H6.out _)⟩
        have q2 : (9999 < cnt) = False := eq_false hc2
        by_cases hc3 : 9999 - cnt < (nn : Int) + 1
        · have q3 : (9999 - cnt < (nn : Int) + 1) = True := eq_true hc3
          go_wp2_with (go_at_call 10; (with_reducible refine (HN2.out _ _ _ _ H2.out.2 H2.out.1 (below_step HB5.out HL.out)).mono ?_); rintro e w6 ⟨rfl, hx⟩; have H6 := Aside0.mk (below_step (below_step HB5.out HL.out) hx); have BB6 := Aside0.mk (blk_below (blk_below BK5.out HL.out) hx); have x6_0 := fun o_ => (blk_cell (blk_alloc BB6.out o_) 0).trans rfl; have x6_2 := fun o_ => (blk_cell (blk_alloc BB6.out o_) 2).trans rfl; have x6_3 := fun o_ => (blk_cell (blk_alloc BB6.out o_) 3).trans rfl; have x6_4 := fun o_ => (blk_cell (blk_alloc BB6.out o_) 4).trans rfl; have B56 := Aside0.mk (blk_below (blk_below B5.out HL.out) hx); have y6 := fun o_ => (blk_cell (blk_alloc B56.out o_) 1).trans rfl; clear hx)
          exact bodyPost_ret (v := .bool true) (by simp [results, Tryd.results5, go_sem]) rfl ⟨rfl, below_step H2.out.1 (below_alloc H6.out _)⟩
        have q3 : (9999 - cnt < (nn : Int) + 1) = False := eq_false hc3
        obtain ⟨cc, rfl⟩ : ∃ cc : Nat, cnt = (cc : Int) := ⟨cnt.toNat, by omega⟩
        have hka := pickI_lt hl p0 (cc : Int) bk
        have hv3 : huntV t.length l p0 (cc : Int) bk = ((p0, rd l (pickI l p0 (cc : Int) bk : Nat), 1), 0) := hunt_ok (by omega) hl
        have hv4 : huntV t.length l p0 ((cc : Int) + ((nn : Int) + 1)) bk = ((p0, rd l (pickI l p0 (cc : Int) bk : Nat), 1), 0) := by
          rw [hunt_ok (by omega) hl, pickV_rd, show ((cc : Int) + ((nn : Int) + 1)) = (cc : Int) + (l.length : Int) from by omega, pick_round hl p0 (by omega) bk]
        have hkx := pickI_lt hl (rd l (k0 : Int)) (cc : Int) bk
        have hv5 : huntV t.length l (rd l (k0 : Int)) (cc : Int) bk = ((rd l (k0 : Int), rd l (pickI l (rd l (k0 : Int)) (cc : Int) bk : Nat), 1), 0) := hunt_ok (by have := HBD.out k0 hk0; omega) hl
        have hv6 : huntV t.length l (rd l (pickI l (rd l (k0 : Int)) (cc : Int) bk : Nat)) (cc : Int) (!bk) = ((rd l (pickI l (rd l (k0 : Int)) (cc : Int) bk : Nat), rd l (k0 : Int), 1), 0) := by
          rw [hunt_ok (by have := HBD.out _ hkx; omega) hl, pickV_rd, pick_back hin.1 hk0 (by omega) bk]
        have HN3 : Aside0 (∀ (W W' : World) (v : Value) (base : Nat) (hp : PatO W base v (some pl)) (h1 : Below w.heap.size w W) (h2 : Below W.heap.size W W'), _) := ⟨fun W W' v base hp h1 h2 => HNA.out W W' v base p0 (cc : Int) bk hp h1 h2⟩
        simp only [hv3] at HN3
        have HN4 : Aside0 (∀ (W W' : World) (v : Value) (base : Nat) (hp : PatO W base v (some pl)) (h1 : Below w.heap.size w W) (h2 : Below W.heap.size W W'), _) := ⟨fun W W' v base hp h1 h2 => HNA.out W W' v base p0 ((cc : Int) + ((nn : Int) + 1)) bk hp h1 h2⟩
        simp only [hv4] at HN4
        have HN5 : Aside0 (∀ (W W' : World) (v : Value) (base : Nat) (hp : PatO W base v (some pl)) (h1 : Below w.heap.size w W) (h2 : Below W.heap.size W W'), _) := ⟨fun W W' v base hp h1 h2 => HNA.out W W' v base (rd l (k0 : Int)) (cc : Int) bk hp h1 h2⟩
        simp only [hv5] at HN5
        have HN6 : Aside0 (∀ (W W' : World) (v : Value) (base : Nat) (hp : PatO W base v (some pl)) (h1 : Below w.heap.size w W) (h2 : Below W.heap.size W W'), _) := ⟨fun W W' v base hp h1 h2 => HNA.out W W' v base (rd l (pickI l (rd l (k0 : Int)) (cc : Int) bk : Nat)) (cc : Int) (!bk) hp h1 h2⟩
        simp only [hv6] at HN6
        clear hv3 hv4 hv5 hv6
        generalize pickI l (rd l (k0 : Int)) (cc : Int) bk = kx at HN5 HN6 hkx
        generalize pickI l p0 (cc : Int) bk = ka at HN3 HN4 hka
        clear hka hkx hin HKN HBD HNA
        go_wp2_with (first
          | (go_at_call 10; (with_reducible refine (HN6.out _ _ _ _ H2.out.2 H2.out.1 (below_alloc H9.out (.cells #[.int .i64 (rd l (k0 : Int)), .int .i64 (rd l (kx : Int)), .int .i64 1] 27))).mono ?_); rintro e w10 ⟨rfl, hx⟩; have H10 := Aside0.mk (below_step (below_alloc H9.out (.cells #[.int .i64 (rd l (k0 : Int)), .int .i64 (rd l (kx : Int)), .int .i64 1] 27)) hx); have y10 := fun o_ => (blk_cell (blk_alloc (blk_below (blk_alloc B59.out (.cells #[.int .i64 (rd l (k0 : Int)), .int .i64 (rd l (kx : Int)), .int .i64 1] 27)) hx) o_) 1).trans rfl; clear hx)
          | (go_at_call 10; (with_reducible refine (HN5.out _ _ _ _ H2.out.2 H2.out.1 (below_alloc H8.out (.cells #[.int .i64 p0, .int .i64 (rd l (ka : Int)), .int .i64 1] 27))).mono ?_); rintro e w9 ⟨rfl, hx⟩; have H9 := Aside0.mk (below_step (below_alloc H8.out (.cells #[.int .i64 p0, .int .i64 (rd l (ka : Int)), .int .i64 1] 27)) hx); have BB9 := Aside0.mk (blk_below (blk_alloc BB8.out (.cells #[.int .i64 p0, .int .i64 (rd l (ka : Int)), .int .i64 1] 27)) hx); have x9_0 := fun o_ => (blk_cell (blk_alloc BB9.out o_) 0).trans rfl; have x9_4 := fun o_ => (blk_cell (blk_alloc BB9.out o_) 4).trans rfl; have B59 := Aside0.mk (blk_below (blk_alloc B58.out (.cells #[.int .i64 p0, .int .i64 (rd l (ka : Int)), .int .i64 1] 27)) hx); clear hx)
          | (go_at_call 10; (with_reducible refine (HN4.out _ _ _ _ H2.out.2 H2.out.1 (below_alloc H7.out (.cells #[.int .i64 p0, .int .i64 (rd l (ka : Int)), .int .i64 1] 27))).mono ?_); rintro e w8 ⟨rfl, hx⟩; have H8 := Aside0.mk (below_step (below_alloc H7.out (.cells #[.int .i64 p0, .int .i64 (rd l (ka : Int)), .int .i64 1] 27)) hx); have BB8 := Aside0.mk (blk_below (blk_alloc BB7.out (.cells #[.int .i64 p0, .int .i64 (rd l (ka : Int)), .int .i64 1] 27)) hx); have x8_0 := fun o_ => (blk_cell (blk_alloc BB8.out o_) 0).trans rfl; have x8_4 := fun o_ => (blk_cell (blk_alloc BB8.out o_) 4).trans rfl; have B58 := Aside0.mk (blk_below (blk_alloc B57.out (.cells #[.int .i64 p0, .int .i64 (rd l (ka : Int)), .int .i64 1] 27)) hx); have y8 := fun o_ => (blk_cell (blk_alloc B58.out o_) 1).trans rfl; have z8 := fun o_ => (blk_cell (blk_alloc (blk_below (blk_new w7 (.cells #[.int .i64 p0, .int .i64 (rd l (ka : Int)), .int .i64 1] 27)) hx) o_) 1).trans rfl; clear hx)
          | (go_at_call 10; (with_reducible refine (HN3.out _ _ _ _ H2.out.2 H2.out.1 (below_alloc H6.out (.cells #[.int .i64 (rd l (k : Int)), .int .i64 (rd l (k0 : Int)), .int .i64 1] 27))).mono ?_); rintro e w7 ⟨rfl, hx⟩; have H7 := Aside0.mk (below_step (below_alloc H6.out (.cells #[.int .i64 (rd l (k : Int)), .int .i64 (rd l (k0 : Int)), .int .i64 1] 27)) hx); have BB7 := Aside0.mk (blk_below (blk_alloc BB6.out (.cells #[.int .i64 (rd l (k : Int)), .int .i64 (rd l (k0 : Int)), .int .i64 1] 27)) hx); have x7_0 := fun o_ => (blk_cell (blk_alloc BB7.out o_) 0).trans rfl; have x7_2 := fun o_ => (blk_cell (blk_alloc BB7.out o_) 2).trans rfl; have x7_4 := fun o_ => (blk_cell (blk_alloc BB7.out o_) 4).trans rfl; have B57 := Aside0.mk (blk_below (blk_alloc B56.out (.cells #[.int .i64 (rd l (k : Int)), .int .i64 (rd l (k0 : Int)), .int .i64 1] 27)) hx); clear hx)
          | (go_at_call 10; (with_reducible refine (HN2.out _ _ _ _ H2.out.2 H2.out.1 (below_step HB5.out HL.out)).mono ?_); rintro e w6 ⟨rfl, hx⟩; have H6 := Aside0.mk (below_step (below_step HB5.out HL.out) hx); have BB6 := Aside0.mk (blk_below (blk_below BK5.out HL.out) hx); have x6_0 := fun o_ => (blk_cell (blk_alloc BB6.out o_) 0).trans rfl; have x6_2 := fun o_ => (blk_cell (blk_alloc BB6.out o_) 2).trans rfl; have x6_3 := fun o_ => (blk_cell (blk_alloc BB6.out o_) 3).trans rfl; have x6_4 := fun o_ => (blk_cell (blk_alloc BB6.out o_) 4).trans rfl; have B56 := Aside0.mk (blk_below (blk_below B5.out HL.out) hx); have y6 := fun o_ => (blk_cell (blk_alloc B56.out o_) 1).trans rfl; clear hx))
        exact bodyPost_ret (v := .bool true) (by simp [results, Tryd.results5, go_sem]) rfl ⟨rfl, below_step H2.out.1 (below_alloc H10.out _)⟩
      · obtain ⟨hkk, hkne⟩ := HKN.out.1 (by omega)
        rw [← hkk] at HN2
        have hk2 := HKN.out.2.2 (by omega)
        have hne : (rd l (wrapI l.length k0 (nn + 1) : Nat) = rd l (k0 : Nat)) = False := eq_false (fun e => hkne (inc_eq hin.1 hk2 hk0 e))
        have hne2 : (rd l (wrapI l.length k0 (nn + 1) : Nat) == rd l (k0 : Nat)) = false := beq_eq_false_iff_ne.2 (fun e => hkne (inc_eq hin.1 hk2 hk0 e))
        clear hkk hkne
        obtain ⟨k', hkw⟩ : ∃ k', wrapI l.length k0 (nn + 1) = k' := ⟨_, rfl⟩
        rw [hkw] at HN2 hne hne2 hk2
        go_wp2_with (go_at_call 10; (with_reducible refine (HN2.out _ _ _ _ H2.out.2 H2.out.1 (below_step HB5.out HL.out)).mono ?_); rintro e w6 ⟨rfl, hx⟩; have H6 := Aside0.mk (below_step (below_step HB5.out HL.out) hx); have BB6 := Aside0.mk (blk_below (blk_below BK5.out HL.out) hx); have x6_0 := fun o_ => (blk_cell (blk_alloc BB6.out o_) 0).trans rfl; have y6 := fun o_ => (blk_cell (blk_alloc (blk_below (blk_below B5.out HL.out) hx) o_) 1).trans rfl; have L6 := Aside0.mk (below_step HL.out hx); clear hx)
        go_roundg g
        case measure => omega
        case rel => exact ⟨nn + 1, by omega, by omega, by go_num, by rw [hkw], ⟨below_alloc L6.out _⟩⟩
end Go.Proofs.YtffpkldphkmjmaaDoor.WalkHuntRounds
