/-
  The reference of patterns, by hand: search.
-/
import Derived.Test.YtdhdngoeaneanaaDoorRT8
import Derived.Deep.RegionLaw
namespace Go.Proofs.YtdhdngoeaneanaaDoor.PT
open Go.RowKit Go.Proofs.YtdhdngoeaneanaaDoorW.PrintWords Go.Proofs.YtdhdngoeaneanaaDoorW.PrintMore Go.Proofs.YtdhdngoeaneanaaDoorW.PrintLast
set_option linter.unusedVariables false
set_option maxRecDepth 100000
set_option linter.unusedSimpArgs false
/-- A row of places in block g. -/
def SX (w : World) (g : Nat) (R : List Int) (wl : World) : Prop := Below w.heap.size w wl ∧ w.heap.size ≤ g ∧ wl.heap[g]? = some (.cells (iv R) 3 (0, 0))
section
variable {w wl : World} {g : Nat} {R : List Int}
theorem SX.mv (h : SX w g R wl) {w' : World} (hb : Below wl.heap.size wl w') : SX w g R w' := ⟨below_step h.1 hb, h.2.1, blk_below h.2.2 hb⟩
theorem SX.drew (h : SX w g R wl) (n : Nat) : SX w g R (wl.drewN n) := ⟨pw_below_drewN h.1 n, h.2.1, blk_drewN h.2.2 n⟩
theorem SX.put (h : SX w g R wl) (k : Nat) (v : Int) : SX w g (R.set k v) (wl.setCell ⟨g, k, none⟩ (.int .i64 v)) := by
  have h1 := blk_put h.2.2 k (.int .i64 v) rfl
  rw [iv_set] at h1
  exact ⟨below_set h.1 h.2.1, h.2.1, h1⟩
theorem SX.far (h : SX w g R wl) {q : Nat} (hq : q ≠ g) (hw : w.heap.size ≤ q) (k : Nat) (v : Value) : SX w g R (wl.setCell ⟨q, k, none⟩ v) := ⟨below_set h.1 hw, h.2.1, blk_far h.2.2 (fun e => hq e.symm) v⟩
theorem SX.cell (h : SX w g R wl) {k : Nat} (hk : k < R.length) : wl.cell? ⟨g, k, none⟩ = some (.int .i64 (rd R (k : Int))) := (blk_cell h.2.2 k).trans (iv_get hk)
theorem SX.fz (h : SX w g R wl) (k : Nat) : wl.frozen? ⟨g, k, none⟩ = false := blk_frozen h.2.2 k
theorem SX.made (h : Below w.heap.size w wl) (m : Nat) : SX w wl.heap.size (List.replicate m 0) (wl.alloc (.cells (madeCells #[.int .i64 0] m) 3)) := by
  rw [iv_made]
  exact ⟨below_alloc h _, h.size, blk_new _ _⟩
end
theorem mk_ints (m : Nat) (hm : m ≤ 1000) : ∀ W : World, (Instr.makeSlice 104 (.int .i64 (m : Int)) (.int .i64 (m : Int))).run Tryd.prog W = .ok (.slice (some ⟨W.heap.size, 0, none⟩) m m) (W.alloc (.cells (madeCells #[.int .i64 0] m) 3)) :=
  print_make 104 3 .i64 8 Tryd.underlying104 (by kernel_rfl) (by decide) m (by omega)
theorem rep_of {R : List Int} {m : Nat} (hl : R.length = m) (h : ∀ j : Nat, j < m → rd R (j : Int) = -1) : R = List.replicate m (-1) := by
  refine rd_ext (by simp [hl]) (fun j hj => ?_)
  rw [h j (by omega), rd_rep (by omega)]
set_option maxHeartbeats 16000000 in
set_option maxRecDepth 100000 in
theorem rsearch_calls {w : World} {A1 : Option Addr} {c1 : Nat} {l : List RT} {A : Option Addr} {c : Nat} {line : List Int} {f : Int} (hk : kR.C w A1 l.length l) (hx : ∀ x ∈ l, 0 ≤ x.1 ∧ x.1 ≤ 5) (hm : l.length ≤ 300)
    (hr : Kd.C (Kd.int .u8) w A line.length line) (hc : line.length ≤ c) (hn : line.length ≤ 1048576) (hu : ∀ i, 0 ≤ rd line i ∧ rd line i ≤ 255) :
    Calls Tryd.prog 91 #[.slice A1 l.length c1, .slice A line.length c, .int .i64 f] w fun e w' => e = .returned (.tuple #[.int .i64 (searchV line (l.map RTd) f).1, .int .i64 (searchV line (l.map RTd) f).2.1, .bool (searchV line (l.map RTd) f).2.2]) ∧ Below w.heap.size w w' := by
  have H := Aside0.mk (And.intro hk (And.intro hx (And.intro hr hu)))
  clear hk hx hr hu
  by_cases h0 : f < 0 ∨ f > (line.length : Int)
  · have HV := Aside0.mk (show searchV line (l.map RTd) f = (0, 0, false) from if_pos h0)
    have hd : decide (f < 0) = true ∨ decide (f < 0) = false ∧ decide ((line.length : Int) < f) = true := by
      by_cases h1 : f < 0
      · exact .inl (decide_eq_true h1)
      · exact .inr ⟨decide_eq_false h1, decide_eq_true (by omega)⟩
    clear h0
    rcases hd with hd | ⟨hd, hd2⟩
    all_goals
      go_enter Tryd.func91, Tryd.ntmps91
      go_wp2
      refine bodyPost_ret (v := .tuple #[.int .i64 0, .int .i64 0, .bool false]) (by simp [results, Tryd.results91, go_sem]) rfl ?_
      rw [HV.out]
      exact ⟨rfl, Below.refl _ _⟩
  obtain ⟨p0, rfl⟩ : ∃ p0 : Nat, f = (p0 : Int) := ⟨f.toNat, by omega⟩
  have HV := Aside0.mk (show searchV line (l.map RTd) (p0 : Int) = outL line (l.map RTd) (line.length + 1) p0 (List.replicate (l.length + 1) (-1)) 0 0 false by
    unfold searchV
    rw [if_neg h0, Int.toNat_natCast, List.length_map])
  generalize searchV line (l.map RTd) (p0 : Int) = out at HV ⊢
  have hd : decide ((p0 : Int) < 0) = false := decide_eq_false (by omega)
  have hd2 : decide (line.length < p0) = false := decide_eq_false (by omega)
  have hp0 : p0 ≤ line.length := by omega
  clear h0
  have hmk := mk_ints (l.length + 1) (by omega)
  rw [show ((l.length + 1 : Nat) : Int) = (l.length : Int) + 1 from by omega] at hmk
  have hlm : (l.length : Int) ≤ 300 := by omega
  go_enter Tryd.func91, Tryd.ntmps91
  go_wp2
  have HS := Aside0.mk (SX.made (Below.refl w.heap.size w) (l.length + 1))
  generalize (w.alloc (.cells (madeCells #[.int .i64 0] (l.length + 1)) 3)) = W at HS ⊢
  generalize w.heap.size = g0 at HS ⊢
  go_loopw [10] (fun v wl => ∃ (k : Nat) (R : List Int), k ≤ l.length + 1 ∧ v = .int .i64 k ∧ R.length = l.length + 1 ∧ Aside0 (SX w g0 R wl ∧ ∀ j : Nat, j < k → rd R (j : Int) = -1)) (fun v _ => l.length + 1 - (intOf v).toNat)
  case atStart => exact ⟨0, _, by omega, rfl, by simp, ⟨HS.out, fun j hj => by omega⟩⟩
  case round =>
    obtain ⟨k, R, hk, rfl, hR, HL⟩ := hrel
    clear HS
    by_cases lt : k < l.length + 1
    · have q0 : decide (k ≤ l.length) = true := decide_eq_true (by omega)
      have q1 : (0 ≤ (k : Int)) = True := eq_true (by omega)
      have q2 : ((k : Int) < (l.length : Int) + 1) = True := eq_true (by omega)
      have ck := HL.out.1.cell (k := k) (by omega)
      have fk := HL.out.1.fz k
      go_wp2
      go_roundw
      case rel =>
        refine ⟨k + 1, R.set k (-1), by omega, by congr 1, by simp [hR], ⟨HL.out.1.put k (-1), fun j hj => ?_⟩⟩
        rw [rd_set' (by omega)]
        by_cases e : j = k
        · rw [if_pos e]
        · rw [if_neg e]; exact HL.out.2 j (by omega)
      case measure => simp [intOf]; omega
    · have q0 : decide (k ≤ l.length) = false := decide_eq_false (by omega)
      have HS := Aside0.mk (show SX w g0 (List.replicate (l.length + 1) (-1)) wr from by
        have h := HL.out.1
        rwa [rep_of hR (fun j hj => HL.out.2 j (by omega))] at h)
      clear HL
      go_wp2
      go_loopg [9, 11, 12, 13, 14] (line.length + 1) (fun gk v9 v11 v12 v13 v14 wr => ∃ (g : Nat) (R : List Int) (p : Nat) (a b : Int) (ok : Bool), v9 = .slice (some ⟨g, 0, none⟩) (l.length + 1) (l.length + 1) ∧ v11 = .int .i64 a ∧ v12 = .int .i64 b ∧ v13 = .bool ok ∧ v14 = .int .i64 p ∧ p ≤ line.length ∧ line.length < p + gk ∧ R.length = l.length + 1 ∧ Aside0 (SX w g R wr ∧ out = outL line (l.map RTd) gk p R a b ok))
      case atStart => exact ⟨g0, _, p0, 0, 0, false, rfl, rfl, rfl, rfl, rfl, hp0, by omega, by simp, ⟨HS.out, HV.out⟩⟩
      case round =>
        clear HS HV hp0 hd hd2
        obtain ⟨g, R, p, a, b, ok, rfl, rfl, rfl, rfl, rfl, hp, hpd, hR, HO⟩ := hrel
        obtain ⟨d, rfl⟩ : ∃ d, gk = d + 1 := ⟨gk - 1, by omega⟩
        have q0 : decide (p ≤ line.length) = true := decide_eq_true (by omega)
        have HN := Aside0.mk HO.out.2
        have HS := Aside0.mk HO.out.1
        clear HO
        go_upto_if 49 with (fail)
        go_cut [55] (fun v55 wd => Aside0 (SX w g (if ok = true then R else R.set 0 (leastV (rd R 0) p)) wd))
        case first => as_aux_lemma =>
          cases ok with
          | true =>
            go_wp2
            go_meet
            case rel => exact HS
          | false =>
            have ck := HS.out.cell (k := 0) (by omega)
            have fk := HS.out.fz 0
            have q2 : ((0 : Int) < (l.length : Int) + 1) = True := eq_true (by omega)
            have HL := fun W => Aside0.mk (least_calls (rd R 0) p W)
            rw [show ((0 : Nat) : Int) = 0 from rfl] at ck
            generalize hr0 : rd R 0 = r0 at ck HL
            have HQ0 := Aside0.mk hr0
            clear hr0
            have HR0 := Aside0.mk (show ∀ W, SX w g R W → SX w g (R.set 0 (leastV r0 p)) (W.setCell ⟨g, 0, none⟩ (.int .i64 (leastV r0 p))) from fun W h => h.put 0 _)
            go_wp2_with (go_at_call 100; (with_reducible refine (HL _).out.mono ?_); rintro e w3 ⟨rfl, ⟨nd, rfl⟩⟩)
            go_meet
            case rel => exact ⟨by rw [HQ0.out]; exact HR0.out _ (HS.out.drew nd)⟩
        case rest => as_aux_lemma =>
          have HC := hcut
          clear hcut HS
          have HO := Aside0.mk (show outS line (l.map RTd) p R a b ok = passL line (l.map RTd) p (l.length + 1) 0 ⟨if ok = true then R else R.set 0 (leastV (rd R 0) p), a, b, ok, false⟩ by unfold outS; rw [List.length_map])
          have hR0 : (if ok = true then R else R.set 0 (leastV (rd R 0) p)).length = l.length + 1 := by split <;> simp [hR]
          generalize (if ok = true then R else R.set 0 (leastV (rd R 0) p)) = R0 at HC HO hR0
          go_wp2
          go_loopg [11, 12, 13, 15, 16] (l.length + 1) (fun g3 v11 v12 v13 v15 v16 wr => ∃ (i : Nat) (s : SS), v11 = .int .i64 s.a ∧ v12 = .int .i64 s.b ∧ v13 = .bool s.ok ∧ v15 = .bool s.live ∧ v16 = .int .i64 i ∧ i + g3 = l.length + 1 ∧ s.R.length = l.length + 1 ∧ Aside0 (SX w g s.R wr ∧ outS line (l.map RTd) p R a b ok = passL line (l.map RTd) p g3 i s))
          case atStart => exact ⟨0, ⟨R0, a, b, ok, false⟩, rfl, rfl, rfl, rfl, rfl, by omega, hR0, ⟨HC.out, HO.out⟩⟩
          case round =>
            clear HC HO hR0
            obtain ⟨i, ⟨R3, a3, b3, ok3, live3⟩, rfl, rfl, rfl, rfl, rfl, hi, hR3, HQ⟩ := hrel
            simp only at hR3 HQ ⊢
            cases gk with
            | zero =>
              have q3 : decide (i ≤ l.length) = false := decide_eq_false (by omega)
              have HE := Aside0.mk (show outS line (l.map RTd) p R a b ok = ⟨R3, a3, b3, ok3, live3⟩ from HQ.out.2)
              have HS := Aside0.mk HQ.out.1
              clear HQ
              go_upto_region 26 with (fail)
              go_cut [120] (fun v120 wd => v120 = .bool ((p : Int) == (line.length : Int) || (ok3 && !live3)) ∧ wd = wr)
              case first => as_aux_lemma =>
                by_cases e : p = line.length
                · have e1 : ((p : Int) == (line.length : Int)) = true := by rw [beq_iff_eq]; omega
                  have E := Aside0.mk e1
                  clear e
                  go_wp2
                  go_meet
                  case rel => exact ⟨by rw [E.out]; rfl, rfl⟩
                · have e1 : ((p : Int) == (line.length : Int)) = false := beq_eq_false_iff_ne.mpr (by omega)
                  have E := Aside0.mk e1
                  clear e
                  cases ok3 with
                  | false =>
                    go_wp2
                    go_meet
                    case rel => exact ⟨by rw [E.out]; rfl, rfl⟩
                  | true =>
                    cases live3 with
                    | false =>
                      go_wp2
                      go_meet
                      case rel => exact ⟨by rw [E.out]; rfl, rfl⟩
                    | true =>
                      go_wp2
                      go_meet
                      case rel => exact ⟨by rw [E.out]; rfl, rfl⟩
              case rest => as_aux_lemma =>
                obtain ⟨rfl, rfl⟩ := hcut
                generalize hB : ((p : Int) == (line.length : Int) || (ok3 && !live3)) = B
                have HB := Aside0.mk hB
                clear hB
                have HUN := Aside0.mk (show out = if p = line.length ∨ (ok3 = true ∧ live3 = false) then (a3, b3, ok3) else outL line (l.map RTd) d (p + 1) (eatL line (l.map RTd) p R3 (l.map RTd).length 0 (List.replicate ((l.map RTd).length + 1) (-1))) a3 b3 ok3 by rw [HN.out, outL, HE.out])
                cases B with
                | true =>
                  have HO2 := Aside0.mk (HUN.out.trans (if_pos (by
                    have h := HB.out
                    rw [Bool.or_eq_true, beq_iff_eq, Bool.and_eq_true] at h
                    rcases h with h | ⟨h1, h2⟩
                    · exact .inl (by omega)
                    · exact .inr ⟨h1, by simpa using h2⟩)))
                  go_wp2
                  refine bodyPost_ret (v := .tuple #[.int .i64 a3, .int .i64 b3, .bool ok3]) (by simp [results, Tryd.results91, go_sem]) rfl ?_
                  rw [HO2.out]
                  exact ⟨rfl, HS.out.1⟩
                | false =>
                  have HO2 := Aside0.mk (show out = outL line (l.map RTd) d (p + 1) (eatL line (l.map RTd) p R3 l.length 0 (List.replicate (l.length + 1) (-1))) a3 b3 ok3 ∧ p < line.length by
                    have h := HB.out
                    rw [Bool.or_eq_false_iff, beq_eq_false_iff_ne, Bool.and_eq_false_iff] at h
                    refine ⟨HUN.out.trans (by
                      rw [if_neg, List.length_map]
                      rintro (h1 | ⟨h1, h2⟩)
                      · exact h.1 (by omega)
                      · rcases h.2 with h3 | h3
                        · rw [h1] at h3; cases h3
                        · rw [h2] at h3; cases h3), by have := h.1; omega⟩)
                  clear HUN HB HE HN
                  go_wp2
                  have HG := Aside0.mk (show g ≠ wc.heap.size by have := blk_lt HS.out.2.2; omega)
                  have HS2 := Aside0.mk (And.intro (SX.made HS.out.1 (l.length + 1)) (HS.out.mv (below_alloc (Below.refl _ _) (.cells (madeCells #[.int .i64 0] (l.length + 1)) 3))))
                  generalize (wc.alloc (.cells (madeCells #[.int .i64 0] (l.length + 1)) 3)) = W2 at HS2 ⊢
                  generalize wc.heap.size = g2 at HS2 HG ⊢
                  clear HS
                  go_loopw [18] (fun v wl => ∃ (k : Nat) (N : List Int), k ≤ l.length + 1 ∧ v = .int .i64 k ∧ N.length = l.length + 1 ∧ Aside0 (SX w g2 N wl ∧ SX w g R3 wl ∧ ∀ j : Nat, j < k → rd N (j : Int) = -1)) (fun v _ => l.length + 1 - (intOf v).toNat)
                  case atStart => exact ⟨0, _, by omega, rfl, by simp, ⟨HS2.out.1, HS2.out.2, fun j hj => by omega⟩⟩
                  case round =>
                    obtain ⟨k2, N, hk2, rfl, hN, HL⟩ := hrel
                    clear HS2
                    by_cases lt2 : k2 < l.length + 1
                    · have q0' : decide (k2 ≤ l.length) = true := decide_eq_true (by omega)
                      have q1 : (0 ≤ (k2 : Int)) = True := eq_true (by omega)
                      have q2 : ((k2 : Int) < (l.length : Int) + 1) = True := eq_true (by omega)
                      have ck := HL.out.1.cell (k := k2) (by omega)
                      have fk := HL.out.1.fz k2
                      go_wp2
                      go_roundw
                      case rel =>
                        refine ⟨k2 + 1, N.set k2 (-1), by omega, by congr 1, by simp [hN], ⟨HL.out.1.put k2 (-1), HL.out.2.1.far (fun h => HG.out h.symm) HL.out.1.2.1 k2 _, fun j hj => ?_⟩⟩
                        rw [rd_set' (by omega)]
                        by_cases e : j = k2
                        · rw [if_pos e]
                        · rw [if_neg e]; exact HL.out.2.2 j (by omega)
                      case measure => simp [intOf]; omega
                    · have q0' : decide (k2 ≤ l.length) = false := decide_eq_false (by omega)
                      have HS2 := Aside0.mk (And.intro (show SX w g2 (List.replicate (l.length + 1) (-1)) wr from by
                        have h := HL.out.1
                        rwa [rep_of hN (fun j hj => HL.out.2.2 j (by omega))] at h) HL.out.2.1)
                      clear HL
                      go_wp2
                      go_loopg [19] l.length (fun g5 v19 wr => ∃ (i : Nat) (N : List Int), v19 = .int .i64 i ∧ i + g5 = l.length ∧ N.length = l.length + 1 ∧ Aside0 (SX w g2 N wr ∧ SX w g R3 wr ∧ eatL line (l.map RTd) p R3 l.length 0 (List.replicate (l.length + 1) (-1)) = eatL line (l.map RTd) p R3 g5 i N))
                      case atStart => exact ⟨0, _, rfl, by omega, by simp, ⟨HS2.out.1, HS2.out.2, rfl⟩⟩
                      case round =>
                        clear HS2
                        obtain ⟨i, N, rfl, hi5, hN5, HQ⟩ := hrel
                        cases gk with
                        | zero =>
                          have q3 : decide (i < l.length) = false := decide_eq_false (by omega)
                          have HE5 := Aside0.mk (show eatL line (l.map RTd) p R3 l.length 0 (List.replicate (l.length + 1) (-1)) = N from HQ.out.2.2)
                          have hpn := HO2.out.2
                          go_wp2
                          go_roundg d
                          case measure => omega
                          case rel => exact ⟨g2, N, p + 1, a3, b3, ok3, rfl, rfl, rfl, rfl, by first | (congr 1; done) | (congr 1; omega), by omega, by omega, hN5, ⟨HQ.out.1, by rw [HO2.out.1, HE5.out]⟩⟩
                        | succ d5 =>
                          have hil : i < l.length := by omega
                          have q3 : decide (i < l.length) = true := decide_eq_true hil
                          have q1 : (0 ≤ (i : Int)) = True := eq_true (by omega)
                          have q2 : ((i : Int) < (l.length : Int) + 1) = True := eq_true (by omega)
                          have q4 : ((i : Int) < (l.length : Int)) = True := eq_true (by omega)
                          have q5 : (0 ≤ (p : Int)) = True := eq_true (by omega)
                          have q6 : ((p : Int) < (line.length : Int)) = True := eq_true (by have := HO2.out.2; omega)
                          have ck := HQ.out.2.1.cell (k := i) (by have := HQ.out.2.1; omega)
                          have HE5 := Aside0.mk (show eatL line (l.map RTd) p R3 l.length 0 (List.replicate (l.length + 1) (-1)) = eatL line (l.map RTd) p R3 d5 (i + 1) (eat1 line (l.map RTd) p R3 i N) from HQ.out.2.2)
                          have HS := Aside0.mk (And.intro HQ.out.1 HQ.out.2.1)
                          clear HQ
                          generalize hr : rd R3 (i : Int) = r at ck
                          have HR := Aside0.mk hr
                          clear hr
                          have stay : eat1 line (l.map RTd) p R3 i N = N → Aside0 (eatL line (l.map RTd) p R3 l.length 0 (List.replicate (l.length + 1) (-1)) = eatL line (l.map RTd) p R3 d5 (i + 1) N) := fun h => ⟨by rw [HE5.out, h]⟩
                          by_cases c1 : r < 0
                          · have d1 : decide (r < 0) = true := decide_eq_true c1
                            have HP := stay (by unfold eat1; rw [if_pos (by rw [HR.out]; exact c1)])
                            clear c1 HE5 stay hil
                            go_wp2
                            go_quiet (fail)
                            go_wp2
                            go_roundg d5
                            case measure => omega
                            case rel => exact ⟨i + 1, N, by first | (congr 1; done) | (congr 1; omega), by omega, hN5, ⟨HS.out.1.drew _, HS.out.2.drew _, HP.out⟩⟩
                          have d1 : decide (r < 0) = false := decide_eq_false c1
                          obtain ⟨ad0, rfl⟩ : ∃ ad, A1 = some ad := by
                            obtain ⟨ad, _, e, _⟩ := Kd.C_get H.out.1 (0, fun _ => false) (i : Int) (by omega) (by omega)
                            exact ⟨ad, e⟩
                          obtain ⟨ad1, rfl, hby0⟩ := Kd.at_int H.out.2.2.1 (p : Int) (by omega) (by have := HO2.out.2; omega)
                          rw [Int.toNat_natCast] at hby0
                          have hby := pw_cell_below HS.out.1.1 hby0
                          have hbr := H.out.2.2.2 (p : Int)
                          have hmem : l.getD i (0, fun _ => false) ∈ l := by
                            rw [List.getD_eq_getElem?_getD, List.getElem?_eq_getElem hil]
                            exact List.getElem_mem _
                          have hkr := H.out.2.1 _ hmem
                          have hgd : (l.map RTd).getD i .front = RTd (l.getD i (0, fun _ => false)) := by
                            rw [List.getD_eq_getElem?_getD, List.getD_eq_getElem?_getD, List.getElem?_map, List.getElem?_eq_getElem hil]
                            rfl
                          have hsome : ∀ k, eatB line p (RTd (l.getD i (0, fun _ => false))) = some k → eat1 line (l.map RTd) p R3 i N = N.set (i + k) (leastV (rd N ((i + k : Nat) : Int)) r) := fun k h => by unfold eat1; rw [if_neg (by rw [HR.out]; exact c1), hgd, h, HR.out]
                          have hnone : eatB line p (RTd (l.getD i (0, fun _ => false))) = none → eat1 line (l.map RTd) p R3 i N = N := fun h => by unfold eat1; rw [if_neg (by rw [HR.out]; exact c1), hgd, h]
                          obtain ⟨tc0, tc1⟩ := th_cells (Kd.C_below H.out.1 HS.out.1.1) hil (0, fun _ => false)
                          generalize l.getD i (0, fun _ => false) = x at hsome hnone tc0 tc1 hkr
                          obtain ⟨kx, S⟩ := x
                          simp only at tc0 tc1 hkr
                          obtain ⟨bn, hbn⟩ : ∃ bn : Nat, rd line (p : Int) = (bn : Int) := ⟨(rd line (p : Int)).toNat, by omega⟩
                          rw [hbn] at hby hbr
                          have HBN := Aside0.mk hbn
                          have hb256 : bn < 256 := by omega
                          have cS := tc1 bn hb256
                          rw [Nat.add_assoc, add_field _ _ _ (by omega), ← Nat.add_assoc] at cS
                          clear hby0 hmem hgd tc1 hbn c1
                          have q7 : (0 ≤ (bn : Int)) = True := eq_true (by omega)
                          have q8 : ((bn : Int) < 256) = True := eq_true (by omega)
                          by_cases e1 : 1 < kx
                          · have dk : decide (1 < kx) = true := decide_eq_true e1
                            have HP := stay (hnone (by
                              have h : kx = 2 ∨ kx = 3 ∨ kx = 4 ∨ kx = 5 := by omega
                              rcases h with rfl | rfl | rfl | rfl <;> rfl))
                            clear e1 stay hil hnone hsome hkr hbr hb256 HE5
                            go_wp2
                            go_quiet (fail)
                            go_wp2
                            go_roundg d5
                            case measure => omega
                            case rel => exact ⟨i + 1, N, by first | (congr 1; done) | (congr 1; omega), by omega, hN5, ⟨HS.out.1.drew _, HS.out.2.drew _, HP.out⟩⟩
                          have dk : decide (1 < kx) = false := decide_eq_false e1
                          cases hS : S bn with
                          | false =>
                            rw [hS] at cS
                            have HP := stay (hnone (by
                              have h : kx = 0 ∨ kx = 1 := by omega
                              have h2 : S (rd line (p : Int)).toNat = false := by rw [HBN.out]; exact hS
                              rcases h with rfl | rfl
                              · show eatB line p (.single S) = none
                                unfold eatB
                                simp only [h2]
                                rfl
                              · show eatB line p (.many S) = none
                                unfold eatB
                                simp only [h2]
                                rfl))
                            clear e1 stay hil hnone hsome hkr hbr hb256 HE5 hS
                            go_wp2
                            go_quiet (fail)
                            go_wp2
                            go_roundg d5
                            case measure => omega
                            case rel => exact ⟨i + 1, N, by first | (congr 1; done) | (congr 1; omega), by omega, hN5, ⟨HS.out.1.drew _, HS.out.2.drew _, HP.out⟩⟩
                          | true =>
                            rw [hS] at cS
                            have h2 : S (rd line (p : Int)).toNat = true := by rw [HBN.out]; exact hS
                            by_cases ek : kx = 1
                            · subst ek
                              have HP := Aside0.mk (HE5.out.trans (by rw [hsome 0 (by show eatB line p (.many S) = some 0; unfold eatB; simp only [h2]; rfl)]))
                              have cn := HS.out.1.cell (k := i) (by omega)
                              have fn := HS.out.1.fz i
                              have HPP := Aside0.mk (show eatL line (l.map RTd) p R3 l.length 0 (List.replicate (l.length + 1) (-1)) = eatL line (l.map RTd) p R3 d5 (i + 1) (N.set i (leastV (rd N (i : Int)) r)) from HP.out)
                              clear HP
                              generalize rd N (i : Int) = n0 at cn HPP
                              clear e1 stay hil hnone hsome hkr hbr hb256 HE5 hS h2 dk
                              have dk : decide ((1 : Int) < 1) = false := by decide
                              go_wp2
                              go_quiet (fail)
                              go_wp2
                              refine start_ (n := 13) (S := fun w' => w'.cell? ⟨g2, i, none⟩ = some (.int .i64 n0) ∧ w'.cell? ⟨g, i, none⟩ = some (.int .i64 r)) (ds := [12]) #[false, false, false, false, false, false, false, false, false, false, false, false, false] (by kernel_rfl) rfl rfl ⟨cn, ck⟩ (fun hHeld => ?_)
                              refine pure_ (i := 0) (N := some 172) (v := ?_) (a' := ?_) #[true, false, false, false, false, false, false, false, false, false, false, false, false] rfl rfl (by kernel_rfl) (fun _ _ _ h => h) (Or.inl ⟨by rfl, ?_⟩) ?_ ?_
                              rotate_left
                              · intro w'
                                go_simp
                                with_reducible rfl
                              rotate_left
                              · simp only [Act.put, List.setIfInBounds_toArray, List.set_cons_zero, List.set_cons_succ, i64_w, i32_w]
                                rfl
                              refine pure_ (i := 1) (N := some 173) (v := ?_) (a' := ?_) #[true, true, false, false, false, false, false, false, false, false, false, false, false] rfl rfl (by kernel_rfl) (fun _ _ _ h => h) (Or.inl ⟨by rfl, ?_⟩) ?_ ?_
                              rotate_left
                              · intro w'
                                go_simp
                                with_reducible rfl
                              rotate_left
                              · simp only [Act.put, List.setIfInBounds_toArray, List.set_cons_zero, List.set_cons_succ, i64_w, i32_w]
                                rfl
                              refine pure_ (i := 2) (N := some 174) (v := ?_) (a' := ?_) #[true, true, true, false, false, false, false, false, false, false, false, false, false] rfl rfl (by kernel_rfl) (fun _ _ _ h => h) (Or.inl ⟨by rfl, ?_⟩) ?_ ?_
                              rotate_left
                              · intro w'
                                go_simp
                                with_reducible rfl
                              rotate_left
                              · simp only [Act.put, List.setIfInBounds_toArray, List.set_cons_zero, List.set_cons_succ, i64_w, i32_w]
                                rfl
                              refine pure_ (i := 3) (N := some 175) (v := ?_) (a' := ?_) #[true, true, true, true, false, false, false, false, false, false, false, false, false] rfl rfl (by kernel_rfl) (fun _ _ _ h => h) (Or.inl ⟨by rfl, ?_⟩) ?_ ?_
                              rotate_left
                              · intro w'
                                go_simp
                                with_reducible rfl
                              rotate_left
                              · simp only [Act.put, List.setIfInBounds_toArray, List.set_cons_zero, List.set_cons_succ, i64_w, i32_w]
                                rfl
                              refine pure_ (i := 4) (N := some 176) (v := ?_) (a' := ?_) #[true, true, true, true, true, false, false, false, false, false, false, false, false] rfl rfl (by kernel_rfl) (fun _ _ _ h => h) (Or.inl ⟨by rfl, ?_⟩) ?_ ?_
                              rotate_left
                              · intro w'
                                go_simp
                                with_reducible rfl
                              rotate_left
                              · simp only [Act.put, List.setIfInBounds_toArray, List.set_cons_zero, List.set_cons_succ, i64_w, i32_w]
                                rfl
                              refine pure_ (i := 6) (N := some 178) (v := ?_) (a' := ?_) #[true, true, true, true, true, false, true, false, false, false, false, false, false] rfl rfl (by kernel_rfl) (fun _ _ _ h => h) (Or.inl ⟨by rfl, ?_⟩) ?_ ?_
                              rotate_left
                              · intro w'
                                go_simp
                                with_reducible rfl
                              rotate_left
                              · simp only [Act.put, List.setIfInBounds_toArray, List.set_cons_zero, List.set_cons_succ, i64_w, i32_w]
                                rfl
                              refine pure_ (i := 7) (N := some 179) (v := ?_) (a' := ?_) #[true, true, true, true, true, false, true, true, false, false, false, false, false] rfl rfl (by kernel_rfl) (fun _ _ _ h => h) (Or.inl ⟨by rfl, ?_⟩) ?_ ?_
                              rotate_left
                              · intro w'
                                go_simp
                                with_reducible rfl
                              rotate_left
                              · simp only [Act.put, List.setIfInBounds_toArray, List.set_cons_zero, List.set_cons_succ, i64_w, i32_w]
                                rfl
                              refine pure_ (i := 8) (N := some 180) (v := ?_) (a' := ?_) #[true, true, true, true, true, false, true, true, true, false, false, false, false] rfl rfl (by kernel_rfl) (fun _ _ _ h => h) (Or.inl ⟨by rfl, ?_⟩) ?_ ?_
                              rotate_left
                              · intro w'
                                go_simp
                                with_reducible rfl
                              rotate_left
                              · simp only [Act.put, List.setIfInBounds_toArray, List.set_cons_zero, List.set_cons_succ, i64_w, i32_w]
                                rfl
                              refine take_ (i := 5) (N := some 177) (v := ?_) (a' := ?_) #[true, true, true, true, true, true, true, true, true, false, false, false, false] rfl rfl (by kernel_rfl) (fun _ _ _ h => h) (Or.inl ⟨by rfl, ?_⟩) hHeld ?_ ?_
                              rotate_left
                              · rintro w' ⟨s0, s1⟩
                                go_simp
                                with_reducible rfl
                              rotate_left
                              · simp only [Act.put, List.setIfInBounds_toArray, List.set_cons_zero, List.set_cons_succ, i64_w, i32_w]
                                rfl
                              refine take_ (i := 9) (N := some 181) (v := ?_) (a' := ?_) #[true, true, true, true, true, true, true, true, true, true, false, false, false] rfl rfl (by kernel_rfl) (fun _ _ _ h => h) (Or.inl ⟨by rfl, ?_⟩) hHeld ?_ ?_
                              rotate_left
                              · rintro w' ⟨s0, s1⟩
                                go_simp
                                with_reducible rfl
                              rotate_left
                              · simp only [Act.put, List.setIfInBounds_toArray, List.set_cons_zero, List.set_cons_succ, i64_w, i32_w]
                                rfl
                              refine one_ (i := 10) (N := some 182) #[true, true, true, true, true, true, true, true, true, true, true, false, false] rfl rfl (by kernel_rfl) (by decide) (fun K hK => ?_)
                              refine goes_ Tryd.func100 (by kernel_rfl) rfl #[.int .i64 n0, .int .i64 r] (by rfl) rfl rfl (by simp only [List.map_toArray, List.map_cons, List.map_nil]; rfl) ?_
                              with_reducible refine (least_calls n0 r _).mono ?_
                              rintro e w5 ⟨rfl, ⟨nd, rfl⟩⟩
                              refine ⟨_, rfl, ?_⟩
                              refine hK.out _ _ ⟨cn, ck⟩ (fun hHeld => ?_)
                              clear hK K
                              refine norm_ (a' := ?_) ?_ ?_
                              rotate_left
                              · show Act.put _ (some 182) _ = _
                                simp only [Act.put, List.setIfInBounds_toArray, List.set_cons_zero, List.set_cons_succ, i64_w, i32_w]
                                rfl
                              refine pure_ (i := 11) (N := some 183) (v := ?_) (a' := ?_) #[true, true, true, true, true, true, true, true, true, true, true, true, false] rfl rfl (by kernel_rfl) (fun _ _ _ h => h) (Or.inl ⟨by rfl, ?_⟩) ?_ ?_
                              rotate_left
                              · intro w'
                                go_simp
                                with_reducible rfl
                              rotate_left
                              · simp only [Act.put, List.setIfInBounds_toArray, List.set_cons_zero, List.set_cons_succ, i64_w, i32_w]
                                rfl
                              refine last_ (i := 12) (N := none) #[true, true, true, true, true, true, true, true, true, true, true, true, true] rfl rfl (by kernel_rfl) (by decide) (fun K hK => ?_)
                              refine skip_ (w1 := ?_) (by rfl) rfl ?_ ?_
                              rotate_left
                              · go_simp
                                rfl
                              refine hK.out _ _ ?_
                              clear hK K
                              refine done_ (by kernel_rfl) ?_
                              go_wp2
                              go_roundg d5
                              case measure => omega
                              case rel => exact ⟨i + 1, N.set i (leastV n0 r), by first | (congr 1; done) | (congr 1; omega), by omega, by simp [hN5], ⟨(HS.out.1.drew _).put i _, (HS.out.2.drew _).far (fun h => HG.out h.symm) HS.out.1.2.1 i _, HPP.out⟩⟩
                            · obtain rfl : kx = 0 := by omega
                              have HP := Aside0.mk (HE5.out.trans (by rw [hsome 1 (by show eatB line p (.single S) = some 1; unfold eatB; simp only [h2]; rfl)]))
                              have cn1 := HS.out.1.cell (k := i + 1) (by omega)
                              have fn1 := HS.out.1.fz (i + 1)
                              have HPP := Aside0.mk (show eatL line (l.map RTd) p R3 l.length 0 (List.replicate (l.length + 1) (-1)) = eatL line (l.map RTd) p R3 d5 (i + 1) (N.set (i + 1) (leastV (rd N ((i + 1 : Nat) : Int)) r)) from HP.out)
                              clear HP
                              generalize rd N ((i + 1 : Nat) : Int) = n1 at cn1 HPP
                              have hii : (i : Int) ≤ 1000 := by omega
                              have q9 : (0 ≤ (i : Int) + 1) = True := eq_true (by omega)
                              have q10 : ((i : Int) + 1 < (l.length : Int) + 1) = True := eq_true (by omega)
                              have t1 : ((i : Int) + 1).toNat = i + 1 := by omega
                              clear e1 ek stay hil hnone hsome hkr hbr hb256 HE5 hS h2 dk
                              have dk : decide ((1 : Int) < 0) = false := by decide
                              go_wp2
                              go_quiet (fail)
                              go_wp2
                              have hw1 : wrap64 ((i : Int) + 1) = (i : Int) + 1 := by unfold wrap64; omega
                              refine start_ (n := 15) (S := fun w' => w'.cell? ⟨g2, i + 1, none⟩ = some (.int .i64 n1) ∧ w'.cell? ⟨g, i, none⟩ = some (.int .i64 r)) (ds := [14]) #[false, false, false, false, false, false, false, false, false, false, false, false, false, false, false] (by kernel_rfl) rfl rfl ⟨cn1, ck⟩ (fun hHeld => ?_)
                              refine pure_ (i := 0) (N := some 184) (v := ?_) (a' := ?_) #[true, false, false, false, false, false, false, false, false, false, false, false, false, false, false] rfl rfl (by kernel_rfl) (fun _ _ _ h => h) (Or.inl ⟨by rfl, ?_⟩) ?_ ?_
                              rotate_left
                              · intro w'
                                go_simp
                                with_reducible rfl
                              rotate_left
                              · simp only [Act.put, List.setIfInBounds_toArray, List.set_cons_zero, List.set_cons_succ, i64_w, i32_w]
                                rfl
                              refine pure_ (i := 1) (N := some 185) (v := ?_) (a' := ?_) #[true, true, false, false, false, false, false, false, false, false, false, false, false, false, false] rfl rfl (by kernel_rfl) (fun _ _ _ h => h) (Or.inl ⟨by rfl, ?_⟩) ?_ ?_
                              rotate_left
                              · intro w'
                                go_simp
                                with_reducible rfl
                              rotate_left
                              · simp only [Act.put, List.setIfInBounds_toArray, List.set_cons_zero, List.set_cons_succ, i64_w, i32_w]
                                rfl
                              refine pure_ (i := 2) (N := some 186) (v := ?_) (a' := ?_) #[true, true, true, false, false, false, false, false, false, false, false, false, false, false, false] rfl rfl (by kernel_rfl) (fun _ _ _ h => h) (Or.inl ⟨by rfl, ?_⟩) ?_ ?_
                              rotate_left
                              · intro w'
                                go_simp
                                with_reducible rfl
                              rotate_left
                              · simp only [Act.put, List.setIfInBounds_toArray, List.set_cons_zero, List.set_cons_succ, i64_w, i32_w]
                                rfl
                              refine pure_ (i := 3) (N := some 187) (v := ?_) (a' := ?_) #[true, true, true, true, false, false, false, false, false, false, false, false, false, false, false] rfl rfl (by kernel_rfl) (fun _ _ _ h => h) (Or.inl ⟨by rfl, ?_⟩) ?_ ?_
                              rotate_left
                              · intro w'
                                go_simp
                                with_reducible rfl
                              rotate_left
                              · simp only [Act.put, List.setIfInBounds_toArray, List.set_cons_zero, List.set_cons_succ, i64_w, i32_w]
                                rfl
                              refine pure_ (i := 4) (N := some 188) (v := ?_) (a' := ?_) #[true, true, true, true, true, false, false, false, false, false, false, false, false, false, false] rfl rfl (by kernel_rfl) (fun _ _ _ h => h) (Or.inl ⟨by rfl, ?_⟩) ?_ ?_
                              rotate_left
                              · intro w'
                                go_simp
                                with_reducible rfl
                              rotate_left
                              · simp only [Act.put, List.setIfInBounds_toArray, List.set_cons_zero, List.set_cons_succ, i64_w, i32_w]
                                rfl
                              refine pure_ (i := 5) (N := some 189) (v := ?_) (a' := ?_) #[true, true, true, true, true, true, false, false, false, false, false, false, false, false, false] rfl rfl (by kernel_rfl) (fun _ _ _ h => h) (Or.inl ⟨by rfl, ?_⟩) ?_ ?_
                              rotate_left
                              · intro w'
                                go_simp
                                with_reducible rfl
                              rotate_left
                              · simp only [Act.put, List.setIfInBounds_toArray, List.set_cons_zero, List.set_cons_succ, i64_w, i32_w]
                                rfl
                              refine pure_ (i := 6) (N := some 190) (v := ?_) (a' := ?_) #[true, true, true, true, true, true, true, false, false, false, false, false, false, false, false] rfl rfl (by kernel_rfl) (fun _ _ _ h => h) (Or.inl ⟨by rfl, ?_⟩) ?_ ?_
                              rotate_left
                              · intro w'
                                go_simp
                                with_reducible rfl
                              rotate_left
                              · simp only [Act.put, List.setIfInBounds_toArray, List.set_cons_zero, List.set_cons_succ, i64_w, i32_w]
                                rfl
                              refine pure_ (i := 8) (N := some 192) (v := ?_) (a' := ?_) #[true, true, true, true, true, true, true, false, true, false, false, false, false, false, false] rfl rfl (by kernel_rfl) (fun _ _ _ h => h) (Or.inl ⟨by rfl, ?_⟩) ?_ ?_
                              rotate_left
                              · intro w'
                                go_simp
                                with_reducible rfl
                              rotate_left
                              · simp only [Act.put, List.setIfInBounds_toArray, List.set_cons_zero, List.set_cons_succ, i64_w, i32_w]
                                rfl
                              refine pure_ (i := 9) (N := some 193) (v := ?_) (a' := ?_) #[true, true, true, true, true, true, true, false, true, true, false, false, false, false, false] rfl rfl (by kernel_rfl) (fun _ _ _ h => h) (Or.inl ⟨by rfl, ?_⟩) ?_ ?_
                              rotate_left
                              · intro w'
                                go_simp
                                with_reducible rfl
                              rotate_left
                              · simp only [Act.put, List.setIfInBounds_toArray, List.set_cons_zero, List.set_cons_succ, i64_w, i32_w]
                                rfl
                              refine pure_ (i := 10) (N := some 194) (v := ?_) (a' := ?_) #[true, true, true, true, true, true, true, false, true, true, true, false, false, false, false] rfl rfl (by kernel_rfl) (fun _ _ _ h => h) (Or.inl ⟨by rfl, ?_⟩) ?_ ?_
                              rotate_left
                              · intro w'
                                go_simp
                                with_reducible rfl
                              rotate_left
                              · simp only [Act.put, List.setIfInBounds_toArray, List.set_cons_zero, List.set_cons_succ, i64_w, i32_w]
                                rfl
                              refine take_ (i := 7) (N := some 191) (v := ?_) (a' := ?_) #[true, true, true, true, true, true, true, true, true, true, true, false, false, false, false] rfl rfl (by kernel_rfl) (fun _ _ _ h => h) (Or.inl ⟨by rfl, ?_⟩) hHeld ?_ ?_
                              rotate_left
                              · rintro w' ⟨s0, s1⟩
                                go_simp
                                with_reducible rfl
                              rotate_left
                              · simp only [Act.put, List.setIfInBounds_toArray, List.set_cons_zero, List.set_cons_succ, i64_w, i32_w]
                                rfl
                              refine take_ (i := 11) (N := some 195) (v := ?_) (a' := ?_) #[true, true, true, true, true, true, true, true, true, true, true, true, false, false, false] rfl rfl (by kernel_rfl) (fun _ _ _ h => h) (Or.inl ⟨by rfl, ?_⟩) hHeld ?_ ?_
                              rotate_left
                              · rintro w' ⟨s0, s1⟩
                                go_simp
                                with_reducible rfl
                              rotate_left
                              · simp only [Act.put, List.setIfInBounds_toArray, List.set_cons_zero, List.set_cons_succ, i64_w, i32_w]
                                rfl
                              refine one_ (i := 12) (N := some 196) #[true, true, true, true, true, true, true, true, true, true, true, true, true, false, false] rfl rfl (by kernel_rfl) (by decide) (fun K hK => ?_)
                              refine goes_ Tryd.func100 (by kernel_rfl) rfl #[.int .i64 n1, .int .i64 r] (by rfl) rfl rfl (by simp only [List.map_toArray, List.map_cons, List.map_nil]; rfl) ?_
                              with_reducible refine (least_calls n1 r _).mono ?_
                              rintro e w5 ⟨rfl, ⟨nd, rfl⟩⟩
                              refine ⟨_, rfl, ?_⟩
                              refine hK.out _ _ ⟨cn1, ck⟩ (fun hHeld => ?_)
                              clear hK K
                              refine norm_ (a' := ?_) ?_ ?_
                              rotate_left
                              · show Act.put _ (some 196) _ = _
                                simp only [Act.put, List.setIfInBounds_toArray, List.set_cons_zero, List.set_cons_succ, i64_w, i32_w]
                                rfl
                              refine pure_ (i := 13) (N := some 197) (v := ?_) (a' := ?_) #[true, true, true, true, true, true, true, true, true, true, true, true, true, true, false] rfl rfl (by kernel_rfl) (fun _ _ _ h => h) (Or.inl ⟨by rfl, ?_⟩) ?_ ?_
                              rotate_left
                              · intro w'
                                go_simp
                                with_reducible rfl
                              rotate_left
                              · simp only [Act.put, List.setIfInBounds_toArray, List.set_cons_zero, List.set_cons_succ, i64_w, i32_w]
                                rfl
                              refine last_ (i := 14) (N := none) #[true, true, true, true, true, true, true, true, true, true, true, true, true, true, true] rfl rfl (by kernel_rfl) (by decide) (fun K hK => ?_)
                              refine skip_ (w1 := ?_) (by rfl) rfl ?_ ?_
                              rotate_left
                              · go_simp
                                rfl
                              refine hK.out _ _ ?_
                              clear hK K
                              refine done_ (by kernel_rfl) ?_
                              clear hw1
                              go_wp2
                              go_roundg d5
                              case measure => omega
                              case rel => exact ⟨i + 1, N.set (i + 1) (leastV n1 r), by first | (congr 1; done) | (congr 1; omega), by omega, by simp [hN5], ⟨(HS.out.1.drew _).put (i + 1) _, (HS.out.2.drew _).far (fun h => HG.out h.symm) HS.out.1.2.1 (i + 1) _, HPP.out⟩⟩
            | succ d3 =>
              have q3 : decide (i ≤ l.length) = true := decide_eq_true (by omega)
              have q1 : (0 ≤ (i : Int)) = True := eq_true (by omega)
              have q2 : ((i : Int) < (l.length : Int) + 1) = True := eq_true (by omega)
              have ck := HQ.out.1.cell (k := i) (by omega)
              have fk := HQ.out.1.fz i
              have HS := Aside0.mk HQ.out.1
              have HE := Aside0.mk (show outS line (l.map RTd) p R a b ok = passL line (l.map RTd) p d3 (i + 1) (pass1 line (l.map RTd) p i ⟨R3, a3, b3, ok3, live3⟩) from HQ.out.2)
              clear HQ
              generalize hr : rd R3 (i : Int) = r at ck
              have HR := Aside0.mk hr
              clear hr
              by_cases c1 : r < 0
              · have d1 : decide (r < 0) = true := decide_eq_true c1
                have HP := Aside0.mk (HE.out.trans (show _ = passL line (l.map RTd) p d3 (i + 1) ⟨R3, a3, b3, ok3, live3⟩ by unfold pass1; rw [if_pos (by rw [HR.out]; exact c1)]))
                clear c1 HE
                go_wp2
                go_roundg d3
                case measure => omega
                case rel => exact ⟨i + 1, ⟨R3, a3, b3, ok3, live3⟩, rfl, rfl, rfl, rfl, by first | (congr 1; done) | (congr 1; omega), by omega, hR3, ⟨HS.out, HP.out⟩⟩
              have d1 : decide (r < 0) = false := decide_eq_false c1
              by_cases c2 : ok3 = true ∧ r > a3
              · obtain ⟨rfl, c3⟩ := c2
                have d2 : decide (a3 < r) = true := decide_eq_true c3
                have HP := Aside0.mk (HE.out.trans (show _ = passL line (l.map RTd) p d3 (i + 1) ⟨R3.set i (-1), a3, b3, true, live3⟩ by unfold pass1; rw [if_neg (by rw [HR.out]; exact c1), if_pos ⟨rfl, by rw [HR.out]; exact c3⟩]))
                clear c1 c3 HE
                go_wp2
                go_roundg d3
                case measure => omega
                case rel => exact ⟨i + 1, ⟨R3.set i (-1), a3, b3, true, live3⟩, rfl, rfl, rfl, rfl, by first | (congr 1; done) | (congr 1; omega), by omega, by simp [hR3], ⟨HS.out.put i (-1), HP.out⟩⟩
              have HE2 := Aside0.mk (HE.out.trans (show _ = passL line (l.map RTd) p d3 (i + 1) (if i = (l.map RTd).length then ⟨R3, r, (p : Int), true, live3⟩ else if passB line ((l.map RTd).getD i .front) p = true then ⟨R3.set (i + 1) (leastV (rd R3 ((i : Int) + 1)) r), a3, b3, ok3, true⟩ else ⟨R3, a3, b3, ok3, true⟩) by unfold pass1; rw [if_neg (by rw [HR.out]; exact c1), if_neg (by rw [HR.out]; exact c2)]; simp only [HR.out]))
              have d2 : ok3 = true → decide (a3 < r) = false := fun h => decide_eq_false (fun h2 => c2 ⟨h, h2⟩)
              clear HE
              by_cases c3 : i = l.length
              · have d3b : ((i : Int) == (l.length : Int)) = true := by rw [beq_iff_eq]; omega
                have HP := Aside0.mk (HE2.out.trans (by rw [if_pos (by rw [List.length_map]; exact c3)]))
                clear HE2 c1 c2 c3
                cases ok3 with
                | true =>
                  replace d2 := d2 rfl
                  go_wp2
                  go_roundg d3
                  case measure => omega
                  case rel => exact ⟨i + 1, ⟨R3, r, (p : Int), true, live3⟩, rfl, rfl, rfl, rfl, by first | (congr 1; done) | (congr 1; omega), by omega, hR3, ⟨HS.out, HP.out⟩⟩
                | false =>
                  clear d2
                  go_wp2
                  go_roundg d3
                  case measure => omega
                  case rel => exact ⟨i + 1, ⟨R3, r, (p : Int), true, live3⟩, rfl, rfl, rfl, rfl, by first | (congr 1; done) | (congr 1; omega), by omega, hR3, ⟨HS.out, HP.out⟩⟩
              have d3b : ((i : Int) == (l.length : Int)) = false := beq_eq_false_iff_ne.mpr (by omega)
              have q4 : ((i : Int) < (l.length : Int)) = True := eq_true (by omega)
              have hil : i < l.length := by omega
              obtain ⟨ad0, rfl⟩ : ∃ ad, A1 = some ad := by
                obtain ⟨ad, _, e, _⟩ := Kd.C_get H.out.1 (0, fun _ => false) (i : Int) (by omega) (by omega)
                exact ⟨ad, e⟩
              have hmem : l.getD i (0, fun _ => false) ∈ l := by
                rw [List.getD_eq_getElem?_getD, List.getElem?_eq_getElem (show i < l.length by omega)]
                exact List.getElem_mem _
              have hgd : (l.map RTd).getD i .front = RTd (l.getD i (0, fun _ => false)) := by
                rw [List.getD_eq_getElem?_getD, List.getD_eq_getElem?_getD, List.getElem?_map, List.getElem?_eq_getElem (show i < l.length by omega)]
                rfl
              have HE3 := Aside0.mk (HE2.out.trans (by rw [if_neg (by rw [List.length_map]; exact c3), hgd]))
              have HLD := Aside0.mk (ld_thing (Kd.C_below H.out.1 HS.out.1) (show i < l.length by omega) (0, fun _ => false))
              have HPS := Aside0.mk (rpasses_calls (c := c) (Kd.C_below H.out.2.2.1 HS.out.1) hc H.out.2.2.2 (l.getD i (0, fun _ => false)) (H.out.2.1 _ hmem) (p : Int) ⟨by omega, by omega⟩)
              clear HE2 hmem hgd c1 c2 c3
              generalize l.getD i (0, fun _ => false) = x at HE3 HLD HPS
              have hcase : (ok3 = true ∧ decide (a3 < r) = false) ∨ ok3 = false := by
                cases ok3 with
                | true => exact .inl ⟨rfl, d2 rfl⟩
                | false => exact .inr rfl
              clear d2
              rcases hcase with ⟨rfl, d2⟩ | rfl
              all_goals
                cases hpb : passB line (RTd x) (p : Int) with
                | false =>
                  rw [hpb] at HPS
                  have HP := Aside0.mk (HE3.out.trans (by rw [if_neg (by rw [hpb]; decide)]))
                  clear HE3 hpb
                  go_wp2_with (first
                    | ((with_reducible refine gate_ (.load 111 (.tmp 91)) rfl ?_); refine wpl_ld rfl 111 (.tmp 91) rfl (ad0.add (i * 257)) (.agg (tcells x)) rfl HLD.out ?_)
                    | (go_at_call 101; (with_reducible refine HPS.out.mono ?_); rintro e w4 ⟨rfl, hx⟩; have HS4 := Aside0.mk (HS.out.mv hx); clear hx))
                  go_roundg d3
                  case measure => omega
                  case rel => exact ⟨i + 1, ⟨R3, a3, b3, _, true⟩, rfl, rfl, rfl, rfl, by first | (congr 1; done) | (congr 1; omega), by omega, hR3, ⟨HS4.out, HP.out⟩⟩
                | true =>
                  rw [hpb] at HPS
                  have HP := Aside0.mk (HE3.out.trans (by rw [if_pos hpb]))
                  clear HE3 hpb
                  go_wp2_with (first
                    | ((with_reducible refine gate_ (.load 111 (.tmp 91)) rfl ?_); refine wpl_ld rfl 111 (.tmp 91) rfl (ad0.add (i * 257)) (.agg (tcells x)) rfl HLD.out ?_)
                    | (go_at_call 101; (with_reducible refine HPS.out.mono ?_); rintro e w4 ⟨rfl, hx⟩; have HS4 := Aside0.mk (HS.out.mv hx); have ck4 := HS4.out.cell (k := i) (by omega); rw [HR.out] at ck4; have ck5 := HS4.out.cell (k := i + 1) (by omega); have fk5 := HS4.out.fz (i + 1); clear hx))
                  have q5 : (0 ≤ (i : Int) + 1) = True := eq_true (by omega)
                  have q6 : ((i : Int) + 1 < (l.length : Int) + 1) = True := eq_true (by omega)
                  have t1 : ((i : Int) + 1).toNat = i + 1 := by omega
                  have hii : (i : Int) ≤ 1000 := by omega
                  rw [show ((i + 1 : Nat) : Int) = (i : Int) + 1 from by omega] at ck5
                  generalize hr1 : rd R3 ((i : Int) + 1) = r1 at ck5 HP
                  clear hr1 HR HS HLD HPS ck fk
                  have hw1 : wrap64 ((i : Int) + 1) = (i : Int) + 1 := by unfold wrap64; omega
                  refine start_ (n := 15) (S := fun w' => w'.cell? ⟨g, i + 1, none⟩ = some (.int .i64 r1) ∧ w'.cell? ⟨g, i, none⟩ = some (.int .i64 r)) (ds := [14]) #[false, false, false, false, false, false, false, false, false, false, false, false, false, false, false] (by kernel_rfl) rfl rfl ⟨ck5, ck4⟩ (fun hHeld => ?_)
                  refine pure_ (i := 0) (N := some 96) (v := ?_) (a' := ?_) #[true, false, false, false, false, false, false, false, false, false, false, false, false, false, false] rfl rfl (by kernel_rfl) (fun _ _ _ h => h) (Or.inl ⟨by rfl, ?_⟩) ?_ ?_
                  rotate_left
                  · intro w'
                    go_simp
                    with_reducible rfl
                  rotate_left
                  · simp only [Act.put, List.setIfInBounds_toArray, List.set_cons_zero, List.set_cons_succ, i64_w, i32_w]
                    rfl
                  refine pure_ (i := 1) (N := some 97) (v := ?_) (a' := ?_) #[true, true, false, false, false, false, false, false, false, false, false, false, false, false, false] rfl rfl (by kernel_rfl) (fun _ _ _ h => h) (Or.inl ⟨by rfl, ?_⟩) ?_ ?_
                  rotate_left
                  · intro w'
                    go_simp
                    with_reducible rfl
                  rotate_left
                  · simp only [Act.put, List.setIfInBounds_toArray, List.set_cons_zero, List.set_cons_succ, i64_w, i32_w]
                    rfl
                  refine pure_ (i := 2) (N := some 98) (v := ?_) (a' := ?_) #[true, true, true, false, false, false, false, false, false, false, false, false, false, false, false] rfl rfl (by kernel_rfl) (fun _ _ _ h => h) (Or.inl ⟨by rfl, ?_⟩) ?_ ?_
                  rotate_left
                  · intro w'
                    go_simp
                    with_reducible rfl
                  rotate_left
                  · simp only [Act.put, List.setIfInBounds_toArray, List.set_cons_zero, List.set_cons_succ, i64_w, i32_w]
                    rfl
                  refine pure_ (i := 3) (N := some 99) (v := ?_) (a' := ?_) #[true, true, true, true, false, false, false, false, false, false, false, false, false, false, false] rfl rfl (by kernel_rfl) (fun _ _ _ h => h) (Or.inl ⟨by rfl, ?_⟩) ?_ ?_
                  rotate_left
                  · intro w'
                    go_simp
                    with_reducible rfl
                  rotate_left
                  · simp only [Act.put, List.setIfInBounds_toArray, List.set_cons_zero, List.set_cons_succ, i64_w, i32_w]
                    rfl
                  refine pure_ (i := 4) (N := some 100) (v := ?_) (a' := ?_) #[true, true, true, true, true, false, false, false, false, false, false, false, false, false, false] rfl rfl (by kernel_rfl) (fun _ _ _ h => h) (Or.inl ⟨by rfl, ?_⟩) ?_ ?_
                  rotate_left
                  · intro w'
                    go_simp
                    with_reducible rfl
                  rotate_left
                  · simp only [Act.put, List.setIfInBounds_toArray, List.set_cons_zero, List.set_cons_succ, i64_w, i32_w]
                    rfl
                  refine pure_ (i := 5) (N := some 101) (v := ?_) (a' := ?_) #[true, true, true, true, true, true, false, false, false, false, false, false, false, false, false] rfl rfl (by kernel_rfl) (fun _ _ _ h => h) (Or.inl ⟨by rfl, ?_⟩) ?_ ?_
                  rotate_left
                  · intro w'
                    go_simp
                    with_reducible rfl
                  rotate_left
                  · simp only [Act.put, List.setIfInBounds_toArray, List.set_cons_zero, List.set_cons_succ, i64_w, i32_w]
                    rfl
                  refine pure_ (i := 6) (N := some 102) (v := ?_) (a' := ?_) #[true, true, true, true, true, true, true, false, false, false, false, false, false, false, false] rfl rfl (by kernel_rfl) (fun _ _ _ h => h) (Or.inl ⟨by rfl, ?_⟩) ?_ ?_
                  rotate_left
                  · intro w'
                    go_simp
                    with_reducible rfl
                  rotate_left
                  · simp only [Act.put, List.setIfInBounds_toArray, List.set_cons_zero, List.set_cons_succ, i64_w, i32_w]
                    rfl
                  refine pure_ (i := 8) (N := some 104) (v := ?_) (a' := ?_) #[true, true, true, true, true, true, true, false, true, false, false, false, false, false, false] rfl rfl (by kernel_rfl) (fun _ _ _ h => h) (Or.inl ⟨by rfl, ?_⟩) ?_ ?_
                  rotate_left
                  · intro w'
                    go_simp
                    with_reducible rfl
                  rotate_left
                  · simp only [Act.put, List.setIfInBounds_toArray, List.set_cons_zero, List.set_cons_succ, i64_w, i32_w]
                    rfl
                  refine pure_ (i := 9) (N := some 105) (v := ?_) (a' := ?_) #[true, true, true, true, true, true, true, false, true, true, false, false, false, false, false] rfl rfl (by kernel_rfl) (fun _ _ _ h => h) (Or.inl ⟨by rfl, ?_⟩) ?_ ?_
                  rotate_left
                  · intro w'
                    go_simp
                    with_reducible rfl
                  rotate_left
                  · simp only [Act.put, List.setIfInBounds_toArray, List.set_cons_zero, List.set_cons_succ, i64_w, i32_w]
                    rfl
                  refine pure_ (i := 10) (N := some 106) (v := ?_) (a' := ?_) #[true, true, true, true, true, true, true, false, true, true, true, false, false, false, false] rfl rfl (by kernel_rfl) (fun _ _ _ h => h) (Or.inl ⟨by rfl, ?_⟩) ?_ ?_
                  rotate_left
                  · intro w'
                    go_simp
                    with_reducible rfl
                  rotate_left
                  · simp only [Act.put, List.setIfInBounds_toArray, List.set_cons_zero, List.set_cons_succ, i64_w, i32_w]
                    rfl
                  refine take_ (i := 7) (N := some 103) (v := ?_) (a' := ?_) #[true, true, true, true, true, true, true, true, true, true, true, false, false, false, false] rfl rfl (by kernel_rfl) (fun _ _ _ h => h) (Or.inl ⟨by rfl, ?_⟩) hHeld ?_ ?_
                  rotate_left
                  · rintro w' ⟨s0, s1⟩
                    go_simp
                    with_reducible rfl
                  rotate_left
                  · simp only [Act.put, List.setIfInBounds_toArray, List.set_cons_zero, List.set_cons_succ, i64_w, i32_w]
                    rfl
                  refine take_ (i := 11) (N := some 107) (v := ?_) (a' := ?_) #[true, true, true, true, true, true, true, true, true, true, true, true, false, false, false] rfl rfl (by kernel_rfl) (fun _ _ _ h => h) (Or.inl ⟨by rfl, ?_⟩) hHeld ?_ ?_
                  rotate_left
                  · rintro w' ⟨s0, s1⟩
                    go_simp
                    with_reducible rfl
                  rotate_left
                  · simp only [Act.put, List.setIfInBounds_toArray, List.set_cons_zero, List.set_cons_succ, i64_w, i32_w]
                    rfl
                  refine one_ (i := 12) (N := some 108) #[true, true, true, true, true, true, true, true, true, true, true, true, true, false, false] rfl rfl (by kernel_rfl) (by decide) (fun K hK => ?_)
                  refine goes_ Tryd.func100 (by kernel_rfl) rfl #[.int .i64 r1, .int .i64 r] (by rfl) rfl rfl (by simp only [List.map_toArray, List.map_cons, List.map_nil]; rfl) ?_
                  with_reducible refine (least_calls r1 r _).mono ?_
                  rintro e w5 ⟨rfl, ⟨nd, rfl⟩⟩
                  refine ⟨_, rfl, ?_⟩
                  refine hK.out _ _ ⟨ck5, ck4⟩ (fun hHeld => ?_)
                  clear hK K
                  refine norm_ (a' := ?_) ?_ ?_
                  rotate_left
                  · show Act.put _ (some 108) _ = _
                    simp only [Act.put, List.setIfInBounds_toArray, List.set_cons_zero, List.set_cons_succ, i64_w, i32_w]
                    rfl
                  refine pure_ (i := 13) (N := some 109) (v := ?_) (a' := ?_) #[true, true, true, true, true, true, true, true, true, true, true, true, true, true, false] rfl rfl (by kernel_rfl) (fun _ _ _ h => h) (Or.inl ⟨by rfl, ?_⟩) ?_ ?_
                  rotate_left
                  · intro w'
                    go_simp
                    with_reducible rfl
                  rotate_left
                  · simp only [Act.put, List.setIfInBounds_toArray, List.set_cons_zero, List.set_cons_succ, i64_w, i32_w]
                    rfl
                  refine last_ (i := 14) (N := none) #[true, true, true, true, true, true, true, true, true, true, true, true, true, true, true] rfl rfl (by kernel_rfl) (by decide) (fun K hK => ?_)
                  refine skip_ (w1 := ?_) (by rfl) rfl ?_ ?_
                  rotate_left
                  · go_simp
                    rfl
                  refine hK.out _ _ ?_
                  clear hK K
                  refine done_ (by kernel_rfl) ?_
                  clear hw1
                  go_wp2
                  go_roundg d3
                  case measure => omega
                  case rel => exact ⟨i + 1, ⟨R3.set (i + 1) (leastV r1 r), a3, b3, _, true⟩, rfl, rfl, rfl, rfl, by first | (congr 1; done) | (congr 1; omega), by omega, by simp [hR3], ⟨(HS4.out.drew _).put (i + 1) _, HP.out⟩⟩
end Go.Proofs.YtdhdngoeaneanaaDoor.PT
