/-
  Patterns, by hand: a set in brackets.
-/
import Derived.Test.YtdhdngoeaneanaaDoorPT2
import Derived.Deep.RegionHeld3
import Derived.Deep.AppendLies
namespace Go.Proofs.YtdhdngoeaneanaaDoor.PT
open Go.RowKit Go.Proofs.YtdhdngoeaneanaaDoorW.PrintWords Go.Proofs.YtdhdngoeaneanaaDoorW.PrintMore
/-- A reader whose row of things is ov. -/
structure RX (w0 : World) (r : Nat) (A : Option Addr) (c : Nat) (p : List Int) (at_ fault : Int) (l : List Th) (ov : Value) (w : World) : Prop where
  below : Below w0.heap.size w0 w
  ge : w0.heap.size ≤ r
  blk : w.heap[r]? = some (.cells #[.slice A p.length c, .int .i64 at_, ov, .int .i64 fault] 75 (0, 0))
  row : kTh.R 121 w w0.heap.size (fun _ => True) ov l
  sets : Sets w l
theorem RX.ri {w0 w : World} {r : Nat} {A : Option Addr} {c : Nat} {p : List Int} {at_ fault : Int} {l : List Th} {ov : Value} (h : RX w0 r A c p at_ fault l ov w) : RI w0 r A c p at_ fault l w := ⟨h.below, h.ge, ⟨ov, h.blk, h.row⟩, h.sets⟩
def setBlk : Th → Option Nat
  | .single k _ => some k
  | .many k _ => some k
  | _ => none
/-- The set s is none of the things'. -/
def Fresh (s : Nat) (l : List Th) : Prop := ∀ x ∈ l, setBlk x ≠ some s
theorem Fresh_new {w : World} {l : List Th} (h : Sets w l) : Fresh w.heap.size l := by
  intro x hx e
  have h1 := h x hx
  cases x with
  | single k S => have h2 := blk_lt h1; injection e with e; omega
  | many k S => have h2 := blk_lt h1; injection e with e; omega
  | front => cases e
  | back => cases e
  | opens => cases e
  | closes => cases e
section
variable {w0 w : World} {r : Nat} {A : Option Addr} {c : Nat} {p : List Int} {at_ fault : Int} {l : List Th} {ov : Value}
theorem RX.drew (h : RX w0 r A c p at_ fault l ov w) (n : Nat) : RX w0 r A c p at_ fault l ov (w.drewN n) := ⟨pw_below_drewN h.below n, h.ge, blk_drewN h.blk n, Kd.R_drewN h.row n, h.sets⟩
theorem RX.mv (h : RX w0 r A c p at_ fault l ov w) {w' : World} (hb : Below w.heap.size w w') : RX w0 r A c p at_ fault l ov w' := ⟨below_step h.below hb, h.ge, blk_below h.blk hb, Kd.R_below h.row hb, fun x hx => SetAt_below (h.sets x hx) hb⟩
theorem RX.setAt (h : RX w0 r A c p at_ fault l ov w) (a : Int) : RX w0 r A c p a fault l ov (w.setCell ⟨r, 1, none⟩ (.int .i64 a)) := ⟨below_set h.below h.ge, h.ge, blk_put h.blk 1 _ rfl, Kd.R_set h.row h.blk (by decide) _ _, Sets_far h.sets h.blk (by decide) _ _⟩
theorem RX.setFault (h : RX w0 r A c p at_ fault l ov w) (a : Int) : RX w0 r A c p at_ a l ov (w.setCell ⟨r, 3, none⟩ (.int .i64 a)) := ⟨below_set h.below h.ge, h.ge, blk_put h.blk 3 _ rfl, Kd.R_set h.row h.blk (by decide) _ _, Sets_far h.sets h.blk (by decide) _ _⟩
theorem RX.setS (h : RX w0 r A c p at_ fault l ov w) {s : Nat} {cs : Array Value} (hs : w.heap[s]? = some (.cells cs 120 (0, 0))) (hf : Fresh s l) (hge : w0.heap.size ≤ s) (j : Nat) (u : Value) : RX w0 r A c p at_ fault l ov (w.setCell ⟨s, j, none⟩ u) := by
  refine ⟨below_set h.below hge, h.ge, blk_far h.blk (blk_ne h.blk hs (by decide)) u, Kd.R_set h.row hs (by decide) _ _, fun x hx => ?_⟩
  have h1 := h.sets x hx
  have h2 := hf x hx
  cases x with
  | single k S => exact blk_far h1 (fun e => h2 (by rw [show k = s from e]; rfl)) u
  | many k S => exact blk_far h1 (fun e => h2 (by rw [show k = s from e]; rfl)) u
  | front => trivial
  | back => trivial
  | opens => trivial
  | closes => trivial
end
/-- A set with the bytes from lo to hi besides. -/
def rng (S : Nat → Bool) (lo hi : Int) : Nat → Bool := fun j => S j || (decide (lo ≤ (j : Int)) && decide ((j : Int) ≤ hi))
/-- The loop of a set: was it closed; the place; a turned range; the set. -/
def brkL (p : List Int) : Nat → Nat → Int → Bool → (Nat → Bool) → Bool × Nat × Int × (Nat → Bool)
  | 0, a, tu, _, S => (false, a, tu, S)
  | d + 1, a, tu, fst, S =>
    if p.length ≤ a then (false, a, tu, S)
    else if rd p a = 93 ∧ fst = false then (true, a + 1, tu, S)
    else if a + 2 < p.length ∧ rd p ((a : Int) + 1) = 45 ∧ rd p ((a : Int) + 2) ≠ 93 then brkL p d (a + 3) (if rd p ((a : Int) + 2) < rd p a ∧ tu < 0 then (a : Int) else tu) false (rng S (rd p a) (rd p ((a : Int) + 2)))
    else brkL p d (a + 1) tu false (rng S (rd p a) (rd p a))
/-- Is the set the other bytes'? -/
def brkN (p : List Int) (a : Nat) : Bool := decide (a < p.length) && rd p a == 94
def brkR (p : List Int) (a : Nat) : Bool × Nat × Int × (Nat → Bool) := brkL p (p.length + 1) (if brkN p a = true then a + 1 else a) (-1) true (fun _ => false)
/-- What brackets comes to: the set, the place, the fault. -/
def brkV (p : List Int) (a : Nat) (fault : Int) : (Nat → Bool) × Nat × Int :=
  if (brkR p a).1 = true then ((if brkN p a = true then (fun j => decide (j < 256) && !(brkR p a).2.2.2 j) else (brkR p a).2.2.2), (brkR p a).2.1, (if (brkR p a).2.2.1 ≥ 0 then (brkR p a).2.2.1 else fault))
  else ((brkR p a).2.2.2, (brkR p a).2.1, (a : Int) - 1)
theorem bset_congr {S S' : Nat → Bool} (h : ∀ j, j < 256 → S j = S' j) : bset S = bset S' := by
  unfold bset
  congr 1
  exact List.map_congr_left (fun j hj => by rw [h j (List.mem_range.1 hj)])
section
variable {w0 w : World} {r s : Nat} {A : Option Addr} {c : Nat} {p : List Int} {at_ fault : Int} {l : List Th} {ov : Value} {cs : Array Value}
/-- A reader, and a set that is being made. -/
def BX (w0 : World) (r : Nat) (A : Option Addr) (c : Nat) (p : List Int) (at_ fault : Int) (l : List Th) (ov : Value) (s : Nat) (cs : Array Value) (w : World) : Prop := RX w0 r A c p at_ fault l ov w ∧ w.heap[s]? = some (.cells cs 120 (0, 0))
theorem BX.drew (h : BX w0 r A c p at_ fault l ov s cs w) (n : Nat) : BX w0 r A c p at_ fault l ov s cs (w.drewN n) := ⟨h.1.drew n, blk_drewN h.2 n⟩
theorem BX.setAt (h : BX w0 r A c p at_ fault l ov s cs w) (a : Int) : BX w0 r A c p a fault l ov s cs (w.setCell ⟨r, 1, none⟩ (.int .i64 a)) := ⟨h.1.setAt a, blk_far h.2 (blk_ne h.2 h.1.blk (by decide)) _⟩
theorem BX.setFault (h : BX w0 r A c p at_ fault l ov s cs w) (a : Int) : BX w0 r A c p at_ a l ov s cs (w.setCell ⟨r, 3, none⟩ (.int .i64 a)) := ⟨h.1.setFault a, blk_far h.2 (blk_ne h.2 h.1.blk (by decide)) _⟩
theorem BX.setS (h : BX w0 r A c p at_ fault l ov s cs w) (hf : Fresh s l) (hge : w0.heap.size ≤ s) (j : Nat) (u : Value) : BX w0 r A c p at_ fault l ov s (cs.setIfInBounds j u) (w.setCell ⟨s, j, none⟩ u) := ⟨h.1.setS h.2 hf hge j u, blk_set h.2 j u⟩
end
theorem BX.up {w0 w : World} {r s b : Nat} {A : Option Addr} {c : Nat} {p : List Int} {fault : Int} {l : List Th} {ov : Value} {cs : Array Value} (h : BX w0 r A c p ((b : Int) + 1) fault l ov s cs w) : BX w0 r A c p ((b + 1 : Nat) : Int) fault l ov s cs w := by
  rw [show ((b + 1 : Nat) : Int) = (b : Int) + 1 from by omega]
  exact h
theorem BX.up2 {w0 w : World} {r s b : Nat} {A : Option Addr} {c : Nat} {p : List Int} {fault : Int} {l : List Th} {ov : Value} {cs : Array Value} (h : BX w0 r A c p ((b : Int) + 2) fault l ov s cs w) : BX w0 r A c p ((b + 2 : Nat) : Int) fault l ov s cs w := by
  rw [show ((b + 2 : Nat) : Int) = (b : Int) + 2 from by omega]
  exact h
theorem rng_step {S : Nat → Bool} {kx k j : Nat} (h : kx ≤ k) : (S j || (decide (kx ≤ j) && decide (j < k + 1))) = (if j = k then true else (S j || (decide (kx ≤ j) && decide (j < k)))) := by
  by_cases e : j = k
  · subst e
    rw [if_pos rfl, decide_eq_true h, decide_eq_true (Nat.lt_succ_self _)]
    simp
  · rw [if_neg e, show decide (j < k + 1) = decide (j < k) from by rw [decide_eq_decide]; omega]
theorem add_far (ad : Addr) (n : Nat) : ad.add (n + 1) = ⟨ad.block, ad.off + (n + 1), none⟩ := by simp [Addr.add]
theorem RI.rd_byte {w0 w : World} {r : Nat} {A : Option Addr} {c : Nat} {p : List Int} {at_ fault : Int} {l : List Th} (h : RI w0 r A c p at_ fault l w) (hr : Kd.C (Kd.int .u8) w0 A p.length p) {i : Int} (h0 : 0 ≤ i) (h1 : i < p.length) : ∃ ad, A = some ad ∧ w.cell? (ad.add i.toNat) = some (.int .u8 (rd p i)) := by
  obtain ⟨ad, e, hc⟩ := Kd.at_int hr i h0 h1
  exact ⟨ad, e, (h.below.cell (World.block_lt_of_cell? w0 _ hc)).trans hc⟩
theorem brkV_open {p : List Int} {a b : Nat} {tu fault : Int} {S : Nat → Bool} (h : brkR p a = (false, b, tu, S)) : brkV p a fault = (S, b, (a : Int) - 1) := by
  unfold brkV
  rw [h]
  exact if_neg Bool.false_ne_true
theorem brkV_close {p : List Int} {a b : Nat} {tu fault : Int} {S : Nat → Bool} (h : brkR p a = (true, b, tu, S)) : brkV p a fault = ((if brkN p a = true then (fun j => decide (j < 256) && !S j) else S), b, (if tu ≥ 0 then tu else fault)) := by
  unfold brkV
  rw [h]
  exact if_pos rfl
set_option maxHeartbeats 4000000 in
set_option maxRecDepth 100000 in
theorem brackets_calls {w0 w : World} {r : Nat} {A : Option Addr} {c : Nat} {p : List Int} {a : Nat} {fault : Int} {l : List Th} {ov : Value} (h : RX w0 r A c p (a : Int) fault l ov w) (hr : Kd.C (Kd.int .u8) w0 A p.length p) (ha : 1 ≤ a ∧ a ≤ p.length) (hp : p.length ≤ 256) (hu : ∀ i, 0 ≤ rd p i ∧ rd p i ≤ 255) :
    Calls Tryd.prog 63 #[.pointer (some ⟨r, 0, none⟩)] w fun e w' => e = .returned (.pointer (some ⟨w.heap.size, 0, none⟩)) ∧ Aside0 (RX w0 r A c p (brkV p a fault).2.1 (brkV p a fault).2.2 l ov w' ∧ w'.heap[w.heap.size]? = some (.cells (bset (brkV p a fault).1) 120 (0, 0))) := by
  have H := Aside0.mk h
  have hz := zset
  have c1 : w.cell? ⟨r, 1, none⟩ = some (.int .i64 (a : Int)) := (blk_cell h.blk 1).trans rfl
  have hrl := blk_lt h.blk
  clear h
  go_enter Tryd.func63, Tryd.ntmps63
  go_upto_region 3 with (fail)
  have HW := Aside0.mk (And.intro (H.out.mv (below_alloc (Below.refl _ _) (.cells (bset fun _ => false) 120))) (And.intro (blk_new w (.cells (bset fun _ => false) 120)) (And.intro (Fresh_new H.out.sets) H.out.below.size)))
  generalize hs : w.heap.size = s at HW ⊢
  have HSZ := Aside0.mk hs
  clear hs
  generalize (w.alloc (.cells (bset fun _ => false) 120)) = W at HW ⊢
  clear c1 hz hrl H
  go_cut [5] (fun v5 wc => v5 = .bool (brkN p a) ∧ Aside0 (RX w0 r A c p (a : Int) fault l ov wc ∧ wc.heap[s]? = some (.cells (bset fun _ => false) 120 (0, 0))))
  case first => as_aux_lemma =>
    have c0 : W.cell? ⟨r, 0, none⟩ = some (.slice A p.length c) := (blk_cell HW.out.1.blk 0).trans rfl
    have c1 : W.cell? ⟨r, 1, none⟩ = some (.int .i64 (a : Int)) := (blk_cell HW.out.1.blk 1).trans rfl
    by_cases lt : a < p.length
    · obtain ⟨ad, hA, hb⟩ := HW.out.1.ri.at_byte hr (Int.natCast_nonneg a) (by omega)
      subst hA
      rw [Int.toNat_natCast] at hb
      by_cases e94 : rd p a = 94
      · have HN := Aside0.mk (show brkN p a = true by unfold brkN; rw [decide_eq_true lt, e94]; rfl)
        rw [e94] at hb
        clear e94
        go_wp2
        go_quiet (fail)
        go_wp2
        go_meet
        case rel => exact ⟨by rw [HN.out], ⟨HW.out.1.drew nq, blk_drewN HW.out.2.1 nq⟩⟩
      · have HN := Aside0.mk (show brkN p a = false by unfold brkN; rw [decide_eq_true lt]; simpa using e94)
        have e94b : (rd p a == 94) = false := beq_eq_false_iff_ne.mpr e94
        clear e94
        go_wp2
        go_quiet (fail)
        go_wp2
        go_meet
        case rel => exact ⟨by rw [HN.out], ⟨HW.out.1.drew nq, blk_drewN HW.out.2.1 nq⟩⟩
    · have HN := Aside0.mk (show brkN p a = false by unfold brkN; rw [decide_eq_false lt]; rfl)
      go_wp2
      go_quiet (fail)
      go_wp2
      go_meet
      case rel => exact ⟨by rw [HN.out], ⟨HW.out.1.drew nq, blk_drewN HW.out.2.1 nq⟩⟩
  case rest => as_aux_lemma =>
    obtain ⟨rfl, HR⟩ := hcut
    have HF := Aside0.mk (And.intro HW.out.2.2.1 HW.out.2.2.2)
    clear HW
    generalize hN : brkN p a = N
    have HN := Aside0.mk hN
    clear hN
    go_upto_if 40 with (fail)
    go_cut [41] (fun v41 wc => Aside0 (RX w0 r A c p ((if N = true then a + 1 else a : Nat) : Int) fault l ov wc ∧ wc.heap[s]? = some (.cells (bset fun _ => false) 120 (0, 0))))
    case first => as_aux_lemma =>
      have c1 : wc.cell? ⟨r, 1, none⟩ = some (.int .i64 (a : Int)) := (blk_cell HR.out.1.blk 1).trans rfl
      have f1 := blk_frozen HR.out.1.blk 1
      cases N with
      | true =>
        go_wp2
        go_meet
        case rel => exact ⟨HR.out.1.setAt _, blk_far HR.out.2 (blk_ne HR.out.2 HR.out.1.blk (by decide)) _⟩
      | false =>
        go_wp2
        go_meet
        case rel => exact HR
    case rest => as_aux_lemma =>
      clear HR
      have HQ := hcut
      clear hcut
      obtain ⟨a2, ha2, hle⟩ : ∃ a2 : Nat, Aside0 ((if N = true then a + 1 else a : Nat) = a2) ∧ a2 ≤ p.length := by
        refine ⟨_, ⟨rfl⟩, ?_⟩
        cases N with
        | true =>
          have h1 := HN.out
          unfold brkN at h1
          rw [Bool.and_eq_true, decide_eq_true_iff] at h1
          rw [if_pos rfl]
          omega
        | false => rw [if_neg (by decide)]; omega
      rw [ha2.out] at HQ
      have HV := Aside0.mk (show brkR p a = brkL p (p.length + 1) a2 (-1) true (fun _ => false) by unfold brkR; rw [HN.out, ha2.out])
      go_wp2
      go_loopg [6, 7] (p.length + 1) (fun g v6 v7 wr => ∃ (b : Nat) (tu : Int) (fst : Bool) (S : Nat → Bool), v6 = .int .i64 tu ∧ v7 = .bool fst ∧ b ≤ p.length ∧ p.length < b + g ∧ -1 ≤ tu ∧ tu ≤ 256 ∧
        Aside0 (RX w0 r A c p (b : Int) fault l ov wr ∧ wr.heap[s]? = some (.cells (bset S) 120 (0, 0)) ∧ brkR p a = brkL p g b tu fst S))
      case atStart => exact ⟨a2, -1, true, fun _ => false, rfl, rfl, hle, by omega, by omega, by omega, ⟨HQ.out.1, HQ.out.2, HV.out⟩⟩
      case round =>
        obtain ⟨b, tu, fst, S, rfl, rfl, hb1, hb2, ht1, ht2, HA⟩ := hrel
        clear HQ HV
        have c0 : wr.cell? ⟨r, 0, none⟩ = some (.slice A p.length c) := (blk_cell HA.out.1.blk 0).trans rfl
        have c1 : wr.cell? ⟨r, 1, none⟩ = some (.int .i64 (b : Int)) := (blk_cell HA.out.1.blk 1).trans rfl
        have f1 := blk_frozen HA.out.1.blk 1
        have f3 := blk_frozen HA.out.1.blk 3
        have c3 : wr.cell? ⟨r, 3, none⟩ = some (.int .i64 fault) := (blk_cell HA.out.1.blk 3).trans rfl
        obtain ⟨d, rfl⟩ : ∃ d, gk = d + 1 := ⟨gk - 1, by omega⟩
        by_cases lt : b < p.length
        · obtain ⟨ad, hA, hbyte⟩ := HA.out.1.ri.at_byte hr (Int.natCast_nonneg b) (by omega)
          subst hA
          rw [Int.toNat_natCast] at hbyte
          by_cases hcl : rd p (b : Int) = 93 ∧ fst = false
          · obtain ⟨h93, rfl⟩ := hcl
            have HE := Aside0.mk (show brkR p a = (true, b + 1, tu, S) by rw [HA.out.2.2]; unfold brkL; rw [if_neg (by omega), if_pos ⟨h93, rfl⟩])
            rw [h93] at hbyte
            clear h93
            by_cases htu : 0 ≤ tu
            · cases N with
              | true =>
                go_wp2
                go_quiet (fail)
                rename Nat => n1
                go_wp2
                go_quiet (fail)
                go_wp2
                have HB := Aside0.mk ((((show BX w0 r (some ad) c p (b : Int) fault l ov s (bset S) wr from ⟨HA.out.1, HA.out.2.1⟩).drew (n1 + nq)).setAt ((b : Int) + 1)).setFault tu)
                clear hbyte c0 c1 f1 f3 c3
                generalize (((wr.drewN (n1 + nq)).setCell ⟨r, 1, none⟩ (.int .i64 ((b : Int) + 1))).setCell ⟨r, 3, none⟩ (.int .i64 tu)) = W2 at HB ⊢
                clear HA
                go_loopw [178] (fun v wl => ∃ k : Nat, k ≤ 256 ∧ v = .int .i64 k ∧ Aside0 (BX w0 r (some ad) c p ((b : Int) + 1) tu l ov s (bset fun j => if j < k then !S j else S j) wl)) (fun v _ => 256 - (intOf v).toNat)
                case atStart => exact ⟨0, by omega, rfl, by simpa using HB⟩
                case round =>
                  obtain ⟨k, hk, rfl, HL⟩ := hrel
                  clear HB
                  by_cases hlt : k < 256
                  · have ck : wr.cell? ⟨s, k, none⟩ = some (.bool (S k)) := by
                      have h_ := bset_get (S := fun j => if j < k then !S j else S j) hlt
                      rw [if_neg (Nat.lt_irrefl k)] at h_
                      exact (blk_cell HL.out.2 k).trans h_
                    have fk := blk_frozen HL.out.2 k
                    go_wp2
                    go_roundw
                    case rel =>
                      refine ⟨k + 1, by omega, by go_num, ⟨?_⟩⟩
                      have h_ := HL.out.setS HF.out.1 HF.out.2 k (.bool (!S k))
                      rw [bset_set] at h_
                      rw [show (fun j => if j < k + 1 then !S j else S j) = (fun j => if j = k then !S k else if j < k then !S j else S j) from funext fun j => by by_cases e : j = k <;> by_cases e2 : j < k <;> by_cases e3 : j < k + 1 <;> first | omega | simp [e, e2, e3] | (subst e; simp)]
                      exact h_
                    case measure => simp [intOf]; omega
                  · obtain rfl : k = 256 := by omega
                    go_wp2
                    go_ret
                    rw [brkV_close HE.out, HN.out, HSZ.out, if_pos rfl, if_pos (show tu ≥ 0 by omega)]
                    refine ⟨rfl, ⟨?_⟩⟩
                    have h_ := BX.up HL.out
                    rw [bset_congr (S' := fun j => decide (j < 256) && !S j) (fun j hj => by simp [hj])] at h_
                    exact h_
              | false =>
                go_wp2
                go_quiet (fail)
                rename Nat => n1
                go_wp2
                go_quiet (fail)
                go_wp2
                go_ret
                rw [brkV_close HE.out, HN.out, HSZ.out, if_neg Bool.false_ne_true, if_pos (show tu ≥ 0 by omega)]
                exact ⟨rfl, ⟨BX.up ((((show BX w0 r (some ad) c p (b : Int) fault l ov s (bset S) wr from ⟨HA.out.1, HA.out.2.1⟩).drew (n1 + nq)).setAt ((b : Int) + 1)).setFault tu)⟩⟩
            · cases N with
              | true =>
                go_wp2
                go_quiet (fail)
                rename Nat => n1
                go_wp2
                go_quiet (fail)
                go_wp2
                have HB := Aside0.mk (((show BX w0 r (some ad) c p (b : Int) fault l ov s (bset S) wr from ⟨HA.out.1, HA.out.2.1⟩).drew (n1 + nq)).setAt ((b : Int) + 1))
                clear hbyte c0 c1 f1 f3 c3
                generalize ((wr.drewN (n1 + nq)).setCell ⟨r, 1, none⟩ (.int .i64 ((b : Int) + 1))) = W2 at HB ⊢
                clear HA
                go_loopw [178] (fun v wl => ∃ k : Nat, k ≤ 256 ∧ v = .int .i64 k ∧ Aside0 (BX w0 r (some ad) c p ((b : Int) + 1) fault l ov s (bset fun j => if j < k then !S j else S j) wl)) (fun v _ => 256 - (intOf v).toNat)
                case atStart => exact ⟨0, by omega, rfl, by simpa using HB⟩
                case round =>
                  obtain ⟨k, hk, rfl, HL⟩ := hrel
                  clear HB
                  by_cases hlt : k < 256
                  · have ck : wr.cell? ⟨s, k, none⟩ = some (.bool (S k)) := by
                      have h_ := bset_get (S := fun j => if j < k then !S j else S j) hlt
                      rw [if_neg (Nat.lt_irrefl k)] at h_
                      exact (blk_cell HL.out.2 k).trans h_
                    have fk := blk_frozen HL.out.2 k
                    go_wp2
                    go_roundw
                    case rel =>
                      refine ⟨k + 1, by omega, by go_num, ⟨?_⟩⟩
                      have h_ := HL.out.setS HF.out.1 HF.out.2 k (.bool (!S k))
                      rw [bset_set] at h_
                      rw [show (fun j => if j < k + 1 then !S j else S j) = (fun j => if j = k then !S k else if j < k then !S j else S j) from funext fun j => by by_cases e : j = k <;> by_cases e2 : j < k <;> by_cases e3 : j < k + 1 <;> first | omega | simp [e, e2, e3] | (subst e; simp)]
                      exact h_
                    case measure => simp [intOf]; omega
                  · obtain rfl : k = 256 := by omega
                    go_wp2
                    go_ret
                    rw [brkV_close HE.out, HN.out, HSZ.out, if_pos rfl, if_neg (show ¬ tu ≥ 0 by omega)]
                    refine ⟨rfl, ⟨?_⟩⟩
                    have h_ := BX.up HL.out
                    rw [bset_congr (S' := fun j => decide (j < 256) && !S j) (fun j hj => by simp [hj])] at h_
                    exact h_
              | false =>
                go_wp2
                go_quiet (fail)
                rename Nat => n1
                go_wp2
                go_quiet (fail)
                go_wp2
                go_ret
                rw [brkV_close HE.out, HN.out, HSZ.out, if_neg Bool.false_ne_true, if_neg (show ¬ tu ≥ 0 by omega)]
                exact ⟨rfl, ⟨BX.up (((show BX w0 r (some ad) c p (b : Int) fault l ov s (bset S) wr from ⟨HA.out.1, HA.out.2.1⟩).drew (n1 + nq)).setAt ((b : Int) + 1))⟩⟩
          · have hnc : ¬ (rd p (b : Int) = 93 ∧ fst = false) := hcl
            have hu1 := hu (b : Int)
            have HB := Aside0.mk (show BX w0 r (some ad) c p (b : Int) fault l ov s (bset S) wr from ⟨HA.out.1, HA.out.2.1⟩)
            have HE := HA.out.2.2
            have HE := Aside0.mk HE
            have HX := Aside0.mk hnc
            clear hcl hnc HA
            generalize hx : rd p (b : Int) = x at hbyte HX hu1
            have HXX := Aside0.mk hx
            clear hx
            go_wp2
            go_quiet (fail)
            rename Nat => n1
            go_wp2
            go_quiet (fail)
            rename Nat => n2
            have HB2 := Aside0.mk (HB.out.drew (n1 + n2))
            clear c0 c1 f1 f3 c3 hbyte HB
            go_upto_region 13 with (fail)
            go_cut [77] (fun v77 wc => v77 = .bool false ∧ Aside0 (BX w0 r (some ad) c p (b : Int) fault l ov s (bset S) wc))
            case first => as_aux_lemma =>
              by_cases e93 : x = 93
              · have hf : fst = true := by
                  cases fst with
                  | true => rfl
                  | false => exact absurd ⟨e93, rfl⟩ HX.out
                subst hf
                subst e93
                go_wp2
                go_meet
                case rel => exact ⟨rfl, HB2⟩
              · have e93b : (x == 93) = false := beq_eq_false_iff_ne.mpr e93
                clear e93
                go_wp2
                go_meet
                case rel => exact ⟨rfl, HB2⟩
            case rest => as_aux_lemma =>
              obtain ⟨rfl, HB3⟩ := hcut
              clear HB2
              have c0 : wc.cell? ⟨r, 0, none⟩ = some (.slice (some ad) p.length c) := (blk_cell HB3.out.1.blk 0).trans rfl
              have c1 : wc.cell? ⟨r, 1, none⟩ = some (.int .i64 (b : Int)) := (blk_cell HB3.out.1.blk 1).trans rfl
              have HQ := Aside0.mk (And.intro HB3 HE)
              go_upto_region 16 with (fail)
              go_cut [124] (fun v124 wc => v124 = .bool (decide (b + 2 < p.length) && (rd p ((b : Int) + 1) == 45 && rd p ((b : Int) + 2) != 93)) ∧ Aside0 (BX w0 r (some ad) c p (b : Int) fault l ov s (bset S) wc))
              case first => as_aux_lemma =>
                have hw1 : IntKind.i64.wrap ((b : Int) + 1) = (b : Int) + 1 := IntWalk.i64_in _ (by omega)
                have hw2 : IntKind.i64.wrap ((b : Int) + 2) = (b : Int) + 2 := IntWalk.i64_in _ (by omega)
                by_cases l2 : b + 2 < p.length
                · obtain ⟨ad1, hA1, hb1⟩ := HB3.out.1.ri.rd_byte hr (i := (b : Int) + 1) (by omega) (by omega)
                  obtain ⟨ad2, hA2, hb2⟩ := HB3.out.1.ri.rd_byte hr (i := (b : Int) + 2) (by omega) (by omega)
                  injection hA1 with hA1
                  injection hA2 with hA2
                  subst hA1
                  subst hA2
                  have l2b : decide ((b : Int) + 2 < (p.length : Int)) = true := decide_eq_true (by omega)
                  have q1 : (0 ≤ (b : Int) + 1) = True := eq_true (by omega)
                  have q2 : ((b : Int) + 1 < (p.length : Int)) = True := eq_true (by omega)
                  have q3 : (0 ≤ (b : Int) + 2) = True := eq_true (by omega)
                  have q4 : ((b : Int) + 2 < (p.length : Int)) = True := eq_true (by omega)
                  have HL := Aside0.mk l2
                  have t1 : ((b : Int) + 1).toNat = b + 1 := by omega
                  have t2 : ((b : Int) + 2).toNat = b + 2 := by omega
                  rw [t1, add_far] at hb1
                  rw [t2, add_far] at hb2
                  clear l2
                  generalize hy1 : rd p ((b : Int) + 1) = y1 at hb1
                  generalize hy2 : rd p ((b : Int) + 2) = y2 at hb2
                  have HY := Aside0.mk (And.intro hy1 hy2)
                  clear hy1 hy2
                  by_cases e1 : y1 = 45
                  · subst e1
                    by_cases e2 : y2 = 93
                    · subst e2
                      go_wp2
                      go_quiet (fail)
                      go_wp2
                      go_meet
                      case rel => exact ⟨by rw [decide_eq_true HL.out, HY.out.1, HY.out.2]; rfl, ⟨HB3.out.drew _⟩⟩
                    · have e2b : (y2 != 93) = true := bne_iff_ne.mpr e2
                      have E2 := Aside0.mk e2b
                      clear e2
                      go_wp2
                      go_quiet (fail)
                      go_wp2
                      go_meet
                      case rel => exact ⟨by rw [decide_eq_true HL.out, HY.out.1, HY.out.2, E2.out]; rfl, ⟨HB3.out.drew _⟩⟩
                  · have e1b : (y1 == 45) = false := beq_eq_false_iff_ne.mpr e1
                    have E1 := Aside0.mk e1b
                    clear e1
                    go_wp2
                    go_quiet (fail)
                    go_wp2
                    go_meet
                    case rel => exact ⟨by rw [decide_eq_true HL.out, HY.out.1, E1.out]; rfl, ⟨HB3.out.drew _⟩⟩
                · have l2b : decide ((b : Int) + 2 < (p.length : Int)) = false := decide_eq_false (by omega)
                  have HL := Aside0.mk l2
                  clear l2
                  go_wp2
                  go_quiet (fail)
                  go_wp2
                  go_meet
                  case rel => exact ⟨by rw [decide_eq_false HL.out]; rfl, ⟨HB3.out.drew _⟩⟩
              case rest => as_aux_lemma =>
                obtain ⟨rfl, HB4⟩ := hcut
                clear HB3 c0 c1
                have HI2 := Aside0.mk HQ.out.2
                clear HQ
                generalize hR : (decide (b + 2 < p.length) && (rd p ((b : Int) + 1) == 45 && rd p ((b : Int) + 2) != 93)) = R
                have HRR := Aside0.mk hR
                clear hR
                go_upto_if 124 with (fail)
                go_cut [6, 9] (fun v6 v9 wc => ∃ (e : Nat) (tu' y : Int), v6 = .int .i64 tu' ∧ v9 = .int .u8 y ∧ 0 ≤ y ∧ y ≤ 255 ∧ -1 ≤ tu' ∧ tu' ≤ 256 ∧ b + e + 1 ≤ p.length ∧ Aside0 (BX w0 r (some ad) c p ((b + e : Nat) : Int) fault l ov s (bset S) wc ∧ brkR p a = brkL p d (b + e + 1) tu' false (rng S x y)))
                case first => as_aux_lemma =>
                  have c0 : wc.cell? ⟨r, 0, none⟩ = some (.slice (some ad) p.length c) := (blk_cell HB4.out.1.blk 0).trans rfl
                  have c1 : wc.cell? ⟨r, 1, none⟩ = some (.int .i64 (b : Int)) := (blk_cell HB4.out.1.blk 1).trans rfl
                  have f1 := blk_frozen HB4.out.1.blk 1
                  cases R with
                  | false =>
                    have HE2 := Aside0.mk (show brkR p a = brkL p d (b + 0 + 1) tu false (rng S x x) by
                      have hr_ := HRR.out
                      rw [HI2.out.out, brkL, if_neg (by omega), HXX.out, if_neg HX.out, if_neg (by intro h; rw [decide_eq_true h.1, h.2.1, Bool.true_and] at hr_; simp at hr_; exact h.2.2 hr_)])
                    go_wp2
                    go_meet
                    case rel => exact ⟨0, tu, x, rfl, rfl, by omega, by omega, by omega, by omega, by omega, ⟨HB4.out, HE2.out⟩⟩
                  | true =>
                    have hr2 := HRR.out
                    rw [Bool.and_eq_true, Bool.and_eq_true, decide_eq_true_iff, beq_iff_eq, bne_iff_ne] at hr2
                    obtain ⟨l2, r45, r93⟩ := hr2
                    obtain ⟨ad2, hA2, hb2⟩ := HB4.out.1.ri.rd_byte hr (i := (b : Int) + 2) (by omega) (by omega)
                    injection hA2 with hA2
                    subst hA2
                    have hu2 := hu ((b : Int) + 2)
                    have HE2 := Aside0.mk (show brkR p a = brkL p d (b + 2 + 1) (if rd p ((b : Int) + 2) < x ∧ tu < 0 then (b : Int) else tu) false (rng S x (rd p ((b : Int) + 2))) by
                      rw [HI2.out.out, brkL, if_neg (by omega), HXX.out, if_neg HX.out, if_pos ⟨l2, r45, r93⟩])
                    clear r45 r93
                    generalize rd p ((b : Int) + 2) = y2 at hb2 hu2 HE2
                    have hw2 : IntKind.i64.wrap ((b : Int) + 2) = (b : Int) + 2 := IntWalk.i64_in _ (by omega)
                    have q3 : (0 ≤ (b : Int) + 2) = True := eq_true (by omega)
                    have q4 : ((b : Int) + 2 < (p.length : Int)) = True := eq_true (by omega)
                    have t2 : ((b : Int) + 2).toNat = b + 2 := by omega
                    have HL2 := Aside0.mk l2
                    rw [t2, add_far] at hb2
                    by_cases hlt : y2 < x
                    · by_cases htn : tu < 0
                      · rw [if_pos ⟨hlt, htn⟩] at HE2
                        go_wp2
                        go_quiet (fail)
                        go_wp2
                        go_meet
                        case rel => exact ⟨2, b, y2, rfl, rfl, hu2.1, hu2.2, by omega, by omega, by omega, ⟨BX.up2 ((HB4.out.drew nq).setAt ((b : Int) + 2)), HE2.out⟩⟩
                      · rw [if_neg (fun h => htn h.2)] at HE2
                        go_wp2
                        go_quiet (fail)
                        go_wp2
                        go_meet
                        case rel => exact ⟨2, tu, y2, rfl, rfl, hu2.1, hu2.2, by omega, by omega, by omega, ⟨BX.up2 ((HB4.out.drew nq).setAt ((b : Int) + 2)), HE2.out⟩⟩
                    · rw [if_neg (fun h => hlt h.1)] at HE2
                      go_wp2
                      go_quiet (fail)
                      go_wp2
                      go_meet
                      case rel => exact ⟨2, tu, y2, rfl, rfl, hu2.1, hu2.2, by omega, by omega, by omega, ⟨BX.up2 ((HB4.out.drew nq).setAt ((b : Int) + 2)), HE2.out⟩⟩
                case rest => as_aux_lemma =>
                  obtain ⟨e, tu', y, rfl, rfl, hy0, hy1, hv0, hv1, hbe, HB5⟩ := hcut
                  clear HB4 HRR HI2 HX HXX
                  have c1 : wc.cell? ⟨r, 1, none⟩ = some (.int .i64 ((b + e : Nat) : Int)) := (blk_cell HB5.out.1.1.blk 1).trans rfl
                  have f1 := blk_frozen HB5.out.1.1.blk 1
                  have HB6 := Aside0.mk (show BX w0 r (some ad) c p ((b + e + 1 : Nat) : Int) fault l ov s (bset S) (wc.setCell ⟨r, 1, none⟩ (.int .i64 ((b : Int) + (e : Int) + 1))) from by
                    rw [show (b : Int) + (e : Int) + 1 = ((b + e : Nat) : Int) + 1 from by omega]
                    exact BX.up (HB5.out.1.setAt (((b + e : Nat) : Int) + 1)))
                  have HE6 := Aside0.mk HB5.out.2
                  go_wp2
                  clear c1 f1 HB5
                  generalize (wc.setCell ⟨r, 1, none⟩ (.int .i64 ((b : Int) + (e : Int) + 1))) = W6 at HB6 ⊢
                  obtain ⟨kx, rfl⟩ := Int.eq_ofNat_of_zero_le hu1.1
                  go_loopw [10] (fun v wl => ∃ k : Nat, kx ≤ k ∧ k ≤ 256 ∧ ((kx : Int) ≤ y → (k : Int) ≤ y + 1) ∧ (y < (kx : Int) → k = kx) ∧ v = .int .i64 k ∧ Aside0 (BX w0 r (some ad) c p ((b + e + 1 : Nat) : Int) fault l ov s (bset fun j => S j || (decide (kx ≤ j) && decide (j < k))) wl)) (fun v _ => 257 - (intOf v).toNat)
                  case atStart => exact ⟨kx, Nat.le_refl _, by omega, fun _ => by omega, fun _ => rfl, rfl, by rw [bset_congr (S' := S) (fun j _ => by by_cases h1 : kx ≤ j <;> by_cases h2 : j < kx <;> first | omega | simp [h1, h2])]; exact HB6⟩
                  case round =>
                    obtain ⟨k, hk0, hk1, hk2, hk3, rfl, HL⟩ := hrel
                    clear HB6
                    by_cases hle : (k : Int) ≤ y
                    · have hk256 : k < 256 := by omega
                      have ck : wr.cell? ⟨s, k, none⟩ = some (.bool (S k || (decide (kx ≤ k) && decide (k < k)))) := (blk_cell HL.out.2 k).trans (bset_get hk256)
                      have fk := blk_frozen HL.out.2 k
                      go_wp2
                      go_roundw
                      case rel =>
                        refine ⟨k + 1, by omega, by omega, fun _ => by omega, fun _ => by omega, by go_num, ⟨?_⟩⟩
                        have h_ := HL.out.setS HF.out.1 HF.out.2 k (.bool true)
                        rw [bset_set] at h_
                        rw [bset_congr (S' := fun j => if j = k then true else (S j || (decide (kx ≤ j) && decide (j < k)))) (fun j _ => rng_step hk0)]
                        exact h_
                      case measure => simp [intOf]; omega
                    · have HG := Aside0.mk (show BX w0 r (some ad) c p ((b + e + 1 : Nat) : Int) fault l ov s (bset (rng S (kx : Int) y)) wr by
                        have h_ := HL.out
                        rw [bset_congr (S' := rng S (kx : Int) y) (fun j _ => by
                          have h1 : decide (kx ≤ j) = decide ((kx : Int) ≤ (j : Int)) := by by_cases h : kx ≤ j <;> simp [h]
                          have h2 : kx ≤ j → (decide (j < k) = decide ((j : Int) ≤ y)) := fun h => by
                            by_cases h3 : j < k
                            · rw [decide_eq_true h3, decide_eq_true (by omega)]
                            · rw [decide_eq_false h3, decide_eq_false (by omega)]
                          unfold rng
                          by_cases h : kx ≤ j
                          · rw [h2 h, h1]
                          · rw [← h1, decide_eq_false h]; simp)] at h_
                        exact h_)
                      go_wp2
                      go_roundg d
                      case measure => omega
                      case rel => exact ⟨b + e + 1, tu', false, rng S (kx : Int) y, rfl, rfl, hbe, by omega, hv0, hv1, ⟨HG.out.1, HG.out.2, HE6.out⟩⟩
        · have HE := Aside0.mk (show brkR p a = (false, b, tu, S) by rw [HA.out.2.2]; unfold brkL; rw [if_pos (by omega)])
          go_wp2
          go_quiet (fail)
          go_wp2
          go_ret
          rw [brkV_open HE.out, HSZ.out]
          exact ⟨rfl, ⟨(HA.out.1.drew nq).setFault _, blk_far (blk_drewN HA.out.2.1 nq) (blk_ne HA.out.2.1 HA.out.1.blk (by decide)) _⟩⟩
end Go.Proofs.YtdhdngoeaneanaaDoor.PT
