/-
  The reference of patterns, by hand: a set.
-/
import Derived.Test.YtlbijhlbllolhaaRT0
namespace Go.Proofs.Ytlbijhlbllolhaa.PT
open Go.RowKit Go.Proofs.YtlbijhlbllolhaaW.PrintWords Go.Proofs.YtlbijhlbllolhaaW.PrintMore
set_option linter.unusedVariables false
/-- The result's cell and the set at work. -/
def RS (w : World) (S : Nat → Bool) (wl : World) : Prop := wl.heap[w.heap.size]? = some (.cells (bset fun _ => false) 67 (0, 0)) ∧ wl.heap[w.heap.size + 1]? = some (.cells (bset S) 67 (0, 0)) ∧ Below w.heap.size w wl
theorem RS.drew {w wl : World} {S : Nat → Bool} (h : RS w S wl) (n : Nat) : RS w S (wl.drewN n) := ⟨blk_drewN h.1 n, blk_drewN h.2.1 n, pw_below_drewN h.2.2 n⟩
theorem RS.put {w wl : World} {S : Nat → Bool} (h : RS w S wl) (k : Nat) (x : Bool) : RS w (fun j => if j = k then x else S j) (wl.setCell ⟨w.heap.size + 1, k, none⟩ (.bool x)) := by
  have B3 := blk_put h.2.1 k (.bool x) rfl
  rw [bset_set] at B3
  exact ⟨blk_far h.1 (by simp) _, B3, below_set h.2.2 (by omega)⟩
theorem RS.congr {w wl : World} {S S' : Nat → Bool} (h : RS w S wl) (e : ∀ j, j < 256 → S j = S' j) : RS w S' wl := ⟨h.1, by rw [← bset_congr e]; exact h.2.1, h.2.2⟩
theorem RS.byte {w wl : World} {S : Nat → Bool} (h : RS w S wl) {A : Option Addr} {p : List Int} (hr : Kd.C (Kd.int .u8) w A p.length p) {i : Nat} (h1 : i < p.length) : ∃ ad, A = some ad ∧ wl.cell? (ad.add i) = some (.int .u8 (rd p (i : Int))) := by
  obtain ⟨ad, e, hc⟩ := Kd.at_int hr (i : Int) (by omega) (by omega)
  rw [Int.toNat_natCast] at hc
  exact ⟨ad, e, (h.2.2.cell (World.block_lt_of_cell? w _ hc)).trans hc⟩
theorem RS.start (w : World) : RS w (fun _ => false) ((w.alloc (Obj.cells (bset fun x => false) 67)).alloc (Obj.cells (bset fun x => false) 67)) :=
  ⟨blk_alloc (blk_new w _) _, by simpa using blk_new (w.alloc (Obj.cells (bset fun x => false) 67)) (Obj.cells (bset fun x => false) 67), below_alloc (below_alloc (Below.refl _ _) _) _⟩
/-- Is a span written here? -/
def rngB (p : List Int) (b : Nat) : Bool := decide (b + 2 < p.length) && (rd p ((b : Int) + 1) == 45 && rd p ((b : Int) + 2) != 93)
theorem brkL_end {p : List Int} {d b : Nat} {tu : Int} {f : Bool} {S : Nat → Bool} (h : p.length ≤ b) : brkL p (d + 1) b tu f S = (false, b, tu, S) := by
  unfold brkL; rw [if_pos h]
theorem brkL_shut {p : List Int} {d b : Nat} {tu : Int} {f : Bool} {S : Nat → Bool} (h : b < p.length) (h2 : rd p b = 93 ∧ f = false) : brkL p (d + 1) b tu f S = (true, b + 1, tu, S) := by
  unfold brkL; rw [if_neg (by omega), if_pos h2]
theorem brkL_more {p : List Int} {d b : Nat} {tu : Int} {f : Bool} {S : Nat → Bool} (h : b < p.length) (h2 : ¬ (rd p b = 93 ∧ f = false)) (h3 : rngB p b = true) : brkL p (d + 1) b tu f S = brkL p d (b + 3) (if rd p ((b : Int) + 2) < rd p b ∧ tu < 0 then (b : Int) else tu) false (rng S (rd p b) (rd p ((b : Int) + 2))) := by
  unfold rngB at h3
  rw [Bool.and_eq_true, Bool.and_eq_true, decide_eq_true_iff, beq_iff_eq, bne_iff_ne] at h3
  conv => lhs; unfold brkL
  rw [if_neg (by omega), if_neg h2, if_pos h3]
theorem brkL_one {p : List Int} {d b : Nat} {tu : Int} {f : Bool} {S : Nat → Bool} (h : b < p.length) (h2 : ¬ (rd p b = 93 ∧ f = false)) (h3 : rngB p b = false) : brkL p (d + 1) b tu f S = brkL p d (b + 1) tu false (rng S (rd p b) (rd p b)) := by
  conv => lhs; unfold brkL
  rw [if_neg (by omega), if_neg h2, if_neg]
  rintro ⟨h4, h5, h6⟩
  unfold rngB at h3
  rw [decide_eq_true h4, h5] at h3
  simp at h3
  exact h6 h3
set_option maxHeartbeats 2000000 in
set_option maxRecDepth 100000 in
theorem rset_calls {w : World} {A : Option Addr} {c : Nat} {p : List Int} {a : Nat} (hr : Kd.C (Kd.int .u8) w A p.length p) (ha : 1 ≤ a ∧ a ≤ p.length) (hp : p.length ≤ 256) (hu : ∀ i, 0 ≤ rd p i ∧ rd p i ≤ 255) :
    Calls Try.prog 28 #[.slice A p.length c, .int .i64 a] w fun e w' => e = .returned (.tuple #[.agg (bset (brkV p a (-1)).1), .int .i64 (brkV p a (-1)).2.1, .int .i64 (brkV p a (-1)).2.2]) ∧ Below w.heap.size w w' := by
  go_enter Try.func28, Try.ntmps28
  have z := zset'
  go_upto_region 3 with (fail)
  have H := Aside0.mk (RS.start w)
  generalize ((w.alloc (Obj.cells (bset fun x => false) 67)).alloc (Obj.cells (bset fun x => false) 67)) = W at H ⊢
  clear z
  go_cut [9] (fun v9 wc => v9 = .bool (brkN p a) ∧ Aside0 (RS w (fun _ => false) wc))
  case first => as_aux_lemma =>
    by_cases lt : a < p.length
    · obtain ⟨ad, rfl, hb⟩ := H.out.byte hr lt
      have q0 : decide ((a : Int) < (p.length : Int)) = true := decide_eq_true (by omega)
      have q1 : (0 ≤ (a : Int)) = True := eq_true (by omega)
      have q2 : ((a : Int) < (p.length : Int)) = True := eq_true (by omega)
      by_cases e94 : rd p a = 94
      · have HN := Aside0.mk (show brkN p a = true by unfold brkN; rw [decide_eq_true lt, e94]; rfl)
        rw [e94] at hb
        clear e94
        go_wp2
        go_meet
        case rel => exact ⟨by rw [HN.out], H⟩
      · have HN := Aside0.mk (show brkN p a = false by unfold brkN; rw [decide_eq_true lt]; simpa using e94)
        have e94b : (rd p a == 94) = false := beq_eq_false_iff_ne.mpr e94
        clear e94
        go_wp2
        go_meet
        case rel => exact ⟨by rw [HN.out], H⟩
    · have HN := Aside0.mk (show brkN p a = false by unfold brkN; rw [decide_eq_false lt]; rfl)
      have q0 : decide ((a : Int) < (p.length : Int)) = false := decide_eq_false (by omega)
      go_wp2
      go_meet
      case rel => exact ⟨by rw [HN.out], H⟩
  case rest => as_aux_lemma =>
    obtain ⟨rfl, HR⟩ := hcut
    clear H
    generalize hN : brkN p a = N
    have HN := Aside0.mk hN
    clear hN
    go_upto_if 29 with (fail)
    go_cut [1] (fun v1 wc => v1 = .int .i64 ((if N = true then a + 1 else a : Nat) : Int) ∧ Aside0 (RS w (fun _ => false) wc))
    case first => as_aux_lemma =>
      cases N with
      | true =>
        go_wp2
        go_meet
        case rel => exact ⟨rfl, HR⟩
      | false =>
        go_wp2
        go_meet
        case rel => exact ⟨rfl, HR⟩
    case rest => as_aux_lemma =>
      obtain ⟨rfl, HQ⟩ := hcut
      clear HR
      obtain ⟨a2, ha2, hle, hge⟩ : ∃ a2 : Nat, Aside0 ((if N = true then a + 1 else a : Nat) = a2) ∧ a2 ≤ p.length ∧ 1 ≤ a2 := by
        refine ⟨_, ⟨rfl⟩, ?_⟩
        cases N with
        | true =>
          have h1 := HN.out
          unfold brkN at h1
          rw [Bool.and_eq_true, decide_eq_true_iff] at h1
          rw [if_pos rfl]
          omega
        | false => rw [if_neg (by decide)]; omega
      rw [ha2.out]
      have HV := Aside0.mk (show brkR p a = brkL p (p.length + 1) a2 (-1) true (fun _ => false) by unfold brkR; rw [HN.out, ha2.out])
      clear ha2
      go_wp2
      go_loopg [1, 11] (p.length + 1) (fun g v1 v11 wr => ∃ (b : Nat) (tu : Int) (S : Nat → Bool), v1 = .int .i64 b ∧ v11 = .int .i64 tu ∧ a2 ≤ b ∧ b ≤ p.length ∧ p.length < b + g ∧ -1 ≤ tu ∧ tu ≤ 256 ∧
        Aside0 (RS w S wr ∧ brkR p a = brkL p g b tu (decide (b = a2)) S))
      case atStart => exact ⟨a2, -1, fun _ => false, rfl, rfl, Nat.le_refl _, hle, by omega, by omega, by omega, ⟨HQ.out, by rw [decide_eq_true rfl]; exact HV.out⟩⟩
      case round =>
        obtain ⟨b, tu, S, rfl, rfl, hb0, hb1, hb2, ht1, ht2, HA⟩ := hrel
        clear HQ HV
        obtain ⟨d, rfl⟩ : ∃ d, gk = d + 1 := ⟨gk - 1, by omega⟩
        by_cases lt : b < p.length
        · obtain ⟨ad, rfl, hbyte⟩ := HA.out.1.byte hr lt
          have q0 : decide ((b : Int) < (p.length : Int)) = true := decide_eq_true (by omega)
          have q1 : (0 ≤ (b : Int)) = True := eq_true (by omega)
          have q2 : ((b : Int) < (p.length : Int)) = True := eq_true (by omega)
          by_cases hcl : rd p (b : Int) = 93 ∧ decide (b = a2) = false
          · obtain ⟨h93, hne⟩ := hcl
            have HE := Aside0.mk (show brkR p a = (true, b + 1, tu, S) by rw [HA.out.2]; exact brkL_shut lt ⟨h93, hne⟩)
            have hne2 : ((b : Int) == (a2 : Int)) = false := beq_eq_false_iff_ne.mpr (by have := of_decide_eq_false hne; omega)
            rw [h93] at hbyte
            clear h93 hne
            have q3 : decide ((p.length : Int) ≤ (b : Int)) = false := decide_eq_false (by omega)
            cases N with
            | true =>
              go_wp2
              have HB := Aside0.mk HA.out.1
              clear hbyte HA
              go_loopw [16] (fun v wl => ∃ k : Nat, k ≤ 256 ∧ v = .int .i64 k ∧ Aside0 (RS w (fun j => if j < k then !S j else S j) wl)) (fun v _ => 256 - (intOf v).toNat)
              case atStart => exact ⟨0, by omega, rfl, ⟨HB.out.congr (fun j _ => by simp)⟩⟩
              case round =>
                obtain ⟨k, hk, rfl, HL⟩ := hrel
                clear HB
                by_cases hlt : k < 256
                · have ck : wr.cell? ⟨w.heap.size + 1, k, none⟩ = some (.bool (S k)) := by
                    have h_ := bset_get (S := fun j => if j < k then !S j else S j) hlt
                    rw [if_neg (Nat.lt_irrefl k)] at h_
                    exact (blk_cell HL.out.2.1 k).trans h_
                  have fk := blk_frozen HL.out.2.1 k
                  go_wp2
                  go_roundw
                  case rel =>
                    refine ⟨k + 1, by omega, by go_num, ⟨(HL.out.put k (!S k)).congr (fun j _ => ?_)⟩⟩
                    by_cases e : j = k <;> by_cases e2 : j < k <;> by_cases e3 : j < k + 1 <;> first | omega | simp [e, e2, e3]
                  case measure => simp [intOf]; omega
                · obtain rfl : k = 256 := by omega
                  go_wp2_with (first
                    | ((with_reducible refine gate_ (.load 67 (.tmp 7)) rfl ?_); refine wpList_load_row rfl 67 (.tmp 7) rfl (w.heap.size + 1) rfl _ _ _ _ HL.out.2.1 Try.underlying67 rfl (szset' _) ?_)
                    | ((with_reducible refine gate_ (.store 67 (.tmp 4) (.tmp 124)) rfl ?_); refine wpList_store_row rfl 67 (.tmp 4) (.tmp 124) rfl w.heap.size (bset fun j => if j < 256 then !S j else S j) rfl rfl _ _ HL.out.1 (szset' _) (by rw [bset_size, bset_size]) (bset_all _) ?_))
                  refine bodyPost_ret (v := .tuple #[.agg (bset fun j => if j < 256 then !S j else S j), .int .i64 ((b : Int) + 1), .int .i64 tu]) ?_ rfl ⟨?_, below_setRow HL.out.2.2 (Nat.le_refl _) _⟩
                  · exact res3_of rfl rfl rfl rfl (row_blk HL.out.1)
                  · rw [brkV_close HE.out, HN.out, if_pos rfl, show (if tu ≥ 0 then tu else -1) = tu from by split <;> omega, bset_congr (S := fun j => if j < 256 then !S j else S j) (S' := fun j => decide (j < 256) && !S j) (fun j hj => by simp [hj])]
                    rfl
            | false =>
              go_wp2_with (first
                | ((with_reducible refine gate_ (.load 67 (.tmp 7)) rfl ?_); refine wpList_load_row rfl 67 (.tmp 7) rfl (w.heap.size + 1) rfl _ _ _ _ HA.out.1.2.1 Try.underlying67 rfl (szset' _) ?_)
                | ((with_reducible refine gate_ (.store 67 (.tmp 4) (.tmp 124)) rfl ?_); refine wpList_store_row rfl 67 (.tmp 4) (.tmp 124) rfl w.heap.size (bset S) rfl rfl _ _ HA.out.1.1 (szset' _) (by rw [bset_size, bset_size]) (bset_all _) ?_))
              refine bodyPost_ret (v := .tuple #[.agg (bset S), .int .i64 ((b : Int) + 1), .int .i64 tu]) ?_ rfl ⟨?_, below_setRow HA.out.1.2.2 (Nat.le_refl _) _⟩
              · exact res3_of rfl rfl rfl rfl (row_blk HA.out.1.1)
              · rw [brkV_close HE.out, HN.out, if_neg Bool.false_ne_true, show (if tu ≥ 0 then tu else -1) = tu from by split <;> omega]
                rfl
          · have HX := Aside0.mk hcl
            have hu1 := hu (b : Int)
            have HE := Aside0.mk HA.out.2
            have HB := Aside0.mk HA.out.1
            clear HA
            generalize hx : rd p (b : Int) = x at hbyte HX hu1
            have HXX := Aside0.mk hx
            clear hx hcl
            go_upto_region 8 with (fail)
            go_cut [48] (fun v48 wc => v48 = .bool true ∧ wc = wr)
            case first => as_aux_lemma =>
              by_cases e93 : x = 93
              · have hf : b = a2 := by
                  by_cases hf : b = a2
                  · exact hf
                  · exact absurd ⟨e93, decide_eq_false hf⟩ HX.out
                subst hf
                subst e93
                go_wp2
                go_meet
                case rel => exact ⟨rfl, rfl⟩
              · have e93b : (x != 93) = true := bne_iff_ne.mpr e93
                have E3 := Aside0.mk e93
                clear e93
                go_wp2
                go_meet
                case rel => exact ⟨rfl, rfl⟩
            case rest => as_aux_lemma =>
              obtain ⟨rfl, rfl⟩ := hcut
              go_wp2
              go_quiet (fail)
              have HB2 := Aside0.mk (HB.out.drew nq)
              clear HB hbyte
              generalize wc.drewN nq = W2 at HB2 ⊢
              go_upto_region 11 with (fail)
              go_cut [79] (fun v79 wc => v79 = .bool (rngB p b) ∧ wc = W2)
              case first => as_aux_lemma =>
                by_cases l2 : b + 2 < p.length
                · obtain ⟨ad1, hA1, hb1⟩ := HB2.out.byte hr (i := b + 1) (by omega)
                  obtain ⟨ad2, hA2, hb2⟩ := HB2.out.byte hr (i := b + 2) (by omega)
                  injection hA1 with hA1
                  injection hA2 with hA2
                  subst hA1
                  subst hA2
                  have l2b : decide ((b : Int) + 2 < (p.length : Int)) = true := decide_eq_true (by omega)
                  have q1 : (0 ≤ (b : Int) + 1) = True := eq_true (by omega)
                  have q2 : ((b : Int) + 1 < (p.length : Int)) = True := eq_true (by omega)
                  have q3 : (0 ≤ (b : Int) + 2) = True := eq_true (by omega)
                  have q4 : ((b : Int) + 2 < (p.length : Int)) = True := eq_true (by omega)
                  have t1 : ((b : Int) + 1).toNat = b + 1 := by omega
                  have t2 : ((b : Int) + 2).toNat = b + 2 := by omega
                  rw [add_far, show ((b + 1 : Nat) : Int) = (b : Int) + 1 from by omega] at hb1
                  rw [add_far, show ((b + 2 : Nat) : Int) = (b : Int) + 2 from by omega] at hb2
                  have HR := Aside0.mk (show rngB p b = (rd p ((b : Int) + 1) == 45 && rd p ((b : Int) + 2) != 93) by unfold rngB; rw [decide_eq_true l2, Bool.true_and])
                  clear l2
                  generalize rd p ((b : Int) + 1) = y1 at hb1 HR
                  generalize rd p ((b : Int) + 2) = y2 at hb2 HR
                  by_cases e1 : y1 = 45
                  · subst e1
                    by_cases e2 : y2 = 93
                    · subst e2
                      go_wp2
                      go_meet
                      case rel => exact ⟨by rw [HR.out]; rfl, rfl⟩
                    · have e2b : (y2 != 93) = true := bne_iff_ne.mpr e2
                      have E2 := Aside0.mk e2b
                      clear e2
                      go_wp2
                      go_meet
                      case rel => exact ⟨by rw [HR.out, E2.out]; rfl, rfl⟩
                  · have e1b : (y1 == 45) = false := beq_eq_false_iff_ne.mpr e1
                    have E1 := Aside0.mk e1b
                    clear e1
                    go_wp2
                    go_meet
                    case rel => exact ⟨by rw [HR.out, E1.out]; rfl, rfl⟩
                · have l2b : decide ((b : Int) + 2 < (p.length : Int)) = false := decide_eq_false (by omega)
                  have HL := Aside0.mk l2
                  clear l2
                  go_wp2
                  go_meet
                  case rel => exact ⟨by unfold rngB; rw [decide_eq_false HL.out]; rfl, rfl⟩
              case rest => as_aux_lemma =>
                obtain ⟨rfl, rfl⟩ := hcut
                generalize hR : rngB p b = R
                have HR := Aside0.mk hR
                clear hR
                go_upto_if 79 with (fail)
                go_cut [13, 14] (fun v13 v14 wc => ∃ (e : Nat) (y : Int), v13 = .int .i64 y ∧ v14 = .int .i64 ((e : Int) + 1) ∧ 0 ≤ y ∧ y ≤ 255 ∧ b + e + 1 ≤ p.length ∧ e ≤ 2 ∧ Aside0 (RS w S wc ∧ brkR p a = brkL p d (b + e + 1) (if y < x ∧ tu < 0 then (b : Int) else tu) false (rng S x y)))
                case first => as_aux_lemma =>
                  cases R with
                  | false =>
                    have HE2 := Aside0.mk (show brkR p a = brkL p d (b + 0 + 1) (if x < x ∧ tu < 0 then (b : Int) else tu) false (rng S x x) by
                      rw [HE.out, brkL_one lt (by rw [HXX.out]; exact HX.out) HR.out, HXX.out, if_neg (by omega)])
                    go_wp2
                    go_meet
                    case rel => exact ⟨0, x, rfl, rfl, hu1.1, hu1.2, by omega, by omega, ⟨HB2.out, HE2.out⟩⟩
                  | true =>
                    have l2 : b + 2 < p.length := by
                      have h := HR.out
                      unfold rngB at h
                      rw [Bool.and_eq_true, decide_eq_true_iff] at h
                      exact h.1
                    obtain ⟨ad2, hA2, hb2⟩ := HB2.out.byte hr (i := b + 2) (by omega)
                    injection hA2 with hA2
                    subst hA2
                    have hu2 := hu ((b : Int) + 2)
                    have HE2 := Aside0.mk (show brkR p a = brkL p d (b + 2 + 1) (if rd p ((b : Int) + 2) < x ∧ tu < 0 then (b : Int) else tu) false (rng S x (rd p ((b : Int) + 2))) by
                      rw [HE.out, brkL_more lt (by rw [HXX.out]; exact HX.out) HR.out, HXX.out])
                    have q3 : (0 ≤ (b : Int) + 2) = True := eq_true (by omega)
                    have q4 : ((b : Int) + 2 < (p.length : Int)) = True := eq_true (by omega)
                    have t2 : ((b : Int) + 2).toNat = b + 2 := by omega
                    have HL2 := Aside0.mk l2
                    clear l2
                    rw [add_far, show ((b + 2 : Nat) : Int) = (b : Int) + 2 from by omega] at hb2
                    generalize rd p ((b : Int) + 2) = y2 at hb2 hu2 HE2
                    go_wp2
                    go_meet
                    case rel => exact ⟨2, y2, rfl, rfl, hu2.1, hu2.2, by have := HL2.out; omega, by omega, ⟨HB2.out, HE2.out⟩⟩
                case rest => as_aux_lemma =>
                  obtain ⟨e, y, rfl, rfl, hy0, hy1, hbe, he2, HB3⟩ := hcut
                  clear HB2 HR HE HX HXX
                  go_upto_region 14 with (fail)
                  go_cut [92] (fun v92 wd => v92 = .bool (decide (y < x) && decide (tu < 0)) ∧ wd = wc)
                  case first => as_aux_lemma =>
                    by_cases h1 : y < x
                    · by_cases h2 : tu < 0
                      · have d1 : decide (y < x) = true := decide_eq_true h1
                        have d2 : decide (tu < 0) = true := decide_eq_true h2
                        have D1 := Aside0.mk (And.intro d1 d2)
                        clear h1 h2
                        go_wp2
                        go_meet
                        case rel => exact ⟨by rw [D1.out.1, D1.out.2]; rfl, rfl⟩
                      · have d1 : decide (y < x) = true := decide_eq_true h1
                        have d2 : decide (tu < 0) = false := decide_eq_false h2
                        have D1 := Aside0.mk (And.intro d1 d2)
                        clear h1 h2
                        go_wp2
                        go_meet
                        case rel => exact ⟨by rw [D1.out.1, D1.out.2]; rfl, rfl⟩
                    · have d1 : decide (y < x) = false := decide_eq_false h1
                      have D1 := Aside0.mk d1
                      clear h1
                      go_wp2
                      go_meet
                      case rel => exact ⟨by rw [D1.out]; rfl, rfl⟩
                  case rest => as_aux_lemma =>
                    obtain ⟨rfl, rfl⟩ := hcut
                    obtain ⟨tu', htu⟩ : ∃ tu' : Int, Aside0 ((if y < x ∧ tu < 0 then (b : Int) else tu) = tu' ∧ -1 ≤ tu' ∧ tu' ≤ 256) := ⟨_, ⟨rfl, by split <;> omega, by split <;> omega⟩⟩
                    generalize hB : (decide (y < x) && decide (tu < 0)) = B
                    have HT := Aside0.mk hB
                    clear hB
                    go_upto_if 92 with (fail)
                    go_cut [11] (fun v11 we => v11 = .int .i64 tu' ∧ we = wc)
                    case first => as_aux_lemma =>
                      cases B with
                      | false =>
                        have e1 : tu = tu' := by
                          have h := HT.out
                          rw [← htu.out.1, if_neg]
                          rintro ⟨h1, h2⟩
                          rw [decide_eq_true h1, decide_eq_true h2] at h
                          cases h
                        subst e1
                        go_wp2
                        go_meet
                        case rel => exact ⟨rfl, rfl⟩
                      | true =>
                        have e1 : (b : Int) = tu' := by
                          have h := HT.out
                          rw [Bool.and_eq_true, decide_eq_true_iff, decide_eq_true_iff] at h
                          rw [← htu.out.1, if_pos h]
                        subst e1
                        go_wp2
                        go_meet
                        case rel => exact ⟨rfl, rfl⟩
                    case rest => as_aux_lemma =>
                      obtain ⟨rfl, rfl⟩ := hcut
                      have HE4 := Aside0.mk HB3.out.2
                      have HB4 := Aside0.mk HB3.out.1
                      rw [htu.out.1] at HE4
                      clear HB3 HT
                      go_wp2
                      obtain ⟨kx, rfl⟩ := Int.eq_ofNat_of_zero_le hu1.1
                      go_loopw [15] (fun v wl => ∃ k : Nat, kx ≤ k ∧ k ≤ 256 ∧ ((kx : Int) ≤ y → (k : Int) ≤ y + 1) ∧ (y < (kx : Int) → k = kx) ∧ v = .int .i64 k ∧ Aside0 (RS w (fun j => S j || (decide (kx ≤ j) && decide (j < k))) wl)) (fun v _ => 257 - (intOf v).toNat)
                      case atStart => exact ⟨kx, Nat.le_refl _, by omega, fun _ => by omega, fun _ => rfl, rfl, ⟨HB4.out.congr (fun j _ => by show S j = (S j || (decide (kx ≤ j) && decide (j < kx))); by_cases h1 : kx ≤ j <;> by_cases h2 : j < kx <;> first | omega | simp [h1, h2])⟩⟩
                      case round =>
                        obtain ⟨k, hk0, hk1, hk2, hk3, rfl, HL⟩ := hrel
                        clear HB4
                        by_cases hle : (k : Int) ≤ y
                        · have hk256 : k < 256 := by omega
                          have ck : wr.cell? ⟨w.heap.size + 1, k, none⟩ = some (.bool (S k || (decide (kx ≤ k) && decide (k < k)))) := (blk_cell HL.out.2.1 k).trans (bset_get hk256)
                          have fk := blk_frozen HL.out.2.1 k
                          go_wp2
                          go_roundw
                          case rel => exact ⟨k + 1, by omega, by omega, fun _ => by omega, fun _ => by omega, by go_num, ⟨(HL.out.put k true).congr (fun j _ => (rng_step hk0).symm)⟩⟩
                          case measure => simp [intOf]; omega
                        · have HG := Aside0.mk (show RS w (rng S (kx : Int) y) wr from HL.out.congr (fun j _ => by
                              have h1 : decide (kx ≤ j) = decide ((kx : Int) ≤ (j : Int)) := by by_cases h : kx ≤ j <;> simp [h]
                              have h2 : kx ≤ j → (decide (j < k) = decide ((j : Int) ≤ y)) := fun h => by
                                by_cases h3 : j < k
                                · rw [decide_eq_true h3, decide_eq_true (by omega)]
                                · rw [decide_eq_false h3, decide_eq_false (by omega)]
                              unfold rng
                              by_cases h : kx ≤ j
                              · rw [h2 h, h1]
                              · rw [← h1, decide_eq_false h]; simp))
                          clear HL
                          go_wp2
                          go_roundg d
                          case measure => omega
                          case rel => exact ⟨b + e + 1, tu', rng S (kx : Int) y, by first | (congr 1; done) | (congr 1; omega), rfl, by omega, hbe, by omega, htu.out.2.1, htu.out.2.2, ⟨HG.out, by rw [decide_eq_false (show ¬ b + e + 1 = a2 by omega)]; exact HE4.out⟩⟩
        · have HE := Aside0.mk (show brkR p a = (false, b, tu, S) by rw [HA.out.2]; exact brkL_end (by omega))
          have q0 : decide ((b : Int) < (p.length : Int)) = false := decide_eq_false (by omega)
          have q3 : decide ((p.length : Int) ≤ (b : Int)) = true := decide_eq_true (by omega)
          go_wp2_with (first
            | ((with_reducible refine gate_ (.load 67 (.tmp 7)) rfl ?_); refine wpList_load_row rfl 67 (.tmp 7) rfl (w.heap.size + 1) rfl _ _ _ _ HA.out.1.2.1 Try.underlying67 rfl (szset' _) ?_)
            | ((with_reducible refine gate_ (.store 67 (.tmp 4) (.tmp 109)) rfl ?_); refine wpList_store_row rfl 67 (.tmp 4) (.tmp 109) rfl w.heap.size (bset S) rfl rfl _ _ HA.out.1.1 (szset' _) (by rw [bset_size, bset_size]) (bset_all _) ?_))
          refine bodyPost_ret (v := .tuple #[.agg (bset S), .int .i64 (b : Int), .int .i64 ((a : Int) - 1)]) ?_ rfl ⟨?_, below_setRow HA.out.1.2.2 (Nat.le_refl _) _⟩
          · exact res3_of rfl rfl rfl rfl (row_blk HA.out.1.1)
          · rw [brkV_open HE.out]
end Go.Proofs.Ytlbijhlbllolhaa.PT
