/-
  Texts of one proof in one file (wip/some.py): RT0, RT1, RT2, RT3.
  Conditions: none.
-/
import Derived.Test.YtdhdngoeaneanaaDoorPTE
import Derived.Deep.WholeRow
import Derived.Deep.MidRow
import Derived.Laws.ResultCell
import Derived.Laws.CopyOwn
import Derived.Great.BuildSlice
section
namespace Go.Proofs.YtdhdngoeaneanaaDoor.PT
open Go.RowKit Go.Proofs.YtdhdngoeaneanaaDoorW.PrintWords Go.Proofs.YtdhdngoeaneanaaDoorW.PrintMore
set_option linter.unusedVariables false
theorem bset_one (S : Nat → Bool) : ∀ v ∈ (bset S).toList, v.oneCell' = true := by
  intro v hv
  simp only [bset, List.mem_map] at hv
  obtain ⟨i, _, rfl⟩ := hv
  rfl
theorem bset_all (S : Nat → Bool) : (bset S).all (·.oneCell') = true := Array.all_eq_true_iff_forall_mem.2 (fun v hv => bset_one S v (by simpa using hv))
theorem zset' (w : World) : (zeroValue 109).run Tryd.prog w = .ok (.agg (bset fun _ => false)) w := by kernel_rfl
theorem szset : (Tryd.prog.info? 109).map (·.size) = some 256 := by kernel_rfl
theorem szset' (S : Nat → Bool) : (Tryd.prog.info? 109).map (·.size) = some (bset S).size := by rw [bset_size]; exact szset
theorem row_blk {w : World} {g t : Nat} {cs cs' : Array Value} (h : w.heap[g]? = some (.cells cs t (0, 0))) : (w.setRow g cs').heap[g]? = some (.cells cs' t (0, 0)) := setRow_heap w g cs cs' t (0, 0) h
theorem res_cell {fn : Func} {p : Tmp} {ty : TypeId} (h : fn.results = #[.cell p ty]) (tmps : Array Value) (P : Program) (w : World) :
    (results fn tmps).run P w = ((asAddr (tmps.getD p undef)).run P w).andThen fun a w₁ => (loadVar ty a).run P w₁ := by
  simp only [results, h]
  simp [Sem.run_bind, Result.andThen]
theorem res_cell3 {fn : Func} {p u v : Tmp} {ty : TypeId} (h : fn.results = #[.cell p ty, .tmp u, .tmp v]) (tmps : Array Value) (P : Program) (w : World) :
    (results fn tmps).run P w = ((asAddr (tmps.getD p undef)).run P w).andThen fun a w₁ => ((loadVar ty a).run P w₁).andThen fun x w₂ => .ok (.tuple #[x, tmps.getD u undef, tmps.getD v undef]) w₂ := by
  simp only [results, h]
  simp [Sem.run_bind, Result.andThen]
theorem ldv_set {w : World} {g : Nat} {S : Nat → Bool} (h : w.heap[g]? = some (.cells (bset S) 109 (0, 0))) : (loadVar 109 ⟨g, 0, none⟩).run Tryd.prog w = .ok (.agg (bset S)) w :=
  run_loadVar_row w g _ _ _ _ _ h Tryd.underlying109 rfl (szset' S)
theorem res3_of {fn : Func} {p u v : Tmp} (h : fn.results = #[.cell p 109, .tmp u, .tmp v]) {tmps : Array Value} {w : World} {g : Nat} {S : Nat → Bool} {x y : Value} (hp : tmps.getD p undef = .pointer (some ⟨g, 0, none⟩)) (hu : tmps.getD u undef = x) (hv : tmps.getD v undef = y)
    (hb : w.heap[g]? = some (.cells (bset S) 109 (0, 0))) : (results fn tmps).run Tryd.prog w = .ok (.tuple #[.agg (bset S), x, y]) w := by
  rw [res_cell3 h, hp, hu, hv, show (asAddr (.pointer (some ⟨g, 0, none⟩))).run Tryd.prog w = .ok ⟨g, 0, none⟩ w from rfl, Result.andThen_ok, ldv_set hb, Result.andThen_ok]
set_option maxHeartbeats 1000000 in
set_option maxRecDepth 100000 in
theorem rone_calls (b : Int) (hb : 0 ≤ b ∧ b ≤ 255) (w : World) :
    Calls Tryd.prog 71 #[.int .u8 b] w fun e w' => e = .returned (.agg (bset fun j => j == b.toNat)) ∧ Below w.heap.size w w' := by
  go_enter Tryd.func71, Tryd.ntmps71
  have z := zset'
  have hg := bset_get (S := fun _ => false) (i := b.toNat) (by omega)
  go_upto_region 2 with (fail)
  have B1 : ((w.alloc (Obj.cells (bset fun x => false) 109)).alloc (Obj.cells (bset fun x => false) 109)).heap[w.heap.size]? = some (.cells (bset fun x => false) 109 (0, 0)) := blk_alloc (blk_new w _) _
  have B2 : ((w.alloc (Obj.cells (bset fun x => false) 109)).alloc (Obj.cells (bset fun x => false) 109)).heap[w.heap.size + 1]? = some (.cells (bset fun x => false) 109 (0, 0)) := by simpa using blk_new (w.alloc (Obj.cells (bset fun x => false) 109)) (Obj.cells (bset fun x => false) 109)
  have BB : Below w.heap.size w ((w.alloc (Obj.cells (bset fun x => false) 109)).alloc (Obj.cells (bset fun x => false) 109)) := below_alloc (below_alloc (Below.refl _ _) _) _
  generalize ((w.alloc (Obj.cells (bset fun x => false) 109)).alloc (Obj.cells (bset fun x => false) 109)) = W at B1 B2 BB ⊢
  have cb := (blk_cell B2 b.toNat).trans hg
  have fb := blk_frozen B2 b.toNat
  have B3 := blk_put B2 b.toNat (.bool true) rfl
  have B4 := blk_far B1 (p := ⟨w.heap.size + 1, b.toNat, none⟩) (by simp) (.bool true)
  rw [bset_set] at B3
  have BB2 : Below w.heap.size w (W.setCell ⟨w.heap.size + 1, b.toNat, none⟩ (.bool true)) := below_set BB (by omega)
  have H := Aside0.mk (And.intro B3 (And.intro B4 BB2))
  clear B1 B2 B3 B4 BB BB2 z hg
  go_wp2_with (first
    | ((with_reducible refine gate_ (.load 109 (.tmp 3)) rfl ?_); refine wpList_load_row rfl 109 (.tmp 3) rfl (w.heap.size + 1) rfl _ _ _ _ H.out.1 Tryd.underlying109 rfl (szset' _) ?_)
    | ((with_reducible refine gate_ (.store 109 (.tmp 2) (.tmp 6)) rfl ?_); refine wpList_store_row rfl 109 (.tmp 2) (.tmp 6) rfl w.heap.size (bset fun j => if j = b.toNat then true else false) rfl rfl _ _ H.out.2.1 (szset' _) (by rw [bset_size, bset_size]) (bset_all _) ?_))
  refine bodyPost_ret (v := .agg (bset fun j => if j = b.toNat then true else false)) ?_ rfl ⟨?_, below_setRow H.out.2.2 (Nat.le_refl _) _⟩
  · rw [res_cell rfl]
    simp only [go_sem, asAddr]
    exact ldv_set (row_blk H.out.2.1)
  · rw [show (fun j => j == b.toNat) = (fun j => if j = b.toNat then true else false) from funext fun j => by by_cases e : j = b.toNat <;> simp [e]]
set_option maxHeartbeats 1000000 in
set_option maxRecDepth 100000 in
theorem rall_calls (w : World) :
    Calls Tryd.prog 72 #[] w fun e w' => e = .returned (.agg (bset fun j => decide (j < 256))) ∧ Below w.heap.size w w' := by
  go_enter Tryd.func72, Tryd.ntmps72
  have z := zset'
  go_upto_region 2 with (fail)
  have B1 : ((w.alloc (Obj.cells (bset fun x => false) 109)).alloc (Obj.cells (bset fun x => false) 109)).heap[w.heap.size]? = some (.cells (bset fun x => false) 109 (0, 0)) := blk_alloc (blk_new w _) _
  have B2 : ((w.alloc (Obj.cells (bset fun x => false) 109)).alloc (Obj.cells (bset fun x => false) 109)).heap[w.heap.size + 1]? = some (.cells (bset fun x => false) 109 (0, 0)) := by simpa using blk_new (w.alloc (Obj.cells (bset fun x => false) 109)) (Obj.cells (bset fun x => false) 109)
  have BB : Below w.heap.size w ((w.alloc (Obj.cells (bset fun x => false) 109)).alloc (Obj.cells (bset fun x => false) 109)) := below_alloc (below_alloc (Below.refl _ _) _) _
  generalize ((w.alloc (Obj.cells (bset fun x => false) 109)).alloc (Obj.cells (bset fun x => false) 109)) = W at B1 B2 BB ⊢
  have H := Aside0.mk (And.intro B1 (And.intro B2 BB))
  clear B1 B2 BB z
  go_wp2
  go_loopw [2] (fun i wr => ∃ k : Nat, k ≤ 256 ∧ i = .int .i64 k ∧ Aside0 (wr.heap[w.heap.size]? = some (.cells (bset fun x => false) 109 (0, 0)) ∧ wr.heap[w.heap.size + 1]? = some (.cells (bset fun j => decide (j < k)) 109 (0, 0)) ∧ Below w.heap.size w wr)) (fun i _ => 256 - (intOf i).toNat)
  case atStart => exact ⟨0, by omega, rfl, ⟨by simpa using H.out⟩⟩
  case round =>
    obtain ⟨k, hk, rfl, hw⟩ := hrel
    clear H
    by_cases hlt : k < 256
    · have ck := (blk_cell hw.out.2.1 k).trans (bset_get (S := fun j => decide (j < k)) (i := k) hlt)
      have fk := blk_frozen hw.out.2.1 k
      go_wp2
      go_roundw
      case rel =>
        refine ⟨k + 1, by omega, by go_num, ⟨blk_far hw.out.1 (by simp) _, ?_, below_set hw.out.2.2 (by omega)⟩⟩
        have B3 := blk_put hw.out.2.1 k (.bool true) rfl
        rw [bset_set] at B3
        rw [show (fun j => decide (j < k + 1)) = (fun j => if j = k then true else decide (j < k)) from funext fun j => by by_cases e : j = k <;> simp [e]; omega]
        exact B3
      case measure => simp [intOf]; omega
    · obtain rfl : k = 256 := by omega
      go_wp2_with (first
        | ((with_reducible refine gate_ (.load 109 (.tmp 1)) rfl ?_); refine wpList_load_row rfl 109 (.tmp 1) rfl (w.heap.size + 1) rfl _ _ _ _ hw.out.2.1 Tryd.underlying109 rfl (szset' _) ?_)
        | ((with_reducible refine gate_ (.store 109 (.tmp 0) (.tmp 9)) rfl ?_); refine wpList_store_row rfl 109 (.tmp 0) (.tmp 9) rfl w.heap.size (bset fun j => decide (j < 256)) rfl rfl _ _ hw.out.1 (szset' _) (by rw [bset_size, bset_size]) (bset_all _) ?_))
      refine bodyPost_ret (v := .agg (bset fun j => decide (j < 256))) ?_ rfl ⟨rfl, below_setRow hw.out.2.2 (Nat.le_refl _) _⟩
      rw [res_cell rfl]
      simp only [go_sem, asAddr]
      exact ldv_set (row_blk hw.out.1)
end Go.Proofs.YtdhdngoeaneanaaDoor.PT
end
section
namespace Go.Proofs.YtdhdngoeaneanaaDoor.PT
open Go.RowKit Go.Proofs.YtdhdngoeaneanaaDoorW.PrintWords Go.Proofs.YtdhdngoeaneanaaDoorW.PrintMore
set_option linter.unusedVariables false
/-- The result's cell and the set at work. -/
def RS (w : World) (S : Nat → Bool) (wl : World) : Prop := wl.heap[w.heap.size]? = some (.cells (bset fun _ => false) 109 (0, 0)) ∧ wl.heap[w.heap.size + 1]? = some (.cells (bset S) 109 (0, 0)) ∧ Below w.heap.size w wl
theorem RS.drew {w wl : World} {S : Nat → Bool} (h : RS w S wl) (n : Nat) : RS w S (wl.drewN n) := ⟨blk_drewN h.1 n, blk_drewN h.2.1 n, pw_below_drewN h.2.2 n⟩
theorem RS.put {w wl : World} {S : Nat → Bool} (h : RS w S wl) (k : Nat) (x : Bool) : RS w (fun j => if j = k then x else S j) (wl.setCell ⟨w.heap.size + 1, k, none⟩ (.bool x)) := by
  have B3 := blk_put h.2.1 k (.bool x) rfl
  rw [bset_set] at B3
  exact ⟨blk_far h.1 (by simp) _, B3, below_set h.2.2 (by omega)⟩
theorem RS.congr {w wl : World} {S S' : Nat → Bool} (h : RS w S wl) (e : ∀ j, j < 256 → S j = S' j) : RS w S' wl := ⟨h.1, by rw [← bset_congr e]; exact h.2.1, h.2.2⟩
theorem RS.byte {w wl : World} {S : Nat → Bool} (h : RS w S wl) {A : Option Addr} {p : List Int} (hr : Kd.C (Kd.int .u8) w A p.length p) {i : Nat} (h1 : i < p.length) : ∃ ad, A = some ad ∧ wl.cell? (ad.add i) = some (.int .u8 (rd p (i : Int))) := by
  obtain ⟨ad, e, hc⟩ := Kd.at_int hr (i : Int) (by omega) (by omega)
  rw [Int.toNat_natCast] at hc
  exact ⟨ad, e, (h.2.2.cell (World.block_lt_of_cell? w _ hc)).trans hc⟩
theorem RS.start (w : World) : RS w (fun _ => false) ((w.alloc (Obj.cells (bset fun x => false) 109)).alloc (Obj.cells (bset fun x => false) 109)) :=
  ⟨blk_alloc (blk_new w _) _, by simpa using blk_new (w.alloc (Obj.cells (bset fun x => false) 109)) (Obj.cells (bset fun x => false) 109), below_alloc (below_alloc (Below.refl _ _) _) _⟩
/-- Is a span written here? -/
def rngB (p : List Int) (b : Nat) : Bool := decide (b + 2 < p.length) && (rd p ((b : Int) + 1) == 45 && rd p ((b : Int) + 2) != 93)
theorem brkL_end {p : List Int} {d b : Nat} {tu : Int} {f : Bool} {S : Nat → Bool} (h : p.length ≤ b) : brkL p (d + 1) b tu f S = (false, b, tu, S) := by
  unfold brkL; rw [if_pos h]
theorem brkL_shut {p : List Int} {d b : Nat} {tu : Int} {f : Bool} {S : Nat → Bool} (h : b < p.length) (h2 : rd p b = 93 ∧ f = false) : brkL p (d + 1) b tu f S = (true, b + 1, tu, S) := by
  unfold brkL; rw [if_neg (by omega), if_pos h2]
theorem brkL_more {p : List Int} {d b : Nat} {tu : Int} {f : Bool} {S : Nat → Bool} (h : b < p.length) (h2 : ¬ (rd p b = 93 ∧ f = false)) (h3 : rngB p b = true) : brkL p (d + 1) b tu f S = brkL p d (b + 3) (if rd p ((b : Int) + 2) < rd p b ∧ tu < 0 then (b : Int) else tu) false (rng S (rd p b) (rd p ((b : Int) + 2))) := by
  unfold rngB at h3
  rw [Bool.and_eq_true, Bool.and_eq_true, decide_eq_true_iff, beq_iff_eq, bne_iff_ne] at h3
  conv => lhs; unfold brkL
  rw [if_neg (by omega), if_neg h2, if_pos h3]
theorem brkL_one {p : List Int} {d b : Nat} {tu : Int} {f : Bool} {S : Nat → Bool} (h : b < p.length) (h2 : ¬ (rd p b = 93 ∧ f = false)) (h3 : rngB p b = false) : brkL p (d + 1) b tu f S = brkL p d (b + 1) tu false (rng S (rd p b) (rd p b)) := by
  conv => lhs; unfold brkL
  rw [if_neg (by omega), if_neg h2, if_neg]
  rintro ⟨h4, h5, h6⟩
  unfold rngB at h3
  rw [decide_eq_true h4, h5] at h3
  simp at h3
  exact h6 h3
set_option maxHeartbeats 2000000 in
set_option maxRecDepth 100000 in
theorem rset_calls {w : World} {A : Option Addr} {c : Nat} {p : List Int} {a : Nat} (hr : Kd.C (Kd.int .u8) w A p.length p) (ha : 1 ≤ a ∧ a ≤ p.length) (hp : p.length ≤ 256) (hu : ∀ i, 0 ≤ rd p i ∧ rd p i ≤ 255) :
    Calls Tryd.prog 73 #[.slice A p.length c, .int .i64 a] w fun e w' => e = .returned (.tuple #[.agg (bset (brkV p a (-1)).1), .int .i64 (brkV p a (-1)).2.1, .int .i64 (brkV p a (-1)).2.2]) ∧ Below w.heap.size w w' := by
  go_enter Tryd.func73, Tryd.ntmps73
  have z := zset'
  go_upto_region 3 with (fail)
  have H := Aside0.mk (RS.start w)
  generalize ((w.alloc (Obj.cells (bset fun x => false) 109)).alloc (Obj.cells (bset fun x => false) 109)) = W at H ⊢
  clear z
  go_cut [9] (fun v9 wc => v9 = .bool (brkN p a) ∧ Aside0 (RS w (fun _ => false) wc))
  case first => as_aux_lemma =>
    by_cases lt : a < p.length
    · obtain ⟨ad, rfl, hb⟩ := H.out.byte hr lt
      have q0 : decide ((a : Int) < (p.length : Int)) = true := decide_eq_true (by omega)
      have q1 : (0 ≤ (a : Int)) = True := eq_true (by omega)
      have q2 : ((a : Int) < (p.length : Int)) = True := eq_true (by omega)
      by_cases e94 : rd p a = 94
      · have HN := Aside0.mk (show brkN p a = true by unfold brkN; rw [decide_eq_true lt, e94]; rfl)
        rw [e94] at hb
        clear e94
        go_wp2
        go_meet
        case rel => exact ⟨by rw [HN.out], H⟩
      · have HN := Aside0.mk (show brkN p a = false by unfold brkN; rw [decide_eq_true lt]; simpa using e94)
        have e94b : (rd p a == 94) = false := beq_eq_false_iff_ne.mpr e94
        clear e94
        go_wp2
        go_meet
        case rel => exact ⟨by rw [HN.out], H⟩
    · have HN := Aside0.mk (show brkN p a = false by unfold brkN; rw [decide_eq_false lt]; rfl)
      have q0 : decide ((a : Int) < (p.length : Int)) = false := decide_eq_false (by omega)
      go_wp2
      go_meet
      case rel => exact ⟨by rw [HN.out], H⟩
  case rest => as_aux_lemma =>
    obtain ⟨rfl, HR⟩ := hcut
    clear H
    generalize hN : brkN p a = N
    have HN := Aside0.mk hN
    clear hN
    go_upto_if 29 with (fail)
    go_cut [1] (fun v1 wc => v1 = .int .i64 ((if N = true then a + 1 else a : Nat) : Int) ∧ Aside0 (RS w (fun _ => false) wc))
    case first => as_aux_lemma =>
      cases N with
      | true =>
        go_wp2
        go_meet
        case rel => exact ⟨rfl, HR⟩
      | false =>
        go_wp2
        go_meet
        case rel => exact ⟨rfl, HR⟩
    case rest => as_aux_lemma =>
      obtain ⟨rfl, HQ⟩ := hcut
      clear HR
      obtain ⟨a2, ha2, hle, hge⟩ : ∃ a2 : Nat, Aside0 ((if N = true then a + 1 else a : Nat) = a2) ∧ a2 ≤ p.length ∧ 1 ≤ a2 := by
        refine ⟨_, ⟨rfl⟩, ?_⟩
        cases N with
        | true =>
          have h1 := HN.out
          unfold brkN at h1
          rw [Bool.and_eq_true, decide_eq_true_iff] at h1
          rw [if_pos rfl]
          omega
        | false => rw [if_neg (by decide)]; omega
      rw [ha2.out]
      have HV := Aside0.mk (show brkR p a = brkL p (p.length + 1) a2 (-1) true (fun _ => false) by unfold brkR; rw [HN.out, ha2.out])
      clear ha2
      go_wp2
      go_loopg [1, 11] (p.length + 1) (fun g v1 v11 wr => ∃ (b : Nat) (tu : Int) (S : Nat → Bool), v1 = .int .i64 b ∧ v11 = .int .i64 tu ∧ a2 ≤ b ∧ b ≤ p.length ∧ p.length < b + g ∧ -1 ≤ tu ∧ tu ≤ 256 ∧
        Aside0 (RS w S wr ∧ brkR p a = brkL p g b tu (decide (b = a2)) S))
      case atStart => exact ⟨a2, -1, fun _ => false, rfl, rfl, Nat.le_refl _, hle, by omega, by omega, by omega, ⟨HQ.out, by rw [decide_eq_true rfl]; exact HV.out⟩⟩
      case round =>
        obtain ⟨b, tu, S, rfl, rfl, hb0, hb1, hb2, ht1, ht2, HA⟩ := hrel
        clear HQ HV
        obtain ⟨d, rfl⟩ : ∃ d, gk = d + 1 := ⟨gk - 1, by omega⟩
        by_cases lt : b < p.length
        · obtain ⟨ad, rfl, hbyte⟩ := HA.out.1.byte hr lt
          have q0 : decide ((b : Int) < (p.length : Int)) = true := decide_eq_true (by omega)
          have q1 : (0 ≤ (b : Int)) = True := eq_true (by omega)
          have q2 : ((b : Int) < (p.length : Int)) = True := eq_true (by omega)
          by_cases hcl : rd p (b : Int) = 93 ∧ decide (b = a2) = false
          · obtain ⟨h93, hne⟩ := hcl
            have HE := Aside0.mk (show brkR p a = (true, b + 1, tu, S) by rw [HA.out.2]; exact brkL_shut lt ⟨h93, hne⟩)
            have hne2 : ((b : Int) == (a2 : Int)) = false := beq_eq_false_iff_ne.mpr (by have := of_decide_eq_false hne; omega)
            rw [h93] at hbyte
            clear h93 hne
            have q3 : decide ((p.length : Int) ≤ (b : Int)) = false := decide_eq_false (by omega)
            cases N with
            | true =>
              go_wp2
              have HB := Aside0.mk HA.out.1
              clear hbyte HA
              go_loopw [16] (fun v wl => ∃ k : Nat, k ≤ 256 ∧ v = .int .i64 k ∧ Aside0 (RS w (fun j => if j < k then !S j else S j) wl)) (fun v _ => 256 - (intOf v).toNat)
              case atStart => exact ⟨0, by omega, rfl, ⟨HB.out.congr (fun j _ => by simp)⟩⟩
              case round =>
                obtain ⟨k, hk, rfl, HL⟩ := hrel
                clear HB
                by_cases hlt : k < 256
                · have ck : wr.cell? ⟨w.heap.size + 1, k, none⟩ = some (.bool (S k)) := by
                    have h_ := bset_get (S := fun j => if j < k then !S j else S j) hlt
                    rw [if_neg (Nat.lt_irrefl k)] at h_
                    exact (blk_cell HL.out.2.1 k).trans h_
                  have fk := blk_frozen HL.out.2.1 k
                  go_wp2
                  go_roundw
                  case rel =>
                    refine ⟨k + 1, by omega, by go_num, ⟨(HL.out.put k (!S k)).congr (fun j _ => ?_)⟩⟩
                    by_cases e : j = k <;> by_cases e2 : j < k <;> by_cases e3 : j < k + 1 <;> first | omega | simp [e, e2, e3]
                  case measure => simp [intOf]; omega
                · obtain rfl : k = 256 := by omega
                  go_wp2_with (first
                    | ((with_reducible refine gate_ (.load 109 (.tmp 7)) rfl ?_); refine wpList_load_row rfl 109 (.tmp 7) rfl (w.heap.size + 1) rfl _ _ _ _ HL.out.2.1 Tryd.underlying109 rfl (szset' _) ?_)
                    | ((with_reducible refine gate_ (.store 109 (.tmp 4) (.tmp 124)) rfl ?_); refine wpList_store_row rfl 109 (.tmp 4) (.tmp 124) rfl w.heap.size (bset fun j => if j < 256 then !S j else S j) rfl rfl _ _ HL.out.1 (szset' _) (by rw [bset_size, bset_size]) (bset_all _) ?_))
                  refine bodyPost_ret (v := .tuple #[.agg (bset fun j => if j < 256 then !S j else S j), .int .i64 ((b : Int) + 1), .int .i64 tu]) ?_ rfl ⟨?_, below_setRow HL.out.2.2 (Nat.le_refl _) _⟩
                  · exact res3_of rfl rfl rfl rfl (row_blk HL.out.1)
                  · rw [brkV_close HE.out, HN.out, if_pos rfl, show (if tu ≥ 0 then tu else -1) = tu from by split <;> omega, bset_congr (S := fun j => if j < 256 then !S j else S j) (S' := fun j => decide (j < 256) && !S j) (fun j hj => by simp [hj])]
                    rfl
            | false =>
              go_wp2_with (first
                | ((with_reducible refine gate_ (.load 109 (.tmp 7)) rfl ?_); refine wpList_load_row rfl 109 (.tmp 7) rfl (w.heap.size + 1) rfl _ _ _ _ HA.out.1.2.1 Tryd.underlying109 rfl (szset' _) ?_)
                | ((with_reducible refine gate_ (.store 109 (.tmp 4) (.tmp 124)) rfl ?_); refine wpList_store_row rfl 109 (.tmp 4) (.tmp 124) rfl w.heap.size (bset S) rfl rfl _ _ HA.out.1.1 (szset' _) (by rw [bset_size, bset_size]) (bset_all _) ?_))
              refine bodyPost_ret (v := .tuple #[.agg (bset S), .int .i64 ((b : Int) + 1), .int .i64 tu]) ?_ rfl ⟨?_, below_setRow HA.out.1.2.2 (Nat.le_refl _) _⟩
              · exact res3_of rfl rfl rfl rfl (row_blk HA.out.1.1)
              · rw [brkV_close HE.out, HN.out, if_neg Bool.false_ne_true, show (if tu ≥ 0 then tu else -1) = tu from by split <;> omega]
                rfl
          · have HX := Aside0.mk hcl
            have hu1 := hu (b : Int)
            have HE := Aside0.mk HA.out.2
            have HB := Aside0.mk HA.out.1
            clear HA
            generalize hx : rd p (b : Int) = x at hbyte HX hu1
            have HXX := Aside0.mk hx
            clear hx hcl
            go_upto_region 8 with (fail)
            go_cut [48] (fun v48 wc => v48 = .bool true ∧ wc = wr)
            case first => as_aux_lemma =>
              by_cases e93 : x = 93
              · have hf : b = a2 := by
                  by_cases hf : b = a2
                  · exact hf
                  · exact absurd ⟨e93, decide_eq_false hf⟩ HX.out
                subst hf
                subst e93
                go_wp2
                go_meet
                case rel => exact ⟨rfl, rfl⟩
              · have e93b : (x != 93) = true := bne_iff_ne.mpr e93
                have E3 := Aside0.mk e93
                clear e93
                go_wp2
                go_meet
                case rel => exact ⟨rfl, rfl⟩
            case rest => as_aux_lemma =>
              obtain ⟨rfl, rfl⟩ := hcut
              go_wp2
              go_quiet (fail)
              have HB2 := Aside0.mk (HB.out.drew nq)
              clear HB hbyte
              generalize wc.drewN nq = W2 at HB2 ⊢
              go_upto_region 11 with (fail)
              go_cut [79] (fun v79 wc => v79 = .bool (rngB p b) ∧ wc = W2)
              case first => as_aux_lemma =>
                by_cases l2 : b + 2 < p.length
                · obtain ⟨ad1, hA1, hb1⟩ := HB2.out.byte hr (i := b + 1) (by omega)
                  obtain ⟨ad2, hA2, hb2⟩ := HB2.out.byte hr (i := b + 2) (by omega)
                  injection hA1 with hA1
                  injection hA2 with hA2
                  subst hA1
                  subst hA2
                  have l2b : decide ((b : Int) + 2 < (p.length : Int)) = true := decide_eq_true (by omega)
                  have q1 : (0 ≤ (b : Int) + 1) = True := eq_true (by omega)
                  have q2 : ((b : Int) + 1 < (p.length : Int)) = True := eq_true (by omega)
                  have q3 : (0 ≤ (b : Int) + 2) = True := eq_true (by omega)
                  have q4 : ((b : Int) + 2 < (p.length : Int)) = True := eq_true (by omega)
                  have t1 : ((b : Int) + 1).toNat = b + 1 := by omega
                  have t2 : ((b : Int) + 2).toNat = b + 2 := by omega
                  rw [add_far, show ((b + 1 : Nat) : Int) = (b : Int) + 1 from by omega] at hb1
                  rw [add_far, show ((b + 2 : Nat) : Int) = (b : Int) + 2 from by omega] at hb2
                  have HR := Aside0.mk (show rngB p b = (rd p ((b : Int) + 1) == 45 && rd p ((b : Int) + 2) != 93) by unfold rngB; rw [decide_eq_true l2, Bool.true_and])
                  clear l2
                  generalize rd p ((b : Int) + 1) = y1 at hb1 HR
                  generalize rd p ((b : Int) + 2) = y2 at hb2 HR
                  by_cases e1 : y1 = 45
                  · subst e1
                    by_cases e2 : y2 = 93
                    · subst e2
                      go_wp2
                      go_meet
                      case rel => exact ⟨by rw [HR.out]; rfl, rfl⟩
                    · have e2b : (y2 != 93) = true := bne_iff_ne.mpr e2
                      have E2 := Aside0.mk e2b
                      clear e2
                      go_wp2
                      go_meet
                      case rel => exact ⟨by rw [HR.out, E2.out]; rfl, rfl⟩
                  · have e1b : (y1 == 45) = false := beq_eq_false_iff_ne.mpr e1
                    have E1 := Aside0.mk e1b
                    clear e1
                    go_wp2
                    go_meet
                    case rel => exact ⟨by rw [HR.out, E1.out]; rfl, rfl⟩
                · have l2b : decide ((b : Int) + 2 < (p.length : Int)) = false := decide_eq_false (by omega)
                  have HL := Aside0.mk l2
                  clear l2
                  go_wp2
                  go_meet
                  case rel => exact ⟨by unfold rngB; rw [decide_eq_false HL.out]; rfl, rfl⟩
              case rest => as_aux_lemma =>
                obtain ⟨rfl, rfl⟩ := hcut
                generalize hR : rngB p b = R
                have HR := Aside0.mk hR
                clear hR
                go_upto_if 79 with (fail)
                go_cut [13, 14] (fun v13 v14 wc => ∃ (e : Nat) (y : Int), v13 = .int .i64 y ∧ v14 = .int .i64 ((e : Int) + 1) ∧ 0 ≤ y ∧ y ≤ 255 ∧ b + e + 1 ≤ p.length ∧ e ≤ 2 ∧ Aside0 (RS w S wc ∧ brkR p a = brkL p d (b + e + 1) (if y < x ∧ tu < 0 then (b : Int) else tu) false (rng S x y)))
                case first => as_aux_lemma =>
                  cases R with
                  | false =>
                    have HE2 := Aside0.mk (show brkR p a = brkL p d (b + 0 + 1) (if x < x ∧ tu < 0 then (b : Int) else tu) false (rng S x x) by
                      rw [HE.out, brkL_one lt (by rw [HXX.out]; exact HX.out) HR.out, HXX.out, if_neg (by omega)])
                    go_wp2
                    go_meet
                    case rel => exact ⟨0, x, rfl, rfl, hu1.1, hu1.2, by omega, by omega, ⟨HB2.out, HE2.out⟩⟩
                  | true =>
                    have l2 : b + 2 < p.length := by
                      have h := HR.out
                      unfold rngB at h
                      rw [Bool.and_eq_true, decide_eq_true_iff] at h
                      exact h.1
                    obtain ⟨ad2, hA2, hb2⟩ := HB2.out.byte hr (i := b + 2) (by omega)
                    injection hA2 with hA2
                    subst hA2
                    have hu2 := hu ((b : Int) + 2)
                    have HE2 := Aside0.mk (show brkR p a = brkL p d (b + 2 + 1) (if rd p ((b : Int) + 2) < x ∧ tu < 0 then (b : Int) else tu) false (rng S x (rd p ((b : Int) + 2))) by
                      rw [HE.out, brkL_more lt (by rw [HXX.out]; exact HX.out) HR.out, HXX.out])
                    have q3 : (0 ≤ (b : Int) + 2) = True := eq_true (by omega)
                    have q4 : ((b : Int) + 2 < (p.length : Int)) = True := eq_true (by omega)
                    have t2 : ((b : Int) + 2).toNat = b + 2 := by omega
                    have HL2 := Aside0.mk l2
                    clear l2
                    rw [add_far, show ((b + 2 : Nat) : Int) = (b : Int) + 2 from by omega] at hb2
                    generalize rd p ((b : Int) + 2) = y2 at hb2 hu2 HE2
                    go_wp2
                    go_meet
                    case rel => exact ⟨2, y2, rfl, rfl, hu2.1, hu2.2, by have := HL2.out; omega, by omega, ⟨HB2.out, HE2.out⟩⟩
                case rest => as_aux_lemma =>
                  obtain ⟨e, y, rfl, rfl, hy0, hy1, hbe, he2, HB3⟩ := hcut
                  clear HB2 HR HE HX HXX
                  go_upto_region 14 with (fail)
                  go_cut [92] (fun v92 wd => v92 = .bool (decide (y < x) && decide (tu < 0)) ∧ wd = wc)
                  case first => as_aux_lemma =>
                    by_cases h1 : y < x
                    · by_cases h2 : tu < 0
                      · have d1 : decide (y < x) = true := decide_eq_true h1
                        have d2 : decide (tu < 0) = true := decide_eq_true h2
                        have D1 := Aside0.mk (And.intro d1 d2)
                        clear h1 h2
                        go_wp2
                        go_meet
                        case rel => exact ⟨by rw [D1.out.1, D1.out.2]; rfl, rfl⟩
                      · have d1 : decide (y < x) = true := decide_eq_true h1
                        have d2 : decide (tu < 0) = false := decide_eq_false h2
                        have D1 := Aside0.mk (And.intro d1 d2)
                        clear h1 h2
                        go_wp2
                        go_meet
                        case rel => exact ⟨by rw [D1.out.1, D1.out.2]; rfl, rfl⟩
                    · have d1 : decide (y < x) = false := decide_eq_false h1
                      have D1 := Aside0.mk d1
                      clear h1
                      go_wp2
                      go_meet
                      case rel => exact ⟨by rw [D1.out]; rfl, rfl⟩
                  case rest => as_aux_lemma =>
                    obtain ⟨rfl, rfl⟩ := hcut
                    obtain ⟨tu', htu⟩ : ∃ tu' : Int, Aside0 ((if y < x ∧ tu < 0 then (b : Int) else tu) = tu' ∧ -1 ≤ tu' ∧ tu' ≤ 256) := ⟨_, ⟨rfl, by split <;> omega, by split <;> omega⟩⟩
                    generalize hB : (decide (y < x) && decide (tu < 0)) = B
                    have HT := Aside0.mk hB
                    clear hB
                    go_upto_if 92 with (fail)
                    go_cut [11] (fun v11 we => v11 = .int .i64 tu' ∧ we = wc)
                    case first => as_aux_lemma =>
                      cases B with
                      | false =>
                        have e1 : tu = tu' := by
                          have h := HT.out
                          rw [← htu.out.1, if_neg]
                          rintro ⟨h1, h2⟩
                          rw [decide_eq_true h1, decide_eq_true h2] at h
                          cases h
                        subst e1
                        go_wp2
                        go_meet
                        case rel => exact ⟨rfl, rfl⟩
                      | true =>
                        have e1 : (b : Int) = tu' := by
                          have h := HT.out
                          rw [Bool.and_eq_true, decide_eq_true_iff, decide_eq_true_iff] at h
                          rw [← htu.out.1, if_pos h]
                        subst e1
                        go_wp2
                        go_meet
                        case rel => exact ⟨rfl, rfl⟩
                    case rest => as_aux_lemma =>
                      obtain ⟨rfl, rfl⟩ := hcut
                      have HE4 := Aside0.mk HB3.out.2
                      have HB4 := Aside0.mk HB3.out.1
                      rw [htu.out.1] at HE4
                      clear HB3 HT
                      go_wp2
                      obtain ⟨kx, rfl⟩ := Int.eq_ofNat_of_zero_le hu1.1
                      go_loopw [15] (fun v wl => ∃ k : Nat, kx ≤ k ∧ k ≤ 256 ∧ ((kx : Int) ≤ y → (k : Int) ≤ y + 1) ∧ (y < (kx : Int) → k = kx) ∧ v = .int .i64 k ∧ Aside0 (RS w (fun j => S j || (decide (kx ≤ j) && decide (j < k))) wl)) (fun v _ => 257 - (intOf v).toNat)
                      case atStart => exact ⟨kx, Nat.le_refl _, by omega, fun _ => by omega, fun _ => rfl, rfl, ⟨HB4.out.congr (fun j _ => by show S j = (S j || (decide (kx ≤ j) && decide (j < kx))); by_cases h1 : kx ≤ j <;> by_cases h2 : j < kx <;> first | omega | simp [h1, h2])⟩⟩
                      case round =>
                        obtain ⟨k, hk0, hk1, hk2, hk3, rfl, HL⟩ := hrel
                        clear HB4
                        by_cases hle : (k : Int) ≤ y
                        · have hk256 : k < 256 := by omega
                          have ck : wr.cell? ⟨w.heap.size + 1, k, none⟩ = some (.bool (S k || (decide (kx ≤ k) && decide (k < k)))) := (blk_cell HL.out.2.1 k).trans (bset_get hk256)
                          have fk := blk_frozen HL.out.2.1 k
                          go_wp2
                          go_roundw
                          case rel => exact ⟨k + 1, by omega, by omega, fun _ => by omega, fun _ => by omega, by go_num, ⟨(HL.out.put k true).congr (fun j _ => (rng_step hk0).symm)⟩⟩
                          case measure => simp [intOf]; omega
                        · have HG := Aside0.mk (show RS w (rng S (kx : Int) y) wr from HL.out.congr (fun j _ => by
                              have h1 : decide (kx ≤ j) = decide ((kx : Int) ≤ (j : Int)) := by by_cases h : kx ≤ j <;> simp [h]
                              have h2 : kx ≤ j → (decide (j < k) = decide ((j : Int) ≤ y)) := fun h => by
                                by_cases h3 : j < k
                                · rw [decide_eq_true h3, decide_eq_true (by omega)]
                                · rw [decide_eq_false h3, decide_eq_false (by omega)]
                              unfold rng
                              by_cases h : kx ≤ j
                              · rw [h2 h, h1]
                              · rw [← h1, decide_eq_false h]; simp))
                          clear HL
                          go_wp2
                          go_roundg d
                          case measure => omega
                          case rel => exact ⟨b + e + 1, tu', rng S (kx : Int) y, by first | (congr 1; done) | (congr 1; omega), rfl, by omega, hbe, by omega, htu.out.2.1, htu.out.2.2, ⟨HG.out, by rw [decide_eq_false (show ¬ b + e + 1 = a2 by omega)]; exact HE4.out⟩⟩
        · have HE := Aside0.mk (show brkR p a = (false, b, tu, S) by rw [HA.out.2]; exact brkL_end (by omega))
          have q0 : decide ((b : Int) < (p.length : Int)) = false := decide_eq_false (by omega)
          have q3 : decide ((p.length : Int) ≤ (b : Int)) = true := decide_eq_true (by omega)
          go_wp2_with (first
            | ((with_reducible refine gate_ (.load 109 (.tmp 7)) rfl ?_); refine wpList_load_row rfl 109 (.tmp 7) rfl (w.heap.size + 1) rfl _ _ _ _ HA.out.1.2.1 Tryd.underlying109 rfl (szset' _) ?_)
            | ((with_reducible refine gate_ (.store 109 (.tmp 4) (.tmp 109)) rfl ?_); refine wpList_store_row rfl 109 (.tmp 4) (.tmp 109) rfl w.heap.size (bset S) rfl rfl _ _ HA.out.1.1 (szset' _) (by rw [bset_size, bset_size]) (bset_all _) ?_))
          refine bodyPost_ret (v := .tuple #[.agg (bset S), .int .i64 (b : Int), .int .i64 ((a : Int) - 1)]) ?_ rfl ⟨?_, below_setRow HA.out.1.2.2 (Nat.le_refl _) _⟩
          · exact res3_of rfl rfl rfl rfl (row_blk HA.out.1.1)
          · rw [brkV_open HE.out]
end Go.Proofs.YtdhdngoeaneanaaDoor.PT
end
section
namespace Go.Proofs.YtdhdngoeaneanaaDoor.PT
open Go.RowKit Go.Proofs.YtdhdngoeaneanaaDoorW.PrintWords Go.Proofs.YtdhdngoeaneanaaDoorW.PrintMore
set_option linter.unusedVariables false
/-- A thing of the reference: its kind, its set. -/
abbrev RT := Int × (Nat → Bool)
def tcl (x : RT) : List Value := .int .i64 x.1 :: (bset x.2).toList
def tcells (x : RT) : Array Value := (tcl x).toArray
theorem tcl_len (x : RT) : (tcl x).length = 257 := by simp [tcl, bset]
theorem tcl_one (x : RT) : ∀ v ∈ tcl x, v.oneCell' = true := by
  intro v hv
  rcases List.mem_cons.1 hv with rfl | hv
  · rfl
  · exact bset_one _ v hv
theorem tcells_size (x : RT) : (tcells x).size = 257 := by simp [tcells, tcl_len]
theorem tcells_all (x : RT) : (tcells x).all (·.oneCell') = true := Array.all_eq_true_iff_forall_mem.2 (fun v hv => tcl_one x v (by simpa [tcells] using hv))
theorem zth (w : World) : (zeroValue 111).run Tryd.prog w = .ok (.agg (tcells (0, fun _ => false))) w := by kernel_rfl
theorem szth : (Tryd.prog.info? 111).map (·.size) = some 257 := by kernel_rfl
theorem szth' (x : RT) : (Tryd.prog.info? 111).map (·.size) = some (tcells x).size := by rw [tcells_size]; exact szth
theorem infoR : (Tryd.prog.info? 111).map (fun i => (i.zero, i.size, i.bytes)) = some (some (.agg (tcells (0, fun _ => false))), 257, 264) := by kernel_rfl
theorem bld0 (k : Int) : Tryd.prog.built 111 [(0, .int .i64 k)] = some (tcells (k, fun _ => false)) := by kernel_rfl
theorem bld1 (S : Nat → Bool) : Tryd.prog.built 111 [(1, .agg (bset S))] = some (tcells (0, S)) := by kernel_rfl
theorem fillR (x : RT) : Instr.fill (fun i => some (i * 257, 257)) ((Array.range (1 * 257)).map ((Value.agg (tcells (0, fun _ => false))).cells[· % (Value.agg (tcells (0, fun _ => false))).cells.size]!)) [(0, .agg (tcells x))] = some (tcells x) := by kernel_rfl
/-- Rows of things. -/
def kR : Kd RT where
  sz := 257
  E := []
  K := fun _ x cs => cs = tcl x
  M := fun _ _ _ x cs => cs = tcl x
  K_len := fun h => by rw [h]; exact tcl_len _
  K_one := fun h => by rw [h]; exact tcl_one _
  K_below := fun _ h => h
  K_of_M := fun h => h
  M_mono := fun _ h => h
  M_bound := fun h => h
  M_move := fun _ h => h
  M_lower := fun _ h => h
/-- What a thing of the reference stands for. -/
def RTd (x : RT) : PTh :=
  if x.1 = 0 then .single x.2 else if x.1 = 1 then .many x.2 else if x.1 = 2 then .front else if x.1 = 3 then .back else if x.1 = 4 then .opens else .closes
section
variable {P : Program} {ops : Array Oper} {rest : List Oper} {o : Oper} {a : Act} {Q : Exit → Act → World → Prop} {W : World}
theorem wpl_build (hgd : o.guard = none) (t : TypeId) (i : Nat) (x : Operand) (ho : o.op = .build t #[(i, x)]) (cells : Array Value)
    (hf : P.built t [(i, a.eval x)] = some cells) (h : wpList P ops Q rest (a.put o.dst (.agg cells)) W) : wpList P ops Q (o :: rest) a W := by
  have hf' : P.built t ((#[(i, x)] : Array (Nat × Operand)).map fun (i, x) => (i, a.eval x)).toList = some cells := by simpa using hf
  exact wpList_plain hgd fun _ hK => wp_build t _ ho (by rw [hf']; rfl) (by rw [hf']; exact hK _ _ h)
theorem wpl_slice1 (hgd : o.guard = none) (t e : TypeId) (x : Operand) (ho : o.op = .buildSlice t 1 #[(0, x)]) (u : Value) (hx : a.eval x = u) (cells : Array Value) (ie : TypeInfo) (z : Value)
    (hu : P.underlying t = some (.slice e)) (hie : P.info? e = some ie) (hz : ie.zero = some z) (hsmall : ¬ 1 * ie.size > 2 ^ 24) (hpos : ¬ 1 * ie.size = 0)
    (hf : Instr.fill (fun i => some (i * ie.size, ie.size)) ((Array.range (1 * ie.size)).map (z.cells[· % z.cells.size]!)) [(0, u)] = some cells)
    (h : wpList P ops Q rest (a.put o.dst (.slice (some ⟨W.heap.size, 0, none⟩) 1 1)) (W.alloc (.cells cells e))) : wpList P ops Q (o :: rest) a W := by
  subst hx
  exact wpList_buildSlice hgd t e 1 _ ho cells ie z hu hie hz hsmall hpos (by simpa using hf) h
end
theorem tset0 (k k' : Int) (S : Nat → Bool) : (tcells (k, S)).setIfInBounds 0 (.int .i64 k') = tcells (k', S) := by
  unfold tcells tcl
  simp
theorem blk_kind {w : World} {T : Nat} {k : Int} {S : Nat → Bool} (h : w.heap[T]? = some (.cells (tcells (k, S)) 111 (0, 0))) (k' : Int) : (w.setCell ⟨T, 0, none⟩ (.int .i64 k')).heap[T]? = some (.cells (tcells (k', S)) 111 (0, 0)) := by
  have h2 := blk_set h 0 (.int .i64 k')
  rwa [tset0] at h2
theorem th_there {w : World} {T : Nat} {k : Int} {S : Nat → Bool} (h : w.heap[T]? = some (.cells (tcells (k, S)) 111 (0, 0))) (S' : Nat → Bool) : w.there T 1 (bset S').size := fun j hj => by
  rw [bset_size] at hj
  refine ⟨?_, blk_frozen h _⟩
  rw [blk_cell h]
  simp [tcells_size]
  omega
theorem blk_setS {w : World} {T : Nat} {k : Int} {S : Nat → Bool} (h : w.heap[T]? = some (.cells (tcells (k, S)) 111 (0, 0))) (S' : Nat → Bool) : (w.setCells T 1 (bset S').toList).heap[T]? = some (.cells (tcells (k, S')) 111 (0, 0)) := by
  obtain ⟨cur', h1, h2, h3⟩ := setCells_row (bset S').toList 1 w _ h (by rw [tcells_size, Array.length_toList, bset_size]; decide)
  rw [h1, show cur' = tcells (k, S') from ?_]
  rw [← Array.toList_inj, h3]
  simp [tcells, tcl, bset]
theorem kR_M (w : World) (base : Nat) (ok : Nat → Prop) (x : RT) : kR.M w base ok x (tcl x) := rfl
section
variable {ops : Array Oper} {rest : List Oper} {o : Oper} {a : Act} {Q : Exit → Act → World → Prop} {W : World}
/-- '[]thing{x}'. -/
theorem wpl_thing (hgd : o.guard = none) (x : Operand) (ho : o.op = .buildSlice 87 1 #[(0, x)]) (y : RT) (hx : a.eval x = .agg (tcells y))
    (h : wpList Tryd.prog ops Q rest (a.put o.dst (.slice (some ⟨W.heap.size, 0, none⟩) 1 1)) (W.alloc (.cells (tcl y).toArray 111))) : wpList Tryd.prog ops Q (o :: rest) a W := by
  obtain ⟨i0, hi, hzz⟩ := Option.map_eq_some_iff.1 infoR
  simp only [Prod.mk.injEq] at hzz
  obtain ⟨hz0, hz1, hz2⟩ := hzz
  exact wpl_slice1 hgd _ _ x ho _ hx (tcells y) i0 _ Tryd.underlying87 hi hz0 (by rw [hz1]; decide) (by rw [hz1]; decide) (by rw [hz1]; exact fillR y) h
end
theorem ld_u8 {W : World} {ad : Addr} {b : Int} (h : W.cell? ad = some (.int .u8 b)) : (Instr.loadAt 5 (.pointer (some ad))).run Tryd.prog W = .ok (.int .u8 b) W := by
  have hagg : (isAgg 5).run Tryd.prog W = .ok false W := by kernel_rfl
  simp only [Instr.loadAt, Instr.sureAddr, Sem.run_bind, Sem.run_pure, Result.andThen_ok, loadVar, hagg]
  simp [h]
section
variable {P : Program} {ops : Array Oper} {rest : List Oper} {o : Oper} {a : Act} {Q : Exit → Act → World → Prop} {W : World}
theorem wpl_ld (hgd : o.guard = none) (t : TypeId) (x : Operand) (ho : o.op = .load t x) (ad : Addr) (v : Value) (hx : a.eval x = .pointer (some ad)) (hl : (Instr.loadAt t (.pointer (some ad))).run P W = .ok v W)
    (h : wpList P ops Q rest (a.put o.dst v) W) : wpList P ops Q (o :: rest) a W := by
  refine wpList_plain hgd fun _ hK => ?_
  unfold Oper.wp execOp
  simp only [ho, hx, Sem.run_bind, hl, Result.andThen_ok]
  exact hK _ _ h
end
theorem st_int {W : World} {ad : Addr} {u : Value} {b : Int} (h : W.cell? ad = some u) (hf : W.frozen? ad = false) : (Instr.storeAt 3 (.pointer (some ad)) (.int .i64 b)).run Tryd.prog W = .ok () (W.setCell ad (.int .i64 b)) := by
  have hs : (sizeOf 3).run Tryd.prog W = .ok 1 W := by kernel_rfl
  simp [Instr.storeAt, Instr.sureAddr, storeVar, hs, Value.cells, storeCells]
  rw [show ad.add 0 = ad from by simp [Addr.add]]
  rw [run_store _ _ _ _ _ rfl, h]
  simp [hf]
section
variable {P : Program} {ops : Array Oper} {rest : List Oper} {o : Oper} {a : Act} {Q : Exit → Act → World → Prop} {W W' : World}
theorem wpl_st (hgd : o.guard = none) (t : TypeId) (x y : Operand) (ho : o.op = .store t x y) (ad : Addr) (v : Value) (hx : a.eval x = .pointer (some ad)) (hy : a.eval y = v) (hl : (Instr.storeAt t (.pointer (some ad)) v).run P W = .ok () W')
    (h : wpList P ops Q rest (a.put o.dst undef) W') : wpList P ops Q (o :: rest) a W := by
  refine wpList_plain hgd fun _ hK => ?_
  unfold Oper.wp execOp
  simp only [ho, hx, hy, Sem.run_bind, hl, Result.andThen_ok]
  exact hK _ _ h
end
theorem ld_int {W : World} {ad : Addr} {b : Int} (h : W.cell? ad = some (.int .i64 b)) : (Instr.loadAt 3 (.pointer (some ad))).run Tryd.prog W = .ok (.int .i64 b) W := by
  have hagg : (isAgg 3).run Tryd.prog W = .ok false W := by kernel_rfl
  simp only [Instr.loadAt, Instr.sureAddr, Sem.run_bind, Sem.run_pure, Result.andThen_ok, loadVar, hagg]
  simp [h]
end Go.Proofs.YtdhdngoeaneanaaDoor.PT
end
section
namespace Go.Proofs.YtdhdngoeaneanaaDoor.PT
open Go.RowKit Go.Proofs.YtdhdngoeaneanaaDoorW.PrintWords Go.Proofs.YtdhdngoeaneanaaDoorW.PrintMore
set_option linter.unusedVariables false
def starB (l : List PTh) : Bool := match l.getLast? with
  | some (.many _) => true
  | some .back => true
  | some .opens => true
  | some .closes => true
  | _ => false
def bareB (l : List PTh) : Bool := match l.getLast? with
  | none => true
  | some .front => true
  | _ => false
theorem comp_step {p : List Int} {d a a' : Nat} {l l' : List PTh} (h : a < p.length) (hn : nextV p a l = (a', -1, l')) : compL p (d + 1) a l = compL p d a' l' := by
  conv => lhs; unfold compL
  rw [if_pos h, hn]
  exact if_neg (show ¬ ((-1 : Int) ≥ 0) by decide)
theorem comp_fault {p : List Int} {d a : Nat} {l : List PTh} {f : Int} (h : a < p.length) (hn : (nextV p a l).2.1 = f) (hf : 0 ≤ f) : compL p (d + 1) a l = (f, l) := by
  conv => lhs; unfold compL
  rw [if_pos h, hn, if_pos (show f ≥ 0 from hf)]
theorem nx_front {p : List Int} {l : List PTh} (h : rd p 0 = 94) : nextV p 0 l = (1, -1, l ++ [.front]) := by
  unfold nextV
  exact if_pos ⟨h, rfl⟩
section
variable {p : List Int} {a : Nat} {l : List PTh}
theorem nx_star (h : rd p a = 42) : nextV p a l = (a + 1, (starV a l).1, (starV a l).2) := by
  unfold nextV
  rw [if_neg (by omega), if_neg (by omega), if_neg (by omega), if_neg (by omega), if_pos h]
theorem nx_starred (h : rd p a = 42) (hs : starB l = true) : (nextV p a l).2.1 = (a : Int) := by
  rw [nx_star h]
  show (starV a l).1 = a
  unfold starB at hs
  unfold starV
  split at hs <;> simp_all
theorem nx_many {l0 : List PTh} {S : Nat → Bool} (h : rd p a = 42) (e : l = l0 ++ [.single S]) : nextV p a l = (a + 1, -1, l0 ++ [.many S]) := by
  rw [nx_star h]
  unfold starV
  subst e
  simp
theorem nx_bare (h : rd p a = 42) (hs : bareB l = true) : nextV p a l = (a + 1, -1, l ++ [.single fun j => j == 42]) := by
  rw [nx_star h]
  unfold bareB at hs
  unfold starV
  split at hs <;> simp_all
theorem nx_back (h : rd p a = 36) (e : a + 1 = p.length) : nextV p a l = (a + 1, -1, l ++ [.back]) := by
  unfold nextV
  rw [if_neg (by omega), if_pos ⟨h, e⟩]
theorem nx_dot (h : rd p a = 46) : nextV p a l = (a + 1, -1, l ++ [.single fun j => decide (j < 256)]) := by
  unfold nextV
  rw [if_neg (by omega), if_neg (by omega), if_pos h]
theorem nx_set (h : rd p a = 91) : nextV p a l = ((brkV p (a + 1) (-1)).2.1, (brkV p (a + 1) (-1)).2.2, l ++ [.single (brkV p (a + 1) (-1)).1]) := by
  unfold nextV
  rw [if_neg (by omega), if_neg (by omega), if_neg (by omega), if_pos h]
theorem nx_mask (h : rd p a = 92) : nextV p a l = (if p.length ≤ a + 1 then (a + 1, (a : Int), l) else if rd p ((a : Int) + 1) = 60 then (a + 2, -1, l ++ [.opens]) else if rd p ((a : Int) + 1) = 62 then (a + 2, -1, l ++ [.closes]) else (a + 2, -1, l ++ [.single fun j => j == (rd p ((a : Int) + 1)).toNat])) := by
  unfold nextV
  rw [if_neg (by omega), if_neg (by omega), if_neg (by omega), if_neg (by omega), if_neg (by omega), if_pos h]
theorem nx_byte (h0 : a = 0 → rd p 0 ≠ 94) (h1 : ¬ (rd p a = 36 ∧ a + 1 = p.length)) (h2 : rd p a ≠ 46) (h3 : rd p a ≠ 91) (h4 : rd p a ≠ 92) (h5 : rd p a ≠ 42) : nextV p a l = (a + 1, -1, l ++ [.single fun j => j == (rd p a).toNat]) := by
  unfold nextV
  rw [if_neg (by rintro ⟨h, rfl⟩; exact h0 rfl h), if_neg h1, if_neg h2, if_neg h3, if_neg h5, if_neg h4]
end
theorem brkL_le {p : List Int} : ∀ (d a : Nat) (tu : Int) (f : Bool) (S : Nat → Bool), a ≤ p.length → (brkL p d a tu f S).2.1 ≤ p.length := by
  intro d
  induction d with
  | zero => intro a tu f S h; exact h
  | succ d ih =>
    intro a tu f S h
    unfold brkL
    split
    · exact h
    · split
      · show a + 1 ≤ p.length
        omega
      · split
        · exact ih (a + 3) _ _ _ (by omega)
        · exact ih (a + 1) _ _ _ (by omega)
theorem brkV_le {p : List Int} {a : Nat} (f : Int) (h : a ≤ p.length) : (brkV p a f).2.1 ≤ p.length := by
  have h2 : (brkR p a).2.1 ≤ p.length := by
    unfold brkR
    refine brkL_le _ _ _ _ _ ?_
    split
    · rename_i h3
      unfold brkN at h3
      rw [Bool.and_eq_true, decide_eq_true_iff] at h3
      omega
    · exact h
  unfold brkV
  split <;> exact h2
theorem starB_snoc (l : List PTh) (y : RT) (h : y.1 = 0 ∨ y.1 = 3 ∨ y.1 = 4 ∨ y.1 = 5) : starB (l ++ [RTd y]) = (y.1 != 0) ∧ bareB (l ++ [RTd y]) = false := by
  obtain ⟨k, S⟩ := y
  simp only at h
  unfold starB bareB RTd
  rcases h with rfl | rfl | rfl | rfl <;> simp
theorem starB_many (l : List PTh) (S : Nat → Bool) : starB (l ++ [.many S]) = true ∧ bareB (l ++ [.many S]) = false := by
  unfold starB bareB
  simp
/-- A * that changes the last thing: it's a single. -/
theorem last_single {l : List PTh} (h1 : starB l = false) (h2 : bareB l = false) : ∃ l0 S, l = l0 ++ [.single S] := by
  rcases List.eq_nil_or_concat l with rfl | ⟨l0, x, rfl⟩
  · cases h2
  · rw [List.concat_eq_append] at h1 h2 ⊢
    unfold starB at h1
    unfold bareB at h2
    cases x with
    | single S => exact ⟨l0, S, rfl⟩
    | _ => simp at h1 h2
theorem RTd_single {x : RT} {S : Nat → Bool} (h : RTd x = .single S) : x.1 = 0 ∧ x.2 = S := by
  obtain ⟨k, S'⟩ := x
  unfold RTd at h
  by_cases e0 : k = 0
  · simp only at h ⊢; rw [if_pos e0] at h; injection h with h; exact ⟨e0, h⟩
  · simp only at h
    rw [if_neg e0] at h
    split at h
    · cases h
    · split at h
      · cases h
      · split at h
        · cases h
        · split at h <;> cases h
end Go.Proofs.YtdhdngoeaneanaaDoor.PT
end
