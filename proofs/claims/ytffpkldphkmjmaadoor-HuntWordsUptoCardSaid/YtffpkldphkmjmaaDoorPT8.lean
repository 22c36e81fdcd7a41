/-
  Patterns, by hand: the ends of the matches.
-/
import Derived.Test.YtffpkldphkmjmaaDoorPT7
namespace Go.Proofs.YtffpkldphkmjmaaDoor.PT
open Go.RowKit Go.Proofs.YtffpkldphkmjmaaDoorW.PrintWords Go.Proofs.YtffpkldphkmjmaaDoorW.PrintMore
set_option linter.unusedVariables false
theorem te_single_single (v : Value) (w : World) : (Instr.typeAssert (.iface 92 v) 96 92 true).run Tryd.prog w = .ok (.tuple #[v, .bool true]) w := by kernel_rfl
theorem te_many_single (v : Value) (w : World) : (Instr.typeAssert (.iface 97 v) 96 92 true).run Tryd.prog w = .ok (.tuple #[.agg #[.pointer none], .bool false]) w := by kernel_rfl
theorem te_many_many (v : Value) (w : World) : (Instr.typeAssert (.iface 97 v) 96 97 true).run Tryd.prog w = .ok (.tuple #[v, .bool true]) w := by kernel_rfl
theorem te_front_single (v : Value) (w : World) : (Instr.typeAssert (.iface 87 v) 96 92 true).run Tryd.prog w = .ok (.tuple #[.agg #[.pointer none], .bool false]) w := by kernel_rfl
theorem te_front_many (v : Value) (w : World) : (Instr.typeAssert (.iface 87 v) 96 97 true).run Tryd.prog w = .ok (.tuple #[.agg #[.pointer none], .bool false]) w := by kernel_rfl
theorem te_front_front (v : Value) (w : World) : (Instr.typeAssert (.iface 87 v) 96 87 true).run Tryd.prog w = .ok (.tuple #[v, .bool true]) w := by kernel_rfl
theorem te_back_single (v : Value) (w : World) : (Instr.typeAssert (.iface 88 v) 96 92 true).run Tryd.prog w = .ok (.tuple #[.agg #[.pointer none], .bool false]) w := by kernel_rfl
theorem te_back_many (v : Value) (w : World) : (Instr.typeAssert (.iface 88 v) 96 97 true).run Tryd.prog w = .ok (.tuple #[.agg #[.pointer none], .bool false]) w := by kernel_rfl
theorem te_back_front (v : Value) (w : World) : (Instr.typeAssert (.iface 88 v) 96 87 true).run Tryd.prog w = .ok (.tuple #[.agg #[], .bool false]) w := by kernel_rfl
theorem te_back_back (v : Value) (w : World) : (Instr.typeAssert (.iface 88 v) 96 88 true).run Tryd.prog w = .ok (.tuple #[v, .bool true]) w := by kernel_rfl
theorem te_opens_single (v : Value) (w : World) : (Instr.typeAssert (.iface 98 v) 96 92 true).run Tryd.prog w = .ok (.tuple #[.agg #[.pointer none], .bool false]) w := by kernel_rfl
theorem te_opens_many (v : Value) (w : World) : (Instr.typeAssert (.iface 98 v) 96 97 true).run Tryd.prog w = .ok (.tuple #[.agg #[.pointer none], .bool false]) w := by kernel_rfl
theorem te_opens_front (v : Value) (w : World) : (Instr.typeAssert (.iface 98 v) 96 87 true).run Tryd.prog w = .ok (.tuple #[.agg #[], .bool false]) w := by kernel_rfl
theorem te_opens_back (v : Value) (w : World) : (Instr.typeAssert (.iface 98 v) 96 88 true).run Tryd.prog w = .ok (.tuple #[.agg #[], .bool false]) w := by kernel_rfl
theorem te_opens_opens (v : Value) (w : World) : (Instr.typeAssert (.iface 98 v) 96 98 true).run Tryd.prog w = .ok (.tuple #[v, .bool true]) w := by kernel_rfl
theorem te_closes_single (v : Value) (w : World) : (Instr.typeAssert (.iface 99 v) 96 92 true).run Tryd.prog w = .ok (.tuple #[.agg #[.pointer none], .bool false]) w := by kernel_rfl
theorem te_closes_many (v : Value) (w : World) : (Instr.typeAssert (.iface 99 v) 96 97 true).run Tryd.prog w = .ok (.tuple #[.agg #[.pointer none], .bool false]) w := by kernel_rfl
theorem te_closes_front (v : Value) (w : World) : (Instr.typeAssert (.iface 99 v) 96 87 true).run Tryd.prog w = .ok (.tuple #[.agg #[], .bool false]) w := by kernel_rfl
theorem te_closes_back (v : Value) (w : World) : (Instr.typeAssert (.iface 99 v) 96 88 true).run Tryd.prog w = .ok (.tuple #[.agg #[], .bool false]) w := by kernel_rfl
theorem te_closes_opens (v : Value) (w : World) : (Instr.typeAssert (.iface 99 v) 96 98 true).run Tryd.prog w = .ok (.tuple #[.agg #[], .bool false]) w := by kernel_rfl
theorem te_closes_closes (v : Value) (w : World) : (Instr.typeAssert (.iface 99 v) 96 99 true).run Tryd.prog w = .ok (.tuple #[v, .bool true]) w := by kernel_rfl

section
variable {w0 w : World} {bl bb br : Nat} {A : Option Addr} {c n : Nat} {E : List Int}
theorem EX.alloc (h : EX w0 bl bb br A c n E w) (o : Obj) : EX w0 bl bb br A c n E (w.alloc o) := ⟨below_alloc h.below o, h.gl, h.gb, h.gr, blk_alloc h.ln o, blk_alloc h.bs o, blk_alloc h.row o, h.len⟩
theorem EX.far (h : EX w0 bl bb br A c n E w) {s t : Nat} {cs : Array Value} (hs : w.heap[s]? = some (.cells cs t (0, 0))) (ht : t ≠ 3) (j : Nat) (u : Value) : (w.setCell ⟨br, j, none⟩ u).heap[s]? = some (.cells cs t (0, 0)) := blk_far hs (blk_ne hs h.row ht) u
end
theorem th_at {w : World} {A : Option Addr} {l : List Th} (h : kTh.C w A l.length l) {k : Nat} (hk : k < l.length) : ∃ ad, A = some ad ∧ w.cell? (ad.add k) = some (enc l[k]) := by
  obtain ⟨ad, h1, h2⟩ := ReadsOf.at_ (Kd.reads_of_C (enc := enc) (d := Th.front) (h1 := enc_one) h) (k : Int) (by omega) (by omega)
  refine ⟨ad, h1, ?_⟩
  rw [Int.toNat_natCast] at h2
  rw [h2]
  simp [rdOf, List.getD_eq_getElem?_getD, hk]
theorem endsV_drop (line : List Int) (l : List PTh) {k : Nat} (hk : k < l.length) : endsV line (l.drop k) = stepV line l[k] (endsV line (l.drop (k + 1))) := by
  rw [List.drop_eq_getElem_cons hk]; rfl
set_option maxHeartbeats 4000000 in
set_option maxRecDepth 100000 in
theorem ends_calls {w : World} {A : Option Addr} {c : Nat} {line : List Int} {pb : Nat} {A1 : Option Addr} {c1 : Nat} {l : List Th} (hr : Kd.C (Kd.int .u8) w A line.length line) (hu : ∀ i, 0 ≤ rd line i ∧ rd line i ≤ 255)
    (hn : (line.length + 1) * 8 ≤ 281474976710656) (hp : w.heap[pb]? = some (.cells #[.slice A1 l.length c1] 67 (0, 0))) (hk : kTh.C w A1 l.length l) (hS : Sets w l) (hl : l.length ≤ 300) (hc : line.length ≤ c) :
    Calls Tryd.prog 33 #[.pointer (some ⟨pb, 0, none⟩), .slice A line.length c] w fun e w' => e = .returned (.slice (some ⟨w.heap.size + 1, 0, none⟩) (line.length + 1) (line.length + 1)) ∧ Below w.heap.size w w' ∧ w'.heap[w.heap.size + 1]? = some (.cells (iv (endsV line (l.map den))) 3 (0, 0)) := by
  have HP := Aside0.mk (And.intro hp (And.intro hS (And.intro hr (And.intro hu (And.intro hk hc)))))
  clear hp hS hr hu hk hc
  have hmk : ∀ W : World, (Instr.makeSlice 47 (.int .i64 ((line.length : Int) + 1)) (.int .i64 ((line.length : Int) + 1))).run Tryd.prog W = .ok (.slice (some ⟨W.heap.size, 0, none⟩) (line.length + 1) (line.length + 1)) (W.alloc (.cells (madeCells #[.int .i64 0] (line.length + 1)) 3)) :=
    print_make 47 3 .i64 8 Tryd.underlying47 (by kernel_rfl) (by decide) (line.length + 1) hn
  go_enter Tryd.func33, Tryd.ntmps33
  go_wp2
  have HE : EX w w.heap.size (w.heap.size + 1 + 1) (w.heap.size + 1) A c line.length (List.replicate (line.length + 1) 0) (((w.alloc (.cells #[.slice A line.length c] 22)).alloc (.cells (madeCells #[.int .i64 0] (line.length + 1)) 3)).alloc (.cells #[.slice (some ⟨w.heap.size + 1, 0, none⟩) (line.length + 1) (line.length + 1)] 47)) := by
    rw [iv_made]
    refine ⟨below_alloc (below_alloc (below_alloc (Below.refl _ _) _) _) _, Nat.le_refl _, by omega, by omega, blk_alloc (blk_alloc (blk_new _ _) _) _, ?_, blk_alloc ?_ _, by simp⟩
    · have h := blk_new ((w.alloc (.cells #[.slice A line.length c] 22)).alloc (.cells (iv (List.replicate (line.length + 1) 0)) 3)) (.cells #[.slice (some ⟨w.heap.size + 1, 0, none⟩) (line.length + 1) (line.length + 1)] 47)
      simpa only [World.size_alloc] using h
    · have h := blk_new (w.alloc (.cells #[.slice A line.length c] 22)) (.cells (iv (List.replicate (line.length + 1) 0)) 3)
      simpa only [World.size_alloc] using h
  have HE := Aside0.mk HE
  generalize (((w.alloc (.cells #[.slice A line.length c] 22)).alloc (.cells (madeCells #[.int .i64 0] (line.length + 1)) 3)).alloc (.cells #[.slice (some ⟨w.heap.size + 1, 0, none⟩) (line.length + 1) (line.length + 1)] 47)) = W at HE ⊢
  clear hmk
  go_loopw [23] (fun v wl => ∃ (k : Nat) (E : List Int), k ≤ line.length + 1 ∧ v = .int .i64 k ∧ Aside0 (EX w w.heap.size (w.heap.size + 1 + 1) (w.heap.size + 1) A c line.length E wl ∧ ∀ j : Nat, j < k → rd E (j : Int) = (j : Int))) (fun v _ => line.length + 1 - (intOf v).toNat)
  case atStart => exact ⟨0, _, by omega, rfl, ⟨HE.out, fun j hj => by omega⟩⟩
  case round =>
    obtain ⟨k, E, hk, rfl, HL⟩ := hrel
    clear HE
    have cb := HL.out.1.cb
    by_cases hlt : k < line.length + 1
    · have hd : decide ((k : Int) < (line.length : Int) + 1) = true := decide_eq_true (by omega)
      have q1 : (0 ≤ (k : Int)) = True := eq_true (by omega)
      have q2 : ((k : Int) < (line.length : Int) + 1) = True := eq_true (by omega)
      have fk := blk_frozen HL.out.1.row k
      have ck := HL.out.1.cr (show k ≤ line.length by omega)
      go_wp2
      go_roundw
      case rel =>
        refine ⟨k + 1, E.set k k, by omega, by go_num, ⟨HL.out.1.put k k, fun j hj => ?_⟩⟩
        rw [rd_set E _ _ (by omega) (by rw [HL.out.1.len]; omega)]
        by_cases e : (j : Int) = k
        · rw [if_pos e]; omega
        · rw [if_neg e]; exact HL.out.2 j (by omega)
      case measure => simp [intOf]; omega
    · have hd : decide ((k : Int) < (line.length : Int) + 1) = false := decide_eq_false (by omega)
      have HI := Aside0.mk (show EX w w.heap.size (w.heap.size + 1 + 1) (w.heap.size + 1) A c line.length (endsI line) wr by
        have h := HL.out.1
        rwa [show E = endsI line from rd_ext (by rw [h.len]; simp [endsI]) (fun j hj => by
          rw [HL.out.2 j (by rw [h.len] at hj; omega)]
          exact (rd_gen _ (fun i : Nat => (i : Int)) (by rw [h.len] at hj; omega)).symm)] at h)
      clear HL cb
      have cp : wr.cell? ⟨pb, 0, none⟩ = some (.slice A1 l.length c1) := (blk_cell (blk_below HP.out.1 HI.out.below) 0).trans rfl
      go_wp2
      go_loopg [8] l.length (fun g v8 wl => v8 = .int .i64 ((g : Int) - 1) ∧ g ≤ l.length ∧ Aside0 (EX w w.heap.size (w.heap.size + 1 + 1) (w.heap.size + 1) A c line.length (endsV line ((l.map den).drop g)) wl))
      case atStart => exact ⟨rfl, Nat.le_refl _, ⟨by rw [List.drop_eq_nil_of_le (by simp)]; exact HI.out⟩⟩
      case round =>
        obtain ⟨rfl, hg, HA⟩ := hrel
        clear HI cp
        have cp : wr.cell? ⟨pb, 0, none⟩ = some (.slice A1 l.length c1) := (blk_cell (blk_below HP.out.1 HA.out.below) 0).trans rfl
        cases gk with
        | zero =>
          have HZ := Aside0.mk (show EX w w.heap.size (w.heap.size + 1 + 1) (w.heap.size + 1) A c line.length (endsV line (l.map den)) wr from HA.out)
          have cb := HA.out.cb
          clear cp HA
          go_wp2
          refine bodyPost_ret (v := .slice (some ⟨w.heap.size + 1, 0, none⟩) (line.length + 1) (line.length + 1)) (by simp [results, Tryd.results33, go_sem]) rfl ?_
          exact ⟨rfl, HZ.out.below, HZ.out.row⟩
        | succ d =>
          obtain ⟨ad, rfl, hth⟩ := th_at (Kd.C_below HP.out.2.2.2.2.1 HA.out.below) (show d < l.length by omega)
          have HS := Aside0.mk (SetAt_below (HP.out.2.1 l[d] (List.getElem_mem _)) HA.out.below)
          have HV := Aside0.mk (show endsV line ((l.map den).drop d) = stepV line (den l[d]) (endsV line ((l.map den).drop (d + 1))) by rw [endsV_drop line (l.map den) (show d < (l.map den).length by rw [List.length_map]; omega), List.getElem_map])
          have hd0 : decide (0 ≤ ((d + 1 : Nat) : Int) - 1) = true := decide_eq_true (by omega)
          have q1 : (0 ≤ ((d + 1 : Nat) : Int) - 1) = True := eq_true (by omega)
          have q2 : (((d + 1 : Nat) : Int) - 1 < (l.length : Int)) = True := eq_true (by omega)
          have cb := HA.out.cb
          generalize l[d] = x at hth HS HV
          generalize endsV line ((l.map den).drop (d + 1)) = E at HA HV
          rw [show ((d + 1 : Nat) : Int) - 1 = (d : Int) from by omega] at hd0 q1 q2 ⊢
          cases x with
          | single sb S =>
            simp only [enc] at hth
            have te0 := te_single_single
            have HB := Aside0.mk (And.intro (HA.out.alloc (.cells #[.pointer (some ⟨sb, 0, none⟩)] 92)) (And.intro (blk_new wr (.cells #[.pointer (some ⟨sb, 0, none⟩)] 92)) (blk_alloc HS.out (.cells #[.pointer (some ⟨sb, 0, none⟩)] 92))))
            have hxb : w.heap.size ≤ wr.heap.size := HA.out.below.size
            have cl := HB.out.1.cl
            go_wp2
            clear HA cb cl cp hth HS te0
            generalize wr.heap.size = xb at HB hxb ⊢
            generalize (wr.alloc (.cells #[.pointer (some ⟨sb, 0, none⟩)] 92)) = W at HB ⊢
            go_loopw [54] (fun v wl => ∃ (k : Nat) (E' : List Int), k ≤ line.length ∧ v = .int .i64 k ∧ Aside0 (EX w w.heap.size (w.heap.size + 1 + 1) (w.heap.size + 1) A c line.length E' wl ∧ wl.heap[xb]? = some (.cells #[.pointer (some ⟨sb, 0, none⟩)] 92 (0, 0)) ∧ wl.heap[sb]? = some (.cells (bset S) 112 (0, 0)) ∧ (∀ j : Nat, j < k → rd E' (j : Int) = if S (rd line (j : Int)).toNat = true then rd E ((j : Int) + 1) else -1) ∧ (∀ j : Nat, k ≤ j → rd E' (j : Int) = rd E (j : Int)))) (fun v _ => line.length - (intOf v).toNat)
            case atStart => exact ⟨0, E, by omega, rfl, ⟨HB.out.1, HB.out.2.1, HB.out.2.2, fun j hj => by omega, fun j _ => rfl⟩⟩
            case round =>
              obtain ⟨k, E', hk, rfl, HL⟩ := hrel
              clear HB
              have cl := HL.out.1.cl
              have cb := HL.out.1.cb
              have cx : wr.cell? ⟨xb, 0, none⟩ = some (.pointer (some ⟨sb, 0, none⟩)) := (blk_cell HL.out.2.1 0).trans rfl
              by_cases hlt : k < line.length
              · have hd1 : decide ((k : Int) < (line.length : Int)) = true := decide_eq_true (by omega)
                have q3 : (0 ≤ (k : Int)) = True := eq_true (by omega)
                have q4 : ((k : Int) < (line.length : Int) + 1) = True := eq_true (by omega)
                have q5 : ((k : Int) < (line.length : Int)) = True := eq_true (by omega)
                have q6 : ((k : Int) + 1 < (line.length : Int) + 1) = True := eq_true (by omega)
                have fk := blk_frozen HL.out.1.row k
                have ck := HL.out.1.cr (show k ≤ line.length by omega)
                have ck1 := HL.out.1.cr (show k + 1 ≤ line.length by omega)
                have hb := HP.out.2.2.2.1 (k : Int)
                obtain ⟨ad2, rfl, cby⟩ := Kd.at_int (Kd.C_below HP.out.2.2.1 HL.out.1.below) (k : Int) (by omega) (by omega)
                rw [Int.toNat_natCast] at cby
                have cs : wr.cell? ⟨sb, (rd line (k : Int)).toNat, none⟩ = some (.bool (S (rd line (k : Int)).toNat)) := (blk_cell HL.out.2.2.1 _).trans (bset_get (by omega))
                go_wp2
                have HL2 := Aside0.mk (And.intro (HL.out.1.put k (-1)) (And.intro (HL.out.1.far HL.out.2.1 (by decide) k (.int .i64 (-1))) (And.intro (HL.out.1.far HL.out.2.2.1 (by decide) k (.int .i64 (-1))) HL.out.2.2.2)))
                clear cl cb cx fk ck ck1 cby cs HL
                generalize (wr.setCell ⟨w.heap.size + 1, k, none⟩ (.int .i64 (-1))) = W2 at HL2 ⊢
                have cl := HL2.out.1.cl
                have cb := HL2.out.1.cb
                have cx : W2.cell? ⟨xb, 0, none⟩ = some (.pointer (some ⟨sb, 0, none⟩)) := (blk_cell HL2.out.2.1 0).trans rfl
                have fk := blk_frozen HL2.out.1.row k
                have ck := HL2.out.1.cr (show k ≤ line.length by omega)
                have ck1 := HL2.out.1.cr (show k + 1 ≤ line.length by omega)
                have cby : W2.cell? (ad2.add k) = some (.int .u8 (rd line (k : Int))) := by
                  obtain ⟨ad3, e3, h3⟩ := Kd.at_int (Kd.C_below HP.out.2.2.1 HL2.out.1.below) (k : Int) (by omega) (by omega)
                  injection e3 with e3
                  subst e3
                  rwa [Int.toNat_natCast] at h3
                have cs : W2.cell? ⟨sb, (rd line (k : Int)).toNat, none⟩ = some (.bool (S (rd line (k : Int)).toNat)) := (blk_cell HL2.out.2.2.1 _).trans (bset_get (by omega))
                cases eS : S (rd line (k : Int)).toNat
                · rw [eS] at cs
                  go_quiet (fail)
                  go_wp2
                  go_roundw
                  case rel =>
                    refine ⟨k + 1, E'.set k (-1), by omega, by go_num, ⟨HL2.out.1.drew _, blk_drewN HL2.out.2.1 _, blk_drewN HL2.out.2.2.1 _, fun j hj => ?_, fun j hj => ?_⟩⟩
                    · rw [rd_set E' _ _ (by omega) (by have h_ := HL2.out.1.len; rw [List.length_set] at h_; omega)]
                      by_cases e : (j : Int) = k
                      · rw [if_pos e, e, eS]; rfl
                      · rw [if_neg e]; exact HL2.out.2.2.2.1 j (by omega)
                    · rw [rd_set E' _ _ (by omega) (by have h_ := HL2.out.1.len; rw [List.length_set] at h_; omega), if_neg (by omega)]
                      exact HL2.out.2.2.2.2 j (by omega)
                  case measure => simp [intOf]; omega
                · rw [eS] at cs
                  have ev : rd (E'.set k (-1)) ((k + 1 : Nat) : Int) = rd E ((k : Int) + 1) := by
                    rw [rd_set E' _ _ (by omega) (by have h_ := HL2.out.1.len; rw [List.length_set] at h_; omega), if_neg (by omega), HL2.out.2.2.2.2 (k + 1) (by omega)]
                    rfl
                  rw [ev] at ck1
                  go_quiet (fail)
                  go_wp2
                  go_region
                  all_goals go_wp2
                  all_goals
                    refine ⟨⟨k + 1, (E'.set k (-1)).set k (rd E ((k : Int) + 1)), by omega, by go_num, ⟨(HL2.out.1.drew _).put k _, (HL2.out.1.drew _).far (blk_drewN HL2.out.2.1 _) (by decide) k _, (HL2.out.1.drew _).far (blk_drewN HL2.out.2.2.1 _) (by decide) k _, fun j hj => ?_, fun j hj => ?_⟩⟩, by simp [intOf]; omega⟩
                    · have hl_ := HL2.out.1.len
                      rw [rd_set _ _ _ (by omega) (by omega)]
                      rw [List.length_set] at hl_
                      rw [rd_set E' _ _ (by omega) (by omega)]
                      by_cases e : (j : Int) = k
                      · rw [if_pos e, e, eS]; rfl
                      · rw [if_neg e, if_neg e]; exact HL2.out.2.2.2.1 j (by omega)
                    · have hl_ := HL2.out.1.len
                      rw [rd_set _ _ _ (by omega) (by omega)]
                      rw [List.length_set] at hl_
                      rw [rd_set E' _ _ (by omega) (by omega), if_neg (by omega), if_neg (by omega)]
                      exact HL2.out.2.2.2.2 j (by omega)
              · have hd1 : decide ((k : Int) < (line.length : Int)) = false := decide_eq_false (by omega)
                obtain rfl : k = line.length := by omega
                have fk := blk_frozen HL.out.1.row line.length
                have ck := HL.out.1.cr (Nat.le_refl line.length)
                have q4 : ((line.length : Int) < (line.length : Int) + 1) = True := eq_true (by omega)
                have q3 : (0 ≤ (line.length : Int)) = True := eq_true (by omega)
                go_wp2
                have HF := Aside0.mk (show EX w w.heap.size (w.heap.size + 1 + 1) (w.heap.size + 1) A c line.length (stepV line (.single S) E) (wr.setCell ⟨w.heap.size + 1, line.length, none⟩ (.int .i64 (-1))) by
                  have h := HL.out.1.put line.length (-1)
                  have hl_ := HL.out.1.len
                  rwa [show E'.set line.length (-1) = stepV line (.single S) E from rd_ext (by rw [h.len]; simp [stepV]) (fun j hj => by
                    rw [h.len] at hj
                    rw [rd_set E' _ _ (by omega) (by omega)]
                    refine Eq.trans ?_ (rd_gen _ (fun i : Nat => if i < line.length ∧ S (rd line (i : Int)).toNat = true then rd E ((i : Int) + 1) else -1) hj).symm
                    by_cases e : (j : Int) = (line.length : Int)
                    · rw [if_pos e, if_neg (fun h => by omega)]
                    · rw [if_neg e, HL.out.2.2.2.1 j (by omega)]
                      by_cases eS : S (rd line (j : Int)).toNat = true
                      · rw [if_pos eS, if_pos ⟨by omega, eS⟩]
                      · rw [if_neg eS, if_neg (fun h => eS h.2)])] at h)
                clear HL
                go_roundg d
                case measure => omega
                case rel =>
                  refine ⟨by go_num, by omega, ⟨?_⟩⟩
                  rw [HV.out]
                  exact HF.out
          | many sb S =>
            simp only [enc] at hth
            have te0 := te_many_single
            have te1 := te_many_many
            have HB := Aside0.mk (And.intro (HA.out.alloc (.cells #[.pointer (some ⟨sb, 0, none⟩)] 97)) (And.intro (blk_new wr (.cells #[.pointer (some ⟨sb, 0, none⟩)] 97)) (blk_alloc HS.out (.cells #[.pointer (some ⟨sb, 0, none⟩)] 97))))
            have hxb : w.heap.size ≤ wr.heap.size := HA.out.below.size
            have cl := HB.out.1.cl
            go_wp2
            clear HA cb cl cp hth HS te0 te1
            generalize wr.heap.size = xb at HB hxb ⊢
            generalize (wr.alloc (.cells #[.pointer (some ⟨sb, 0, none⟩)] 97)) = W at HB ⊢
            go_loopg [12] line.length (fun g v12 wl => ∃ E' : List Int, v12 = .int .i64 ((g : Int) - 1) ∧ g ≤ line.length ∧ Aside0 (EX w w.heap.size (w.heap.size + 1 + 1) (w.heap.size + 1) A c line.length E' wl ∧ wl.heap[xb]? = some (.cells #[.pointer (some ⟨sb, 0, none⟩)] 97 (0, 0)) ∧ wl.heap[sb]? = some (.cells (bset S) 112 (0, 0)) ∧ (∀ j : Nat, j < g → rd E' (j : Int) = rd E (j : Int)) ∧ (∀ j : Nat, g ≤ j → j ≤ line.length → rd E' (j : Int) = mx line S E (line.length - j) j)))
            case atStart =>
              have h0 : ∀ j : Nat, line.length ≤ j → j ≤ line.length → rd E (j : Int) = mx line S E (line.length - j) j := by
                intro j h1 h2
                have e : j = line.length := by omega
                rw [e, Nat.sub_self]
                rfl
              exact ⟨E, rfl, Nat.le_refl _, ⟨HB.out.1, HB.out.2.1, HB.out.2.2, fun j _ => rfl, h0⟩⟩
            case round =>
              obtain ⟨E', rfl, hg2, HL⟩ := hrel
              clear HB
              cases gk with
              | zero =>
                have HF := Aside0.mk (show EX w w.heap.size (w.heap.size + 1 + 1) (w.heap.size + 1) A c line.length (stepV line (.many S) E) wr by
                  have h := HL.out.1
                  rwa [show E' = stepV line (.many S) E from rd_ext (by rw [h.len]; simp [stepV]) (fun j hj => by
                    rw [h.len] at hj
                    rw [HL.out.2.2.2.2 j (by omega) (by omega)]
                    exact (rd_gen _ (fun i : Nat => mx line S E (line.length - i) i) hj).symm)] at h)
                clear HL
                go_wp2
                go_roundg d
                case measure => omega
                case rel =>
                  refine ⟨by go_num, by omega, ⟨?_⟩⟩
                  rw [HV.out]
                  exact HF.out
              | succ k =>
                have hd1 : decide (0 ≤ ((k + 1 : Nat) : Int) - 1) = true := decide_eq_true (by omega)
                rw [show ((k + 1 : Nat) : Int) - 1 = (k : Int) from by omega] at hd1 ⊢
                have cl := HL.out.1.cl
                have cb := HL.out.1.cb
                have cx : wr.cell? ⟨xb, 0, none⟩ = some (.pointer (some ⟨sb, 0, none⟩)) := (blk_cell HL.out.2.1 0).trans rfl
                have q3 : (0 ≤ (k : Int)) = True := eq_true (by omega)
                have q4 : ((k : Int) < (line.length : Int) + 1) = True := eq_true (by omega)
                have q5 : ((k : Int) < (line.length : Int)) = True := eq_true (by omega)
                have q6 : ((k : Int) + 1 < (line.length : Int) + 1) = True := eq_true (by omega)
                have fk := blk_frozen HL.out.1.row k
                have ck := HL.out.1.cr (show k ≤ line.length by omega)
                have ck1 := HL.out.1.cr (show k + 1 ≤ line.length by omega)
                have hb := HP.out.2.2.2.1 (k : Int)
                obtain ⟨ad2, rfl, cby⟩ := Kd.at_int (Kd.C_below HP.out.2.2.1 HL.out.1.below) (k : Int) (by omega) (by omega)
                rw [Int.toNat_natCast] at cby
                have cs : wr.cell? ⟨sb, (rd line (k : Int)).toNat, none⟩ = some (.bool (S (rd line (k : Int)).toNat)) := (blk_cell HL.out.2.2.1 _).trans (bset_get (by omega))
                rw [HL.out.2.2.2.1 k (by omega)] at ck
                rw [HL.out.2.2.2.2 (k + 1) (by omega) (by omega)] at ck1
                have HM := Aside0.mk (show mx line S E (line.length - k) k = if S (rd line (k : Int)).toNat = true then max (rd E (k : Int)) (mx line S E (line.length - (k + 1)) (k + 1)) else rd E (k : Int) by
                  rw [show line.length - k = (line.length - (k + 1)) + 1 from by omega]; rfl)
                generalize mx line S E (line.length - (k + 1)) (k + 1) = M at ck1 HM
                cases eS : S (rd line (k : Int)).toNat
                · rw [eS] at cs HM
                  go_wp2
                  go_quiet (fail)
                  go_wp2
                  go_roundg k
                  case measure => omega
                  case rel =>
                    refine ⟨E', by go_num, by omega, ⟨HL.out.1.drew _, blk_drewN HL.out.2.1 _, blk_drewN HL.out.2.2.1 _, fun j hj => HL.out.2.2.2.1 j (by omega), fun j h1 h2 => ?_⟩⟩
                    by_cases e : j = k
                    · subst e
                      rw [HL.out.2.2.2.1 j (by omega), HM.out]; rfl
                    · exact HL.out.2.2.2.2 j (by omega) h2
                · rw [eS] at cs HM
                  go_wp2
                  go_quiet (fail)
                  go_wp2
                  go_region
                  all_goals go_wp2
                  all_goals go_roundg k
                  case measure => omega
                  case rel =>
                    have hl_ := HL.out.1.len
                    refine ⟨E'.set k (max (rd E (k : Int)) M), by go_num, by omega, ⟨(HL.out.1.drew _).put k _, (HL.out.1.drew _).far (blk_drewN HL.out.2.1 _) (by decide) k _, (HL.out.1.drew _).far (blk_drewN HL.out.2.2.1 _) (by decide) k _, fun j hj => ?_, fun j h1 h2 => ?_⟩⟩
                    · rw [rd_set E' _ _ (by omega) (by omega), if_neg (by omega)]
                      exact HL.out.2.2.2.1 j (by omega)
                    · rw [rd_set E' _ _ (by omega) (by omega)]
                      by_cases e : j = k
                      · subst e
                        rw [if_pos rfl, HM.out]; rfl
                      · rw [if_neg (by omega)]
                        exact HL.out.2.2.2.2 j (by omega) h2
          | front =>
            simp only [enc] at hth
            have te0 := te_front_single
            have te1 := te_front_many
            have te2 := te_front_front
            go_wp2_with (go_at_call 54; refine (only_front (HA.out.alloc _) HP.out.2.2.1 HP.out.2.2.2.2.2 HP.out.2.2.2.1 (by omega)).mono ?_; rintro e w' ⟨rfl, hx⟩; have HX := Aside0.mk hx; clear hx)
            go_roundg d
            case measure => omega
            case rel =>
              refine ⟨by go_num, by omega, ⟨?_⟩⟩
              rw [HV.out]
              exact HX.out
          | back =>
            simp only [enc] at hth
            have te0 := te_back_single
            have te1 := te_back_many
            have te2 := te_back_front
            have te3 := te_back_back
            go_wp2_with (go_at_call 54; refine (only_back (HA.out.alloc _) HP.out.2.2.1 HP.out.2.2.2.2.2 HP.out.2.2.2.1 (by omega)).mono ?_; rintro e w' ⟨rfl, hx⟩; have HX := Aside0.mk hx; clear hx)
            go_roundg d
            case measure => omega
            case rel =>
              refine ⟨by go_num, by omega, ⟨?_⟩⟩
              rw [HV.out]
              exact HX.out
          | opens =>
            simp only [enc] at hth
            have te0 := te_opens_single
            have te1 := te_opens_many
            have te2 := te_opens_front
            have te3 := te_opens_back
            have te4 := te_opens_opens
            go_wp2_with (go_at_call 54; refine (only_opens (HA.out.alloc _) HP.out.2.2.1 HP.out.2.2.2.2.2 HP.out.2.2.2.1 (by omega)).mono ?_; rintro e w' ⟨rfl, hx⟩; have HX := Aside0.mk hx; clear hx)
            go_roundg d
            case measure => omega
            case rel =>
              refine ⟨by go_num, by omega, ⟨?_⟩⟩
              rw [HV.out]
              exact HX.out
          | closes =>
            simp only [enc] at hth
            have te0 := te_closes_single
            have te1 := te_closes_many
            have te2 := te_closes_front
            have te3 := te_closes_back
            have te4 := te_closes_opens
            have te5 := te_closes_closes
            go_wp2_with (go_at_call 54; refine (only_closes (HA.out.alloc _) HP.out.2.2.1 HP.out.2.2.2.2.2 HP.out.2.2.2.1 (by omega)).mono ?_; rintro e w' ⟨rfl, hx⟩; have HX := Aside0.mk hx; clear hx)
            go_roundg d
            case measure => omega
            case rel =>
              refine ⟨by go_num, by omega, ⟨?_⟩⟩
              rw [HV.out]
              exact HX.out
end Go.Proofs.YtffpkldphkmjmaaDoor.PT
