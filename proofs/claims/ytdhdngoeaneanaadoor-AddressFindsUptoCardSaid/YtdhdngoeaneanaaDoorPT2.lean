/-
  Patterns, by hand: what a * makes of the thing ahead of it.
-/
import Derived.Test.YtdhdngoeaneanaaDoorPT1
import Derived.Deep.RegionHeld3
import Derived.Deep.AppendLies
namespace Go.Proofs.YtdhdngoeaneanaaDoor.PT
open Go.RowKit Go.Proofs.YtdhdngoeaneanaaDoorW.PrintWords Go.Proofs.YtdhdngoeaneanaaDoorW.PrintMore
set_option maxHeartbeats 2000000 in
set_option maxRecDepth 100000 in
/-- star where nothing stands ahead: it stands for itself. -/
theorem star_empty {w0 w : World} {r : Nat} {A : Option Addr} {c : Nat} {p : List Int} {at_ fault : Int} {l : List Th} (h : RI w0 r A c p at_ fault l w) (hl0 : l = []) :
    Calls Tryd.prog 64 #[.pointer (some ⟨r, 0, none⟩)] w fun e w' => e = .returned (.tuple #[]) ∧ ∃ k, RI w0 r A c p at_ fault (l ++ [.single k fun j => j == (42 : Int).toNat]) w' := by
  have H := Aside0.mk h
  obtain ⟨A0, c0, BK, _⟩ := h.own
  have c2 : w.cell? ⟨r, 2, none⟩ = some (.slice A0 l.length c0) := (blk_cell BK 2).trans rfl
  have hl : l.length ≤ 1000 := by rw [hl0]; simp
  have hlz : ((l.length : Int) == 0) = true := by rw [hl0]; rfl
  clear BK hl0 h
  go_enter Tryd.func64, Tryd.ntmps64
  go_upto_region 1 with (fail)
  have HW := H.out
  clear c2 H
  generalize w = W at HW ⊢
  obtain ⟨A1, c1, BK, HK, HO, HN⟩ := HW.own
  have c2 : W.cell? ⟨r, 2, none⟩ = some (.slice A1 l.length c1) := (blk_cell BK 2).trans rfl
  have f2 := blk_frozen BK 2
  have hsz := HW.below.size
  have hrl := blk_lt BK
  have HH := Aside0.mk (And.intro HW (And.intro BK HO))
  have HX := Aside0.mk (And.intro HK HN)
  clear HW BK HO HK HN
  obtain ⟨i0, hi, hz0, hz1, hz2⟩ := info_parts infoT
  have HI := Aside0.mk (And.intro hi (And.intro hz0 (And.intro hz1 hz2)))
  clear hi hz0 hz1 hz2
  go_region_law
    (first
      | (go_simp; go_at_call 66; refine (one_calls 42 (by decide) _).mono ?_; rintro e w' ⟨rfl, rfl⟩)
      | (refine step_append_lies _ (by rfl) _ _ _ (by rfl) w0.heap.size 121 i0 .nilIface 1 16 Tryd.underlying73 HI.out.1 HI.out.2.1 HI.out.2.2.1 HI.out.2.2.2 rfl (by omega) (.slice A1 l.length c1) l.length (encs enc l) (by rfl) (((HH.out.2.2.alloc _).alloc _).drew)
          ⟨W.heap.size + 1, 0, none⟩ 1 1 [enc (.single W.heap.size (fun j => j == (42 : Int).toNat))] (by rfl) (by rfl) (World.news_of_block (cs := #[enc (.single W.heap.size (fun j => j == (42 : Int).toNat))]) (t := 121) (fr := (0, 0)) (by have h_ := heap_alloc_new (W.alloc (.cells (bset (fun j => j == (42 : Int).toNat)) 120)) (.cells #[enc (.single W.heap.size (fun j => j == (42 : Int).toNat))] 121); rw [World.size_alloc] at h_; exact h_)) (by intro u hu; rw [List.mem_singleton.1 hu]; rfl)
          (by omega) (by simp only [maxLen]; omega) (by omega) (by simp only [World.size_alloc, World.drew]; omega) (W.heap.size + 2) (by simp) ?_; intro gg cap w1 hown1 hgrow hat hlt; have BK1 := blk_grown (blk_drew (blk_alloc (blk_alloc HH.out.2.1 _) _)) hgrow HX.out.2; have c9 : w1.cell? ⟨r, 2, none⟩ = some (.slice A1 l.length c1) := (blk_cell BK1 2).trans rfl; have f9 := blk_frozen BK1 2; have HG := Aside0.mk (And.intro hown1 hgrow); clear hown1 hgrow hat hlt BK1))
  all_goals go_wp2
  all_goals
    refine bodyPost_ret (v := .tuple #[]) (by simp [results, Tryd.results64, go_sem]) rfl (And.intro rfl ?_)
    exact ⟨W.heap.size, RI.push HH.out.1 HH.out.2.1 HX.out.1 (below_drew1 (below_alloc (below_alloc (Below.refl _ _) _) _)) (blk_drew (blk_alloc (blk_new _ _) _)) HG.out.1 HG.out.2⟩
theorem RI.mv {w0 w w' : World} {r : Nat} {A : Option Addr} {c : Nat} {p : List Int} {at_ fault : Int} {l : List Th} (h : RI w0 r A c p at_ fault l w) (hb : Below w.heap.size w w') : RI w0 r A c p at_ fault l w' := by
  obtain ⟨HB, GE, ⟨ov, BK, HO⟩, HS⟩ := h
  exact ⟨below_step HB hb, GE, ⟨ov, blk_below BK hb, Kd.R_below HO hb⟩, fun x hx => SetAt_below (HS x hx) hb⟩
/-- The last thing's cell. -/
theorem RI.lastc {w0 w : World} {r : Nat} {A : Option Addr} {c : Nat} {p : List Int} {at_ fault : Int} {l : List Th} {x : Th} (h : RI w0 r A c p at_ fault (l ++ [x]) w) : ∃ g cap cur, w.heap[r]? = some (.cells #[.slice A p.length c, .int .i64 at_, .slice (some ⟨g, 0, none⟩) (l.length + 1) cap, .int .i64 fault] 75 (0, 0)) ∧ kTh.R 121 w w0.heap.size (fun _ => True) (.slice (some ⟨g, 0, none⟩) (l.length + 1) cap) (l ++ [x]) ∧ w.heap[g]? = some (.cells cur 121 (0, 0)) ∧ w.cell? ⟨g, l.length, none⟩ = some (enc x) := by
  obtain ⟨HB, GE, ⟨ov, BK, HO⟩, HS⟩ := h
  have ho := Kd.own_of_R HO
  rcases ho.2 with ⟨_, hn⟩ | ⟨g, cap, cur, e, hg, hh, hrow⟩
  · exfalso; simp at hn
  · have hlen : (l ++ [x]).length = l.length + 1 := by simp
    rw [hlen] at e
    subst e
    obtain ⟨A', c', e', _, hC⟩ := Kd.R_reads HO
    obtain ⟨ad, cs, ea, _, hK, hc⟩ := Kd.C_get hC .front (l.length : Int) (by omega) (by rw [hlen]; omega)
    have hx : (l ++ [x]).getD (l.length : Int).toNat Th.front = x := by rw [Int.toNat_natCast]; simp
    rw [hx] at hK
    have hK' : cs = [enc x] := hK
    subst hK'
    have hcell := hc 0 (enc x) rfl
    injection e' with e1 _ _
    subst ea
    injection e1 with e1
    subst e1
    refine ⟨g, cap, cur, BK, HO, hh, ?_⟩
    rw [Int.toNat_natCast] at hcell
    have hsz : kTh.sz = 1 := rfl
    rw [hsz] at hcell
    rw [show (⟨g, 0, none⟩ : Addr).add (l.length * 1 + 0) = ⟨g, l.length, none⟩ from by rw [Nat.mul_one, Nat.add_zero]; unfold Addr.add; split <;> rename_i h_ <;> first | rfl | (simp at h_ ⊢; omega) | (cases l <;> simp_all)] at hcell
    exact hcell
/-- The last thing turned into another one. -/
theorem RI.putLast {w0 w : World} {r : Nat} {A : Option Addr} {c : Nat} {p : List Int} {at_ fault : Int} {l : List Th} {x y : Th} {g cap : Nat} {cur : Array Value} (h : RI w0 r A c p at_ fault (l ++ [x]) w) (BK : w.heap[r]? = some (.cells #[.slice A p.length c, .int .i64 at_, .slice (some ⟨g, 0, none⟩) (l.length + 1) cap, .int .i64 fault] 75 (0, 0))) (HO : kTh.R 121 w w0.heap.size (fun _ => True) (.slice (some ⟨g, 0, none⟩) (l.length + 1) cap) (l ++ [x])) (hg : w.heap[g]? = some (.cells cur 121 (0, 0))) (hy : SetAt w y) : RI w0 r A c p at_ fault (l ++ [y]) (w.setCell ⟨g, l.length, none⟩ (enc y)) := by
  obtain ⟨HB, GE, _, HS⟩ := h
  have hlen : (l ++ [x]).length = l.length + 1 := by simp
  have hgb : w0.heap.size ≤ g := own_base (Kd.own_of_R HO) g rfl
  have hgr : r ≠ g := blk_ne BK hg (by decide)
  have HO' : kTh.R 121 w w0.heap.size (fun _ => True) (.slice (some ⟨g, 0, none⟩) (l ++ [x]).length cap) (l ++ [x]) := by rw [hlen]; exact HO
  have HP := (Kd.R_put HO' (l.length : Int) y).1
  rw [Int.toNat_natCast, show (l ++ [x]).set l.length y = l ++ [y] from by rw [List.set_append_right _ _ (Nat.le_refl _), Nat.sub_self]; rfl, hlen] at HP
  refine ⟨below_set HB hgb, GE, ⟨_, blk_far BK hgr _, HP⟩, Sets_far (fun z hz => ?_) hg (by decide) _ _⟩
  rcases List.mem_append.1 hz with hz | hz
  · exact HS z (List.mem_append_left _ hz)
  · rw [List.mem_singleton.1 hz]; exact hy
theorem ta_ss (v : Value) (w : World) : (Instr.typeAssert (.iface 101 v) 121 101 true).run Tryd.prog w = .ok (.tuple #[v, .bool true]) w := by kernel_rfl
theorem ta_fs (v : Value) (w : World) : (Instr.typeAssert (.iface 96 v) 121 101 true).run Tryd.prog w = .ok (.tuple #[.agg #[.pointer none], .bool false]) w := by kernel_rfl
theorem ta_ff (v : Value) (w : World) : (Instr.typeAssert (.iface 96 v) 121 96 true).run Tryd.prog w = .ok (.tuple #[v, .bool true]) w := by kernel_rfl
set_option maxHeartbeats 2000000 in
set_option maxRecDepth 100000 in
/-- star behind one of a set: any number of them. -/
theorem star_single {w0 w : World} {r : Nat} {A : Option Addr} {c : Nat} {p : List Int} {at_ fault : Int} {l : List Th} {k : Nat} {S : Nat → Bool} (h : RI w0 r A c p at_ fault (l ++ [.single k S]) w) (hl : l.length ≤ 1000) :
    Calls Tryd.prog 64 #[.pointer (some ⟨r, 0, none⟩)] w fun e w' => e = .returned (.tuple #[]) ∧ RI w0 r A c p at_ fault (l ++ [.many k S]) w' := by
  have H := Aside0.mk h
  obtain ⟨g, cap, cur, BK, HO, hg, hx⟩ := h.lastc
  have c2 : w.cell? ⟨r, 2, none⟩ = some (.slice (some ⟨g, 0, none⟩) (l.length + 1) cap) := (blk_cell BK 2).trans rfl
  have hx2 : w.cell? ⟨g, l.length, none⟩ = some (.iface 101 (.agg #[.pointer (some ⟨k, 0, none⟩)])) := hx
  have fg := blk_frozen hg l.length
  have hrl := blk_lt BK
  have hgl := blk_lt hg
  have HH := Aside0.mk (And.intro BK (And.intro HO hg))
  have ta := ta_ss
  clear BK HO hg hx h
  go_enter Tryd.func64, Tryd.ntmps64
  go_wp2
  have HW := H.out.mv (below_alloc (Below.refl _ _) (.cells #[.pointer (some ⟨k, 0, none⟩)] 101))
  have BK := blk_alloc HH.out.1 (.cells #[.pointer (some ⟨k, 0, none⟩)] 101)
  have HO := Kd.R_below HH.out.2.1 (below_alloc (Below.refl _ _) (.cells #[.pointer (some ⟨k, 0, none⟩)] 101))
  have hg := blk_alloc HH.out.2.2 (.cells #[.pointer (some ⟨k, 0, none⟩)] 101)
  have hn : (w.alloc (.cells #[.pointer (some ⟨k, 0, none⟩)] 101)).cell? ⟨w.heap.size, 0, none⟩ = some (.pointer (some ⟨k, 0, none⟩)) := (blk_cell (blk_new w _) 0).trans rfl
  clear c2 hx2 fg hrl hgl H HH ta
  generalize w.heap.size = z at hn ⊢
  generalize (w.alloc (.cells #[.pointer (some ⟨k, 0, none⟩)] 101)) = W at HW BK HO hg hn ⊢
  have c2 : W.cell? ⟨r, 2, none⟩ = some (.slice (some ⟨g, 0, none⟩) (l.length + 1) cap) := (blk_cell BK 2).trans rfl
  have hx : W.cell? ⟨g, l.length, none⟩ = some (.iface 101 (.agg #[.pointer (some ⟨k, 0, none⟩)])) := by
    obtain ⟨g', cap', cur', BK', _, _, hx'⟩ := HW.lastc
    rw [BK] at BK'
    simp only [Option.some.injEq, Obj.cells.injEq] at BK'
    have e := BK'.1
    simp only [Array.mk.injEq, List.cons.injEq, Value.slice.injEq, Option.some.injEq, Addr.mk.injEq] at e
    have e2 : g' = g := e.2.2.1.1.1.symm
    rw [e2] at hx'
    exact hx'
  have fg := blk_frozen hg l.length
  have HH := Aside0.mk (And.intro HW (And.intro BK (And.intro HO hg)))
  clear HW BK HO hg
  go_region
  all_goals go_wp2
  all_goals
    refine bodyPost_end (v := .tuple #[]) (by simp [results, Tryd.results64, go_sem]) rfl (And.intro rfl ?_)
    exact RI.putLast (HH.out.1.drew 1) (blk_drewN HH.out.2.1 1) (Kd.R_drewN HH.out.2.2.1 1) (blk_drewN HH.out.2.2.2 1) (show SetAt (W.drewN 1) (.many k S) from (HH.out.1.drew 1).sets (.single k S) (List.mem_append_right _ (List.mem_singleton.2 rfl)))
theorem ta_ns {T : Nat} (hT : T = 122 ∨ T = 97 ∨ T = 123 ∨ T = 124) (v : Value) (w : World) : (Instr.typeAssert (.iface T v) 121 101 true).run Tryd.prog w = .ok (.tuple #[.agg #[.pointer none], .bool false]) w := by
  rcases hT with rfl | rfl | rfl | rfl <;> kernel_rfl
theorem ta_nf {T : Nat} (hT : T = 122 ∨ T = 97 ∨ T = 123 ∨ T = 124) (v : Value) (w : World) : (Instr.typeAssert (.iface T v) 121 96 true).run Tryd.prog w = .ok (.tuple #[.agg #[], .bool false]) w := by
  rcases hT with rfl | rfl | rfl | rfl <;> kernel_rfl
def isOther : Th → Prop
  | .many _ _ => True
  | .back => True
  | .opens => True
  | .closes => True
  | _ => False
set_option maxHeartbeats 2000000 in
set_option maxRecDepth 100000 in
/-- star behind a thing that takes none: a fault. -/
theorem star_other {w0 w : World} {r : Nat} {A : Option Addr} {c : Nat} {p : List Int} {at_ fault : Int} {l : List Th} {x : Th} (h : RI w0 r A c p at_ fault (l ++ [x]) w) (hl : l.length ≤ 1000) (ho : isOther x) (hm : 1 ≤ at_ ∧ at_ ≤ 1000) :
    Calls Tryd.prog 64 #[.pointer (some ⟨r, 0, none⟩)] w fun e w' => e = .returned (.tuple #[]) ∧ RI w0 r A c p at_ (at_ - 1) (l ++ [x]) w' := by
  have H := Aside0.mk h
  obtain ⟨g, cap, cur, BK, HO, hg, hx⟩ := h.lastc
  have c1 : w.cell? ⟨r, 1, none⟩ = some (.int .i64 at_) := (blk_cell BK 1).trans rfl
  have c2 : w.cell? ⟨r, 2, none⟩ = some (.slice (some ⟨g, 0, none⟩) (l.length + 1) cap) := (blk_cell BK 2).trans rfl
  have c3 : w.cell? ⟨r, 3, none⟩ = some (.int .i64 fault) := (blk_cell BK 3).trans rfl
  have f3 := blk_frozen BK 3
  obtain ⟨T, v, hT, hx2⟩ : ∃ T v, (T = 122 ∨ T = 97 ∨ T = 123 ∨ T = 124) ∧ w.cell? ⟨g, l.length, none⟩ = some (.iface T v) := by
    cases x with
    | single k S => exact ho.elim
    | front => exact ho.elim
    | many k S => exact ⟨_, _, .inl rfl, hx⟩
    | back => exact ⟨_, _, .inr (.inl rfl), hx⟩
    | opens => exact ⟨_, _, .inr (.inr (.inl rfl)), hx⟩
    | closes => exact ⟨_, _, .inr (.inr (.inr rfl)), hx⟩
  have ta := ta_ns hT
  have tb := ta_nf hT
  have hrl := blk_lt BK
  have HT := Aside0.mk hT
  clear BK HO hg hx h hT
  go_enter Tryd.func64, Tryd.ntmps64
  go_wp2
  first
    | refine bodyPost_end (v := .tuple #[]) (by simp [results, Tryd.results64, go_sem]) rfl (And.intro rfl ?_)
    | refine bodyPost_ret (v := .tuple #[]) (by simp [results, Tryd.results64, go_sem]) rfl (And.intro rfl ?_)
  exact H.out.setFault _
set_option maxHeartbeats 2000000 in
set_option maxRecDepth 100000 in
/-- star behind the line's beginning: it stands for itself. -/
theorem star_front {w0 w : World} {r : Nat} {A : Option Addr} {c : Nat} {p : List Int} {at_ fault : Int} {l0 l : List Th} (h : RI w0 r A c p at_ fault l w) (hl0 : l = l0 ++ [.front]) (hl : l.length ≤ 1000) :
    Calls Tryd.prog 64 #[.pointer (some ⟨r, 0, none⟩)] w fun e w' => e = .returned (.tuple #[]) ∧ ∃ k, RI w0 r A c p at_ fault (l ++ [.single k fun j => j == (42 : Int).toNat]) w' := by
  have H := Aside0.mk h
  have h' := h
  rw [hl0] at h'
  obtain ⟨g, cap, cur, BK, HO, hg, hx⟩ := h'.lastc
  have c2 : w.cell? ⟨r, 2, none⟩ = some (.slice (some ⟨g, 0, none⟩) (l0.length + 1) cap) := (blk_cell BK 2).trans rfl
  have hx2 : w.cell? ⟨g, l0.length, none⟩ = some (.iface 96 (.agg #[])) := hx
  have hl2 : l0.length ≤ 1000 := by rw [hl0] at hl; simp at hl; omega
  have hrl := blk_lt BK
  have ta := ta_fs
  have tb := ta_ff
  clear BK HO hg hx h h' hl0
  go_enter Tryd.func64, Tryd.ntmps64
  go_upto_region 11 with (fail)
  have HW := H.out.mv (below_alloc (Below.refl _ _) (.cells #[] 96))
  clear c2 hx2 H hrl ta tb
  generalize w.heap.size = z
  generalize (w.alloc (.cells #[] 96)) = W at HW ⊢
  obtain ⟨A1, c1, BK, HK, HO, HN⟩ := HW.own
  have c2 : W.cell? ⟨r, 2, none⟩ = some (.slice A1 l.length c1) := (blk_cell BK 2).trans rfl
  have f2 := blk_frozen BK 2
  have hsz := HW.below.size
  have hrl := blk_lt BK
  have HH := Aside0.mk (And.intro HW (And.intro BK HO))
  have HX := Aside0.mk (And.intro HK HN)
  clear HW BK HO HK HN
  obtain ⟨i0, hi, hz0, hz1, hz2⟩ := info_parts infoT
  have HI := Aside0.mk (And.intro hi (And.intro hz0 (And.intro hz1 hz2)))
  clear hi hz0 hz1 hz2
  go_region_law
    (first
      | (go_simp; go_at_call 66; refine (one_calls 42 (by decide) _).mono ?_; rintro e w' ⟨rfl, rfl⟩)
      | (refine step_append_lies _ (by rfl) _ _ _ (by rfl) w0.heap.size 121 i0 .nilIface 1 16 Tryd.underlying73 HI.out.1 HI.out.2.1 HI.out.2.2.1 HI.out.2.2.2 rfl (by omega) (.slice A1 l.length c1) l.length (encs enc l) (by rfl) (((HH.out.2.2.alloc _).alloc _).drew)
          ⟨W.heap.size + 1, 0, none⟩ 1 1 [enc (.single W.heap.size (fun j => j == (42 : Int).toNat))] (by rfl) (by rfl) (World.news_of_block (cs := #[enc (.single W.heap.size (fun j => j == (42 : Int).toNat))]) (t := 121) (fr := (0, 0)) (by have h_ := heap_alloc_new (W.alloc (.cells (bset (fun j => j == (42 : Int).toNat)) 120)) (.cells #[enc (.single W.heap.size (fun j => j == (42 : Int).toNat))] 121); rw [World.size_alloc] at h_; exact h_)) (by intro u hu; rw [List.mem_singleton.1 hu]; rfl)
          (by omega) (by simp only [maxLen]; omega) (by omega) (by simp only [World.size_alloc, World.drew]; omega) (W.heap.size + 2) (by simp) ?_; intro gg cap w1 hown1 hgrow hat hlt; have BK1 := blk_grown (blk_drew (blk_alloc (blk_alloc HH.out.2.1 _) _)) hgrow HX.out.2; have c9 : w1.cell? ⟨r, 2, none⟩ = some (.slice A1 l.length c1) := (blk_cell BK1 2).trans rfl; have f9 := blk_frozen BK1 2; have HG := Aside0.mk (And.intro hown1 hgrow); clear hown1 hgrow hat hlt BK1))
  all_goals go_wp2
  all_goals
    refine bodyPost_end (v := .tuple #[]) (by simp [results, Tryd.results64, go_sem]) rfl (And.intro rfl ?_)
    exact ⟨W.heap.size, RI.push HH.out.1 HH.out.2.1 HX.out.1 (below_drew1 (below_alloc (below_alloc (Below.refl _ _) _) _)) (blk_drew (blk_alloc (blk_new _ _) _)) HG.out.1 HG.out.2⟩
end Go.Proofs.YtdhdngoeaneanaaDoor.PT
