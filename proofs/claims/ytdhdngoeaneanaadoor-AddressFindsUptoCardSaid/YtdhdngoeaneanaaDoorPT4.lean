/-
  Patterns, by hand: one thing more.
-/
import Derived.Test.YtdhdngoeaneanaaDoorPT3
import Derived.Deep.RegionHeld3
import Derived.Deep.AppendLies
namespace Go.Proofs.YtdhdngoeaneanaaDoor.PT
open Go.RowKit Go.Proofs.YtdhdngoeaneanaaDoorW.PrintWords Go.Proofs.YtdhdngoeaneanaaDoorW.PrintMore
set_option linter.unusedVariables false
theorem RI.up1 {w0 w : World} {r a : Nat} {A : Option Addr} {c : Nat} {p : List Int} {fault : Int} {l : List Th} (h : RI w0 r A c p ((a : Int) + 1) fault l w) : RI w0 r A c p ((a + 1 : Nat) : Int) fault l w := by
  rw [show ((a + 1 : Nat) : Int) = (a : Int) + 1 from by omega]
  exact h
set_option maxHeartbeats 2000000 in
set_option maxRecDepth 100000 in
/-- next: a byte that stands for itself. -/
theorem next_byte {w0 w : World} {r : Nat} {A : Option Addr} {c : Nat} {p : List Int} {a : Nat} {fault : Int} {l : List Th} (h : RI w0 r A c p (a : Int) fault l w) (hr : Kd.C (Kd.int .u8) w0 A p.length p) (ha : a < p.length) (hp : p.length ≤ 256) (hl : l.length ≤ 1000) (hu : 0 ≤ rd p (a : Int) ∧ rd p (a : Int) ≤ 255) (h94 : rd p (a : Int) ≠ 94) (h36 : rd p (a : Int) ≠ 36) (h46 : rd p (a : Int) ≠ 46) (h91 : rd p (a : Int) ≠ 91) (h42 : rd p (a : Int) ≠ 42) (h92 : rd p (a : Int) ≠ 92) :
    Calls Tryd.prog 41 #[.pointer (some ⟨r, 0, none⟩)] w fun e w' => e = .returned (.tuple #[]) ∧ ∃ k, RI w0 r A c p ((a + 1 : Nat) : Int) fault (l ++ [.single k fun j => j == (rd p (a : Int)).toNat]) w' := by
  have H := Aside0.mk h
  obtain ⟨ad, rfl, hb⟩ := h.at_byte hr (Int.natCast_nonneg a) (by omega)
  rw [Int.toNat_natCast] at hb
  obtain ⟨HB, GE, ⟨ov, BK, HO⟩, HS⟩ := h
  have c0 : w.cell? ⟨r, 0, none⟩ = some (.slice (some ad) p.length c) := (blk_cell BK 0).trans rfl
  have c1 : w.cell? ⟨r, 1, none⟩ = some (.int .i64 (a : Int)) := (blk_cell BK 1).trans rfl
  have f1 := blk_frozen BK 1
  have q2 : (((a : Int)) < (p.length : Int)) = True := eq_true (by omega)
  clear HB GE BK HO HS
  have e94 : (rd p (a : Int) == 94) = false := beq_eq_false_iff_ne.mpr h94
  have e36 : (rd p (a : Int) == 36) = false := beq_eq_false_iff_ne.mpr h36
  have e46 : (rd p (a : Int) == 46) = false := beq_eq_false_iff_ne.mpr h46
  have e91 : (rd p (a : Int) == 91) = false := beq_eq_false_iff_ne.mpr h91
  have e42 : (rd p (a : Int) == 42) = false := beq_eq_false_iff_ne.mpr h42
  have e92 : (rd p (a : Int) == 92) = false := beq_eq_false_iff_ne.mpr h92
  generalize rd p (a : Int) = b at *
  clear h94 h36 h46 h91 h42 h92
  go_enter Tryd.func41, Tryd.ntmps41
  go_wp2
  go_quiet (fail)
  rename Nat => n1
  go_upto_region 5 with (fail)
  have HW := RI.up1 ((H.out.drew n1).setAt ((a : Int) + 1))
  clear c0 c1 f1 hb H q2
  generalize ((w.drewN n1).setCell ⟨r, 1, none⟩ (.int .i64 ((a : Int) + 1))) = W at HW ⊢
  go_quiet (fail)
  go_upto_region 2 with (fail)
  replace HW := HW.drew nq
  generalize (W.drewN nq) = W at HW ⊢
  obtain ⟨A1, c1, BK, HK, HO, HN⟩ := HW.own
  have c2 : W.cell? ⟨r, 2, none⟩ = some (.slice A1 l.length c1) := (blk_cell BK 2).trans rfl
  have f2 := blk_frozen BK 2
  have hsz := HW.below.size
  have hrl := blk_lt BK
  have HH := Aside0.mk (And.intro HW (And.intro BK HO))
  have HX := Aside0.mk (And.intro HK HN)
  clear HW BK HO HK HN
  obtain ⟨i0, hi, hz0, hz1, hz2⟩ := info_parts infoT
  have HI := Aside0.mk (And.intro hi (And.intro hz0 (And.intro hz1 hz2)))
  clear hi hz0 hz1 hz2
  go_region_law
    (first
      | (go_simp; go_at_call 66; refine (one_calls b hu _).mono ?_; rintro e w' ⟨rfl, rfl⟩)
      | (refine step_append_lies _ (by rfl) _ _ _ (by rfl) w0.heap.size 121 i0 .nilIface 1 16 Tryd.underlying73 HI.out.1 HI.out.2.1 HI.out.2.2.1 HI.out.2.2.2 rfl (by omega) (.slice A1 l.length c1) l.length (encs enc l) (by rfl) (((HH.out.2.2.alloc _).alloc _).drew)
          ⟨W.heap.size + 1, 0, none⟩ 1 1 [enc (.single W.heap.size (fun j => j == b.toNat))] (by rfl) (by rfl) (World.news_of_block (cs := #[enc (.single W.heap.size (fun j => j == b.toNat))]) (t := 121) (fr := (0, 0)) (by have h_ := heap_alloc_new (W.alloc (.cells (bset (fun j => j == b.toNat)) 120)) (.cells #[enc (.single W.heap.size (fun j => j == b.toNat))] 121); rw [World.size_alloc] at h_; exact h_)) (by intro u hu; rw [List.mem_singleton.1 hu]; rfl)
          (by omega) (by simp only [maxLen]; omega) (by omega) (by simp only [World.size_alloc, World.drew]; omega) (W.heap.size + 2) (by simp) ?_; intro gg cap w1 hown1 hgrow hat hlt; have BK1 := blk_grown (blk_drew (blk_alloc (blk_alloc HH.out.2.1 _) _)) hgrow HX.out.2; have c9 : w1.cell? ⟨r, 2, none⟩ = some (.slice A1 l.length c1) := (blk_cell BK1 2).trans rfl; have f9 := blk_frozen BK1 2; have HG := Aside0.mk (And.intro hown1 hgrow); clear hown1 hgrow hat hlt BK1))
  all_goals go_wp2
  all_goals
    refine bodyPost_end (v := .tuple #[]) (by simp [results, Tryd.results41, go_sem]) rfl (And.intro rfl ?_)
    exact ⟨W.heap.size, RI.push HH.out.1 HH.out.2.1 HX.out.1 (below_drew1 (below_alloc (below_alloc (Below.refl _ _) _) _)) (blk_drew (blk_alloc (blk_new _ _) _)) HG.out.1 HG.out.2⟩
set_option maxHeartbeats 2000000 in
set_option maxRecDepth 100000 in
/-- next: the line's beginning. -/
theorem next_front {w0 w : World} {r : Nat} {A : Option Addr} {c : Nat} {p : List Int} {a : Nat} {fault : Int} {l : List Th} (h : RI w0 r A c p (a : Int) fault l w) (hr : Kd.C (Kd.int .u8) w0 A p.length p) (ha : a < p.length) (hp : p.length ≤ 256) (hl : l.length ≤ 1000) (h94 : rd p (a : Int) = 94) (ha0 : a = 0) :
    Calls Tryd.prog 41 #[.pointer (some ⟨r, 0, none⟩)] w fun e w' => e = .returned (.tuple #[]) ∧ RI w0 r A c p ((a + 1 : Nat) : Int) fault (l ++ [.front]) w' := by
  have H := Aside0.mk h
  obtain ⟨ad, rfl, hb⟩ := h.at_byte hr (Int.natCast_nonneg a) (by omega)
  rw [Int.toNat_natCast] at hb
  obtain ⟨HB, GE, ⟨ov, BK, HO⟩, HS⟩ := h
  have c0 : w.cell? ⟨r, 0, none⟩ = some (.slice (some ad) p.length c) := (blk_cell BK 0).trans rfl
  have c1 : w.cell? ⟨r, 1, none⟩ = some (.int .i64 (a : Int)) := (blk_cell BK 1).trans rfl
  have f1 := blk_frozen BK 1
  have q2 : (((a : Int)) < (p.length : Int)) = True := eq_true (by omega)
  clear HB GE BK HO HS
  rw [h94] at hb
  clear h94
  subst ha0
  rw [Addr.add_zero'] at hb
  go_enter Tryd.func41, Tryd.ntmps41
  go_wp2
  go_quiet (fail)
  rename Nat => n1
  go_upto_region 4 with (fail)
  have HW : RI w0 r (some ad) c p ((0 + 1 : Nat) : Int) fault l ((w.drewN n1).setCell ⟨r, 1, none⟩ (.int .i64 1)) := (H.out.drew n1).setAt 1
  clear c0 c1 f1 hb H q2
  generalize ((w.drewN n1).setCell ⟨r, 1, none⟩ (.int .i64 1)) = W at HW ⊢
  obtain ⟨A1, c1, BK, HK, HO, HN⟩ := HW.own
  have c2 : W.cell? ⟨r, 2, none⟩ = some (.slice A1 l.length c1) := (blk_cell BK 2).trans rfl
  have f2 := blk_frozen BK 2
  have hsz := HW.below.size
  have hrl := blk_lt BK
  have HH := Aside0.mk (And.intro HW (And.intro BK HO))
  have HX := Aside0.mk (And.intro HK HN)
  clear HW BK HO HK HN
  obtain ⟨i0, hi, hz0, hz1, hz2⟩ := info_parts infoT
  have HI := Aside0.mk (And.intro hi (And.intro hz0 (And.intro hz1 hz2)))
  clear hi hz0 hz1 hz2
  go_wp2_with (at_builtin; refine wpList_append_own _ rfl _ _ 73 rfl w0.heap.size 121 i0 .nilIface 1 16 Tryd.underlying73 HI.out.1 HI.out.2.1 HI.out.2.2.1 HI.out.2.2.2 rfl (by decide) (.slice A1 l.length c1) l.length (encs enc l) rfl (HH.out.2.2.alloc _) ⟨W.heap.size, 0, none⟩ 1 1 [enc (.front : Th)] rfl ?q1 ?q2 ?q3 ?q4 ?q5 ?q6 ?_)
  case q1 => rfl
  case q2 => exact World.news_of_block (cs := #[enc (.front : Th)]) (t := 121) (fr := (0, 0)) (heap_alloc_new W (.cells #[enc (.front : Th)] 121))
  case q3 => intro u hu; rw [List.mem_singleton.1 hu]; rfl
  case q4 => simp only [maxLen]; omega
  case q5 => omega
  case q6 => simp only [World.size_alloc]; omega
  intro v1 w1 hown1 hgrow hnil
  have BK1 := blk_grown (blk_alloc HH.out.2.1 (.cells #[enc (.front : Th)] 121)) hgrow HX.out.2
  have c9 : w1.cell? ⟨r, 2, none⟩ = some (.slice A1 l.length c1) := (blk_cell BK1 2).trans rfl
  have f9 := blk_frozen BK1 2
  have HR1 : kTh.R 121 w1 w0.heap.size (fun _ => True) v1 (l ++ [(.front : Th)]) := Kd.R_of_own (by rw [List.length_append]; simpa [encs] using hown1) (fun _ _ => trivial)
  obtain ⟨A2, c3, e1⟩ := Kd.R_slice HR1
  rw [show (l ++ [(.front : Th)]).length = l.length + 1 from by simp] at e1
  subst e1
  have HG := Aside0.mk (And.intro hown1 hgrow)
  clear hown1 hgrow hnil BK1 HR1
  go_wp2
  refine bodyPost_end (v := .tuple #[]) (by simp [results, Tryd.results41, go_sem]) rfl (And.intro rfl ?_)
  exact RI.push HH.out.1 HH.out.2.1 HX.out.1 (below_alloc (Below.refl _ _) _) trivial HG.out.1 HG.out.2
set_option maxHeartbeats 2000000 in
set_option maxRecDepth 100000 in
/-- next: the line's end. -/
theorem next_back {w0 w : World} {r : Nat} {A : Option Addr} {c : Nat} {p : List Int} {a : Nat} {fault : Int} {l : List Th} (h : RI w0 r A c p (a : Int) fault l w) (hr : Kd.C (Kd.int .u8) w0 A p.length p) (ha : a < p.length) (hp : p.length ≤ 256) (hl : l.length ≤ 1000) (h36 : rd p (a : Int) = 36) (ha1 : a + 1 = p.length) :
    Calls Tryd.prog 41 #[.pointer (some ⟨r, 0, none⟩)] w fun e w' => e = .returned (.tuple #[]) ∧ RI w0 r A c p ((a + 1 : Nat) : Int) fault (l ++ [.back]) w' := by
  have H := Aside0.mk h
  obtain ⟨ad, rfl, hb⟩ := h.at_byte hr (Int.natCast_nonneg a) (by omega)
  rw [Int.toNat_natCast] at hb
  obtain ⟨HB, GE, ⟨ov, BK, HO⟩, HS⟩ := h
  have c0 : w.cell? ⟨r, 0, none⟩ = some (.slice (some ad) p.length c) := (blk_cell BK 0).trans rfl
  have c1 : w.cell? ⟨r, 1, none⟩ = some (.int .i64 (a : Int)) := (blk_cell BK 1).trans rfl
  have f1 := blk_frozen BK 1
  have q2 : (((a : Int)) < (p.length : Int)) = True := eq_true (by omega)
  clear HB GE BK HO HS
  rw [h36] at hb
  have et : (((a : Int) + 1) == (p.length : Int)) = true := by rw [beq_iff_eq]; omega
  clear h36 ha1
  go_enter Tryd.func41, Tryd.ntmps41
  go_wp2
  go_quiet (fail)
  rename Nat => n1
  go_upto_region 5 with (fail)
  have HW := RI.up1 ((H.out.drew n1).setAt ((a : Int) + 1))
  clear c0 c1 f1 hb H q2
  generalize ((w.drewN n1).setCell ⟨r, 1, none⟩ (.int .i64 ((a : Int) + 1))) = W at HW ⊢
  have c0 : W.cell? ⟨r, 0, none⟩ = some (.slice (some ad) p.length c) := by obtain ⟨_, _, ⟨_, BK, _⟩, _⟩ := HW; exact (blk_cell BK 0).trans rfl
  have c1 : W.cell? ⟨r, 1, none⟩ = some (.int .i64 ((a : Int) + 1)) := by obtain ⟨_, _, ⟨_, BK, _⟩, _⟩ := HW; rw [show (a : Int) + 1 = ((a + 1 : Nat) : Int) from by omega]; exact (blk_cell BK 1).trans rfl
  go_quiet (fail)
  clear c0 c1
  go_upto_region 6 with (fail)
  replace HW := HW.drew nq
  generalize (W.drewN nq) = W at HW ⊢
  obtain ⟨A1, c1, BK, HK, HO, HN⟩ := HW.own
  have c2 : W.cell? ⟨r, 2, none⟩ = some (.slice A1 l.length c1) := (blk_cell BK 2).trans rfl
  have f2 := blk_frozen BK 2
  have hsz := HW.below.size
  have hrl := blk_lt BK
  have HH := Aside0.mk (And.intro HW (And.intro BK HO))
  have HX := Aside0.mk (And.intro HK HN)
  clear HW BK HO HK HN
  obtain ⟨i0, hi, hz0, hz1, hz2⟩ := info_parts infoT
  have HI := Aside0.mk (And.intro hi (And.intro hz0 (And.intro hz1 hz2)))
  clear hi hz0 hz1 hz2
  go_wp2_with (at_builtin; refine wpList_append_own _ rfl _ _ 73 rfl w0.heap.size 121 i0 .nilIface 1 16 Tryd.underlying73 HI.out.1 HI.out.2.1 HI.out.2.2.1 HI.out.2.2.2 rfl (by decide) (.slice A1 l.length c1) l.length (encs enc l) rfl (HH.out.2.2.alloc _) ⟨W.heap.size, 0, none⟩ 1 1 [enc (.back : Th)] rfl ?q1 ?q2 ?q3 ?q4 ?q5 ?q6 ?_)
  case q1 => rfl
  case q2 => exact World.news_of_block (cs := #[enc (.back : Th)]) (t := 121) (fr := (0, 0)) (heap_alloc_new W (.cells #[enc (.back : Th)] 121))
  case q3 => intro u hu; rw [List.mem_singleton.1 hu]; rfl
  case q4 => simp only [maxLen]; omega
  case q5 => omega
  case q6 => simp only [World.size_alloc]; omega
  intro v1 w1 hown1 hgrow hnil
  have BK1 := blk_grown (blk_alloc HH.out.2.1 (.cells #[enc (.back : Th)] 121)) hgrow HX.out.2
  have c9 : w1.cell? ⟨r, 2, none⟩ = some (.slice A1 l.length c1) := (blk_cell BK1 2).trans rfl
  have f9 := blk_frozen BK1 2
  have HR1 : kTh.R 121 w1 w0.heap.size (fun _ => True) v1 (l ++ [(.back : Th)]) := Kd.R_of_own (by rw [List.length_append]; simpa [encs] using hown1) (fun _ _ => trivial)
  obtain ⟨A2, c3, e1⟩ := Kd.R_slice HR1
  rw [show (l ++ [(.back : Th)]).length = l.length + 1 from by simp] at e1
  subst e1
  have HG := Aside0.mk (And.intro hown1 hgrow)
  clear hown1 hgrow hnil BK1 HR1
  go_wp2
  refine bodyPost_end (v := .tuple #[]) (by simp [results, Tryd.results41, go_sem]) rfl (And.intro rfl ?_)
  exact RI.push HH.out.1 HH.out.2.1 HX.out.1 (below_alloc (Below.refl _ _) _) trivial HG.out.1 HG.out.2
set_option maxHeartbeats 2000000 in
set_option maxRecDepth 100000 in
/-- next: a $ that isn't at the end. -/
theorem next_dollar {w0 w : World} {r : Nat} {A : Option Addr} {c : Nat} {p : List Int} {a : Nat} {fault : Int} {l : List Th} (h : RI w0 r A c p (a : Int) fault l w) (hr : Kd.C (Kd.int .u8) w0 A p.length p) (ha : a < p.length) (hp : p.length ≤ 256) (hl : l.length ≤ 1000) (h36 : rd p (a : Int) = 36) (ha1 : a + 1 ≠ p.length) :
    Calls Tryd.prog 41 #[.pointer (some ⟨r, 0, none⟩)] w fun e w' => e = .returned (.tuple #[]) ∧ ∃ k, RI w0 r A c p ((a + 1 : Nat) : Int) fault (l ++ [.single k fun j => j == (36 : Int).toNat]) w' := by
  have H := Aside0.mk h
  obtain ⟨ad, rfl, hb⟩ := h.at_byte hr (Int.natCast_nonneg a) (by omega)
  rw [Int.toNat_natCast] at hb
  obtain ⟨HB, GE, ⟨ov, BK, HO⟩, HS⟩ := h
  have c0 : w.cell? ⟨r, 0, none⟩ = some (.slice (some ad) p.length c) := (blk_cell BK 0).trans rfl
  have c1 : w.cell? ⟨r, 1, none⟩ = some (.int .i64 (a : Int)) := (blk_cell BK 1).trans rfl
  have f1 := blk_frozen BK 1
  have q2 : (((a : Int)) < (p.length : Int)) = True := eq_true (by omega)
  clear HB GE BK HO HS
  rw [h36] at hb
  have et : (((a : Int) + 1) == (p.length : Int)) = false := by rw [beq_eq_false_iff_ne]; omega
  clear h36 ha1
  go_enter Tryd.func41, Tryd.ntmps41
  go_wp2
  go_quiet (fail)
  rename Nat => n1
  go_upto_region 5 with (fail)
  have HW := RI.up1 ((H.out.drew n1).setAt ((a : Int) + 1))
  clear c0 c1 f1 hb H q2
  generalize ((w.drewN n1).setCell ⟨r, 1, none⟩ (.int .i64 ((a : Int) + 1))) = W at HW ⊢
  have c0 : W.cell? ⟨r, 0, none⟩ = some (.slice (some ad) p.length c) := by obtain ⟨_, _, ⟨_, BK, _⟩, _⟩ := HW; exact (blk_cell BK 0).trans rfl
  have c1 : W.cell? ⟨r, 1, none⟩ = some (.int .i64 ((a : Int) + 1)) := by obtain ⟨_, _, ⟨_, BK, _⟩, _⟩ := HW; rw [show (a : Int) + 1 = ((a + 1 : Nat) : Int) from by omega]; exact (blk_cell BK 1).trans rfl
  go_quiet (fail)
  clear c0 c1
  go_upto_region 2 with (fail)
  replace HW := HW.drew nq
  generalize (W.drewN nq) = W at HW ⊢
  obtain ⟨A1, c1, BK, HK, HO, HN⟩ := HW.own
  have c2 : W.cell? ⟨r, 2, none⟩ = some (.slice A1 l.length c1) := (blk_cell BK 2).trans rfl
  have f2 := blk_frozen BK 2
  have hsz := HW.below.size
  have hrl := blk_lt BK
  have HH := Aside0.mk (And.intro HW (And.intro BK HO))
  have HX := Aside0.mk (And.intro HK HN)
  clear HW BK HO HK HN
  obtain ⟨i0, hi, hz0, hz1, hz2⟩ := info_parts infoT
  have HI := Aside0.mk (And.intro hi (And.intro hz0 (And.intro hz1 hz2)))
  clear hi hz0 hz1 hz2
  go_region_law
    (first
      | (go_simp; go_at_call 66; refine (one_calls 36 (by decide) _).mono ?_; rintro e w' ⟨rfl, rfl⟩)
      | (refine step_append_lies _ (by rfl) _ _ _ (by rfl) w0.heap.size 121 i0 .nilIface 1 16 Tryd.underlying73 HI.out.1 HI.out.2.1 HI.out.2.2.1 HI.out.2.2.2 rfl (by omega) (.slice A1 l.length c1) l.length (encs enc l) (by rfl) (((HH.out.2.2.alloc _).alloc _).drew)
          ⟨W.heap.size + 1, 0, none⟩ 1 1 [enc (.single W.heap.size (fun j => j == (36 : Int).toNat))] (by rfl) (by rfl) (World.news_of_block (cs := #[enc (.single W.heap.size (fun j => j == (36 : Int).toNat))]) (t := 121) (fr := (0, 0)) (by have h_ := heap_alloc_new (W.alloc (.cells (bset (fun j => j == (36 : Int).toNat)) 120)) (.cells #[enc (.single W.heap.size (fun j => j == (36 : Int).toNat))] 121); rw [World.size_alloc] at h_; exact h_)) (by intro u hu; rw [List.mem_singleton.1 hu]; rfl)
          (by omega) (by simp only [maxLen]; omega) (by omega) (by simp only [World.size_alloc, World.drew]; omega) (W.heap.size + 2) (by simp) ?_; intro gg cap w1 hown1 hgrow hat hlt; have BK1 := blk_grown (blk_drew (blk_alloc (blk_alloc HH.out.2.1 _) _)) hgrow HX.out.2; have c9 : w1.cell? ⟨r, 2, none⟩ = some (.slice A1 l.length c1) := (blk_cell BK1 2).trans rfl; have f9 := blk_frozen BK1 2; have HG := Aside0.mk (And.intro hown1 hgrow); clear hown1 hgrow hat hlt BK1))
  all_goals go_wp2
  all_goals
    refine bodyPost_end (v := .tuple #[]) (by simp [results, Tryd.results41, go_sem]) rfl (And.intro rfl ?_)
    exact ⟨W.heap.size, RI.push HH.out.1 HH.out.2.1 HX.out.1 (below_drew1 (below_alloc (below_alloc (Below.refl _ _) _) _)) (blk_drew (blk_alloc (blk_new _ _) _)) HG.out.1 HG.out.2⟩
set_option maxHeartbeats 2000000 in
set_option maxRecDepth 100000 in
/-- next: a ^ that isn't at the beginning. -/
theorem next_caret {w0 w : World} {r : Nat} {A : Option Addr} {c : Nat} {p : List Int} {a : Nat} {fault : Int} {l : List Th} (h : RI w0 r A c p (a : Int) fault l w) (hr : Kd.C (Kd.int .u8) w0 A p.length p) (ha : a < p.length) (hp : p.length ≤ 256) (hl : l.length ≤ 1000) (h94 : rd p (a : Int) = 94) (ha1 : a ≠ 0) :
    Calls Tryd.prog 41 #[.pointer (some ⟨r, 0, none⟩)] w fun e w' => e = .returned (.tuple #[]) ∧ ∃ k, RI w0 r A c p ((a + 1 : Nat) : Int) fault (l ++ [.single k fun j => j == (94 : Int).toNat]) w' := by
  have H := Aside0.mk h
  obtain ⟨ad, rfl, hb⟩ := h.at_byte hr (Int.natCast_nonneg a) (by omega)
  rw [Int.toNat_natCast] at hb
  obtain ⟨HB, GE, ⟨ov, BK, HO⟩, HS⟩ := h
  have c0 : w.cell? ⟨r, 0, none⟩ = some (.slice (some ad) p.length c) := (blk_cell BK 0).trans rfl
  have c1 : w.cell? ⟨r, 1, none⟩ = some (.int .i64 (a : Int)) := (blk_cell BK 1).trans rfl
  have f1 := blk_frozen BK 1
  have q2 : (((a : Int)) < (p.length : Int)) = True := eq_true (by omega)
  clear HB GE BK HO HS
  rw [h94] at hb
  have et : (((a : Int) + 1) == 1) = false := by rw [beq_eq_false_iff_ne]; omega
  clear h94 ha1
  go_enter Tryd.func41, Tryd.ntmps41
  go_wp2
  go_quiet (fail)
  rename Nat => n1
  go_upto_region 5 with (fail)
  have HW := RI.up1 ((H.out.drew n1).setAt ((a : Int) + 1))
  clear c0 c1 f1 hb H q2
  generalize ((w.drewN n1).setCell ⟨r, 1, none⟩ (.int .i64 ((a : Int) + 1))) = W at HW ⊢
  go_quiet (fail)
  go_upto_region 2 with (fail)
  replace HW := HW.drew nq
  generalize (W.drewN nq) = W at HW ⊢
  obtain ⟨A1, c1, BK, HK, HO, HN⟩ := HW.own
  have c2 : W.cell? ⟨r, 2, none⟩ = some (.slice A1 l.length c1) := (blk_cell BK 2).trans rfl
  have f2 := blk_frozen BK 2
  have hsz := HW.below.size
  have hrl := blk_lt BK
  have HH := Aside0.mk (And.intro HW (And.intro BK HO))
  have HX := Aside0.mk (And.intro HK HN)
  clear HW BK HO HK HN
  obtain ⟨i0, hi, hz0, hz1, hz2⟩ := info_parts infoT
  have HI := Aside0.mk (And.intro hi (And.intro hz0 (And.intro hz1 hz2)))
  clear hi hz0 hz1 hz2
  go_region_law
    (first
      | (go_simp; go_at_call 66; refine (one_calls 94 (by decide) _).mono ?_; rintro e w' ⟨rfl, rfl⟩)
      | (refine step_append_lies _ (by rfl) _ _ _ (by rfl) w0.heap.size 121 i0 .nilIface 1 16 Tryd.underlying73 HI.out.1 HI.out.2.1 HI.out.2.2.1 HI.out.2.2.2 rfl (by omega) (.slice A1 l.length c1) l.length (encs enc l) (by rfl) (((HH.out.2.2.alloc _).alloc _).drew)
          ⟨W.heap.size + 1, 0, none⟩ 1 1 [enc (.single W.heap.size (fun j => j == (94 : Int).toNat))] (by rfl) (by rfl) (World.news_of_block (cs := #[enc (.single W.heap.size (fun j => j == (94 : Int).toNat))]) (t := 121) (fr := (0, 0)) (by have h_ := heap_alloc_new (W.alloc (.cells (bset (fun j => j == (94 : Int).toNat)) 120)) (.cells #[enc (.single W.heap.size (fun j => j == (94 : Int).toNat))] 121); rw [World.size_alloc] at h_; exact h_)) (by intro u hu; rw [List.mem_singleton.1 hu]; rfl)
          (by omega) (by simp only [maxLen]; omega) (by omega) (by simp only [World.size_alloc, World.drew]; omega) (W.heap.size + 2) (by simp) ?_; intro gg cap w1 hown1 hgrow hat hlt; have BK1 := blk_grown (blk_drew (blk_alloc (blk_alloc HH.out.2.1 _) _)) hgrow HX.out.2; have c9 : w1.cell? ⟨r, 2, none⟩ = some (.slice A1 l.length c1) := (blk_cell BK1 2).trans rfl; have f9 := blk_frozen BK1 2; have HG := Aside0.mk (And.intro hown1 hgrow); clear hown1 hgrow hat hlt BK1))
  all_goals go_wp2
  all_goals
    refine bodyPost_end (v := .tuple #[]) (by simp [results, Tryd.results41, go_sem]) rfl (And.intro rfl ?_)
    exact ⟨W.heap.size, RI.push HH.out.1 HH.out.2.1 HX.out.1 (below_drew1 (below_alloc (below_alloc (Below.refl _ _) _) _)) (blk_drew (blk_alloc (blk_new _ _) _)) HG.out.1 HG.out.2⟩
set_option maxHeartbeats 2000000 in
set_option maxRecDepth 100000 in
/-- next: every byte. -/
theorem next_dot {w0 w : World} {r : Nat} {A : Option Addr} {c : Nat} {p : List Int} {a : Nat} {fault : Int} {l : List Th} (h : RI w0 r A c p (a : Int) fault l w) (hr : Kd.C (Kd.int .u8) w0 A p.length p) (ha : a < p.length) (hp : p.length ≤ 256) (hl : l.length ≤ 1000) (h46 : rd p (a : Int) = 46) :
    Calls Tryd.prog 41 #[.pointer (some ⟨r, 0, none⟩)] w fun e w' => e = .returned (.tuple #[]) ∧ ∃ k, RI w0 r A c p ((a + 1 : Nat) : Int) fault (l ++ [.single k fun j => decide (j < 256)]) w' := by
  have H := Aside0.mk h
  obtain ⟨ad, rfl, hb⟩ := h.at_byte hr (Int.natCast_nonneg a) (by omega)
  rw [Int.toNat_natCast] at hb
  obtain ⟨HB, GE, ⟨ov, BK, HO⟩, HS⟩ := h
  have c0 : w.cell? ⟨r, 0, none⟩ = some (.slice (some ad) p.length c) := (blk_cell BK 0).trans rfl
  have c1 : w.cell? ⟨r, 1, none⟩ = some (.int .i64 (a : Int)) := (blk_cell BK 1).trans rfl
  have f1 := blk_frozen BK 1
  have q2 : (((a : Int)) < (p.length : Int)) = True := eq_true (by omega)
  clear HB GE BK HO HS
  rw [h46] at hb
  clear h46
  go_enter Tryd.func41, Tryd.ntmps41
  go_wp2
  go_quiet (fail)
  rename Nat => n1
  go_upto_region 5 with (fail)
  have HW := RI.up1 ((H.out.drew n1).setAt ((a : Int) + 1))
  clear c0 c1 f1 hb H q2
  generalize ((w.drewN n1).setCell ⟨r, 1, none⟩ (.int .i64 ((a : Int) + 1))) = W at HW ⊢
  go_quiet (fail)
  go_upto_region 8 with (fail)
  replace HW := HW.drew nq
  generalize (W.drewN nq) = W at HW ⊢
  obtain ⟨A1, c1, BK, HK, HO, HN⟩ := HW.own
  have c2 : W.cell? ⟨r, 2, none⟩ = some (.slice A1 l.length c1) := (blk_cell BK 2).trans rfl
  have f2 := blk_frozen BK 2
  have hsz := HW.below.size
  have hrl := blk_lt BK
  have HH := Aside0.mk (And.intro HW (And.intro BK HO))
  have HX := Aside0.mk (And.intro HK HN)
  clear HW BK HO HK HN
  obtain ⟨i0, hi, hz0, hz1, hz2⟩ := info_parts infoT
  have HI := Aside0.mk (And.intro hi (And.intro hz0 (And.intro hz1 hz2)))
  clear hi hz0 hz1 hz2
  go_region_law
    (first
      | (go_simp; go_at_call 62; refine (every_calls _).mono ?_; rintro e w' ⟨rfl, rfl⟩)
      | (refine step_append_lies _ (by rfl) _ _ _ (by rfl) w0.heap.size 121 i0 .nilIface 1 16 Tryd.underlying73 HI.out.1 HI.out.2.1 HI.out.2.2.1 HI.out.2.2.2 rfl (by omega) (.slice A1 l.length c1) l.length (encs enc l) (by rfl) (((HH.out.2.2.alloc _).alloc _).drew)
          ⟨W.heap.size + 1, 0, none⟩ 1 1 [enc (.single W.heap.size (fun j => decide (j < 256)))] (by rfl) (by rfl) (World.news_of_block (cs := #[enc (.single W.heap.size (fun j => decide (j < 256)))]) (t := 121) (fr := (0, 0)) (by have h_ := heap_alloc_new (W.alloc (.cells (bset (fun j => decide (j < 256))) 120)) (.cells #[enc (.single W.heap.size (fun j => decide (j < 256)))] 121); rw [World.size_alloc] at h_; exact h_)) (by intro u hu; rw [List.mem_singleton.1 hu]; rfl)
          (by omega) (by simp only [maxLen]; omega) (by omega) (by simp only [World.size_alloc, World.drew]; omega) (W.heap.size + 2) (by simp) ?_; intro gg cap w1 hown1 hgrow hat hlt; have BK1 := blk_grown (blk_drew (blk_alloc (blk_alloc HH.out.2.1 _) _)) hgrow HX.out.2; have c9 : w1.cell? ⟨r, 2, none⟩ = some (.slice A1 l.length c1) := (blk_cell BK1 2).trans rfl; have f9 := blk_frozen BK1 2; have HG := Aside0.mk (And.intro hown1 hgrow); clear hown1 hgrow hat hlt BK1))
  all_goals go_wp2
  all_goals
    refine bodyPost_end (v := .tuple #[]) (by simp [results, Tryd.results41, go_sem]) rfl (And.intro rfl ?_)
    exact ⟨W.heap.size, RI.push HH.out.1 HH.out.2.1 HX.out.1 (below_drew1 (below_alloc (below_alloc (Below.refl _ _) _) _)) (blk_drew (blk_alloc (blk_new _ _) _)) HG.out.1 HG.out.2⟩
set_option maxHeartbeats 2000000 in
set_option maxRecDepth 100000 in
/-- next: what a * makes. -/
theorem next_star {w0 w : World} {r : Nat} {A : Option Addr} {c : Nat} {p : List Int} {a : Nat} {fault : Int} {l : List Th} (h : RI w0 r A c p (a : Int) fault l w) (hr : Kd.C (Kd.int .u8) w0 A p.length p) (ha : a < p.length) (hp : p.length ≤ 256) (hl : l.length ≤ 1000) (hcode : rd p (a : Int) = 42) {Post : World → Prop} (hc : ∀ W, RI w0 r A c p ((a + 1 : Nat) : Int) fault l W → Calls Tryd.prog 64 #[.pointer (some ⟨r, 0, none⟩)] W fun e w' => e = .returned (.tuple #[]) ∧ Post w') :
    Calls Tryd.prog 41 #[.pointer (some ⟨r, 0, none⟩)] w fun e w' => e = .returned (.tuple #[]) ∧ Post w' := by
  have H := Aside0.mk h
  obtain ⟨ad, rfl, hb⟩ := h.at_byte hr (Int.natCast_nonneg a) (by omega)
  rw [Int.toNat_natCast] at hb
  obtain ⟨HB, GE, ⟨ov, BK, HO⟩, HS⟩ := h
  have c0 : w.cell? ⟨r, 0, none⟩ = some (.slice (some ad) p.length c) := (blk_cell BK 0).trans rfl
  have c1 : w.cell? ⟨r, 1, none⟩ = some (.int .i64 (a : Int)) := (blk_cell BK 1).trans rfl
  have f1 := blk_frozen BK 1
  have q2 : (((a : Int)) < (p.length : Int)) = True := eq_true (by omega)
  clear HB GE BK HO HS
  rw [hcode] at hb
  have HC := Aside0.mk hc
  clear hcode hc
  go_enter Tryd.func41, Tryd.ntmps41
  go_wp2
  go_quiet (fail)
  rename Nat => n1
  go_upto_region 5 with (fail)
  have HW := RI.up1 ((H.out.drew n1).setAt ((a : Int) + 1))
  clear c0 c1 f1 hb H q2
  generalize ((w.drewN n1).setCell ⟨r, 1, none⟩ (.int .i64 ((a : Int) + 1))) = W at HW ⊢
  go_quiet (fail)
  go_upto_region 12 with (fail)
  replace HW := HW.drew nq
  generalize (W.drewN nq) = W at HW ⊢
  have HW := Aside0.mk HW
  go_wp2_with (go_at_call 64; refine (HC.out _ HW.out).mono ?_; rintro e w' ⟨rfl, hpost⟩)
  refine bodyPost_end (v := .tuple #[]) (by simp [results, Tryd.results41, go_sem]) rfl (And.intro rfl ?_)
  exact hpost
set_option maxHeartbeats 2000000 in
set_option maxRecDepth 100000 in
/-- next: what stands behind a \. -/
theorem next_mask {w0 w : World} {r : Nat} {A : Option Addr} {c : Nat} {p : List Int} {a : Nat} {fault : Int} {l : List Th} (h : RI w0 r A c p (a : Int) fault l w) (hr : Kd.C (Kd.int .u8) w0 A p.length p) (ha : a < p.length) (hp : p.length ≤ 256) (hl : l.length ≤ 1000) (hcode : rd p (a : Int) = 92) {Post : World → Prop} (hc : ∀ W, RI w0 r A c p ((a + 1 : Nat) : Int) fault l W → Calls Tryd.prog 65 #[.pointer (some ⟨r, 0, none⟩)] W fun e w' => e = .returned (.tuple #[]) ∧ Post w') :
    Calls Tryd.prog 41 #[.pointer (some ⟨r, 0, none⟩)] w fun e w' => e = .returned (.tuple #[]) ∧ Post w' := by
  have H := Aside0.mk h
  obtain ⟨ad, rfl, hb⟩ := h.at_byte hr (Int.natCast_nonneg a) (by omega)
  rw [Int.toNat_natCast] at hb
  obtain ⟨HB, GE, ⟨ov, BK, HO⟩, HS⟩ := h
  have c0 : w.cell? ⟨r, 0, none⟩ = some (.slice (some ad) p.length c) := (blk_cell BK 0).trans rfl
  have c1 : w.cell? ⟨r, 1, none⟩ = some (.int .i64 (a : Int)) := (blk_cell BK 1).trans rfl
  have f1 := blk_frozen BK 1
  have q2 : (((a : Int)) < (p.length : Int)) = True := eq_true (by omega)
  clear HB GE BK HO HS
  rw [hcode] at hb
  have HC := Aside0.mk hc
  clear hcode hc
  go_enter Tryd.func41, Tryd.ntmps41
  go_wp2
  go_quiet (fail)
  rename Nat => n1
  go_upto_region 5 with (fail)
  have HW := RI.up1 ((H.out.drew n1).setAt ((a : Int) + 1))
  clear c0 c1 f1 hb H q2
  generalize ((w.drewN n1).setCell ⟨r, 1, none⟩ (.int .i64 ((a : Int) + 1))) = W at HW ⊢
  go_quiet (fail)
  go_upto_region 14 with (fail)
  replace HW := HW.drew nq
  generalize (W.drewN nq) = W at HW ⊢
  have HW := Aside0.mk HW
  go_wp2_with (go_at_call 65; refine (HC.out _ HW.out).mono ?_; rintro e w' ⟨rfl, hpost⟩)
  refine bodyPost_end (v := .tuple #[]) (by simp [results, Tryd.results41, go_sem]) rfl (And.intro rfl ?_)
  exact hpost
set_option maxHeartbeats 2000000 in
set_option maxRecDepth 100000 in
/-- next: a set in brackets. -/
theorem next_set {w0 w : World} {r : Nat} {A : Option Addr} {c : Nat} {p : List Int} {a : Nat} {fault : Int} {l : List Th} (h : RI w0 r A c p (a : Int) fault l w) (hr : Kd.C (Kd.int .u8) w0 A p.length p) (ha : a < p.length) (hp : p.length ≤ 256) (hl : l.length ≤ 1000) (h91 : rd p (a : Int) = 91) (hu : ∀ i, 0 ≤ rd p i ∧ rd p i ≤ 255) :
    Calls Tryd.prog 41 #[.pointer (some ⟨r, 0, none⟩)] w fun e w' => e = .returned (.tuple #[]) ∧ ∃ k, RI w0 r A c p ((brkV p (a + 1) fault).2.1 : Int) (brkV p (a + 1) fault).2.2 (l ++ [.single k (brkV p (a + 1) fault).1]) w' := by
  have H := Aside0.mk h
  obtain ⟨ad, rfl, hb⟩ := h.at_byte hr (Int.natCast_nonneg a) (by omega)
  rw [Int.toNat_natCast] at hb
  obtain ⟨HB, GE, ⟨ov, BK, HO⟩, HS⟩ := h
  have c0 : w.cell? ⟨r, 0, none⟩ = some (.slice (some ad) p.length c) := (blk_cell BK 0).trans rfl
  have c1 : w.cell? ⟨r, 1, none⟩ = some (.int .i64 (a : Int)) := (blk_cell BK 1).trans rfl
  have f1 := blk_frozen BK 1
  have q2 : (((a : Int)) < (p.length : Int)) = True := eq_true (by omega)
  clear HB GE BK HO HS
  rw [h91] at hb
  clear h91
  go_enter Tryd.func41, Tryd.ntmps41
  go_wp2
  go_quiet (fail)
  rename Nat => n1
  go_upto_region 5 with (fail)
  have HW := RI.up1 ((H.out.drew n1).setAt ((a : Int) + 1))
  clear c0 c1 f1 hb H q2
  generalize ((w.drewN n1).setCell ⟨r, 1, none⟩ (.int .i64 ((a : Int) + 1))) = W at HW ⊢
  go_quiet (fail)
  go_upto_region 10 with (fail)
  replace HW := HW.drew nq
  generalize (W.drewN nq) = W at HW ⊢
  obtain ⟨A1, c1, BK, HK, HO, HN⟩ := HW.own
  have HRX := Aside0.mk (show RX w0 r (some ad) c p ((a + 1 : Nat) : Int) fault l (.slice A1 l.length c1) W from ⟨HW.below, HW.ge, BK, HK, HW.sets⟩)
  have c2 : W.cell? ⟨r, 2, none⟩ = some (.slice A1 l.length c1) := (blk_cell BK 2).trans rfl
  have f2 := blk_frozen BK 2
  have hsz := HW.below.size
  have hrl := blk_lt BK
  clear HW BK HO HK HN
  obtain ⟨i0, hi, hz0, hz1, hz2⟩ := info_parts infoT
  have HI := Aside0.mk (And.intro hi (And.intro hz0 (And.intro hz1 hz2)))
  clear hi hz0 hz1 hz2
  have HPQ := Aside0.mk (And.intro hr (And.intro hu (And.intro hp (show 1 ≤ a + 1 ∧ a + 1 ≤ p.length from ⟨by omega, by omega⟩))))
  clear hr hu
  go_region_law
    (first
      | (go_simp; go_at_call 63; refine (brackets_calls (show RX w0 r (some ad) c p ((a + 1 : Nat) : Int) fault l (.slice A1 l.length c1) W.drew from ⟨below_drew1 HRX.out.below, HRX.out.ge, blk_drew HRX.out.blk, Kd.R_drew HRX.out.row, HRX.out.sets⟩) HPQ.out.1 HPQ.out.2.2.2 HPQ.out.2.2.1 HPQ.out.2.1).mono ?_; rintro e w' ⟨rfl, HB⟩; have c8 : w'.cell? ⟨r, 2, none⟩ = some (.slice A1 l.length c1) := (blk_cell HB.out.1.blk 2).trans rfl; have f8 := blk_frozen HB.out.1.blk 2; have hrl8 := blk_lt HB.out.1.blk; have hsz8 := HB.out.1.below.size)
      | (refine step_append_lies _ (by rfl) _ _ _ (by rfl) w0.heap.size 121 i0 .nilIface 1 16 Tryd.underlying73 HI.out.1 HI.out.2.1 HI.out.2.2.1 HI.out.2.2.2 rfl (by omega) (.slice A1 l.length c1) l.length (encs enc l) (by rfl) ((Kd.own_of_R HB.out.1.row).alloc _)
          ⟨w'.heap.size, 0, none⟩ 1 1 [enc (.single W.heap.size (brkV p (a + 1) fault).1)] (by rfl) (by rfl) (World.news_of_block (cs := #[enc (.single W.heap.size (brkV p (a + 1) fault).1)]) (t := 121) (fr := (0, 0)) (heap_alloc_new w' (.cells #[enc (.single W.heap.size (brkV p (a + 1) fault).1)] 121))) (by intro u hu; rw [List.mem_singleton.1 hu]; rfl)
          (by omega) (by simp only [maxLen]; omega) (by omega) (by simp only [World.size_alloc]; omega) (w'.heap.size + 1) (by simp) ?_; intro gg cap w1 hown1 hgrow hat hlt; have BK1 := blk_grown (blk_alloc HB.out.1.blk _) hgrow (Kd.R_ne HB.out.1.row HB.out.1.blk (by decide)); have c9 : w1.cell? ⟨r, 2, none⟩ = some (.slice A1 l.length c1) := (blk_cell BK1 2).trans rfl; have f9 := blk_frozen BK1 2; have HG := Aside0.mk (And.intro hown1 hgrow); clear hown1 hgrow hat hlt BK1))
  all_goals go_wp2
  all_goals
    refine bodyPost_end (v := .tuple #[]) (by simp [results, Tryd.results41, go_sem]) rfl (And.intro rfl ?_)
    exact ⟨W.heap.size, RI.push HB.out.1.ri HB.out.1.blk HB.out.1.row (below_alloc (Below.refl _ _) _) (blk_alloc HB.out.2 _) HG.out.1 HG.out.2⟩
end Go.Proofs.YtdhdngoeaneanaaDoor.PT
