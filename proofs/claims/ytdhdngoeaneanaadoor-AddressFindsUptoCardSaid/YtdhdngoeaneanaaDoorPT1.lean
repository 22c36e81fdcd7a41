/-
  Patterns, by hand: the reader's parts.
-/
import Derived.Test.YtdhdngoeaneanaaDoorPT0
import Derived.Test.YtdhdngoeaneanaaDoorX0
import Derived.Test.YtdhdngoeaneanaaDoorWALL
import Derived.Deep.RegionHeld3
import Derived.Deep.AppendLies
namespace Go.Proofs.YtdhdngoeaneanaaDoor.PT
open Go.RowKit Go.Proofs.YtdhdngoeaneanaaDoorW.PrintWords Go.Proofs.YtdhdngoeaneanaaDoorW.PrintMore
/-- A thing of a pattern: k is the block of its set, S what it holds. -/
inductive Th where
  | single (k : Nat) (S : Nat → Bool)
  | many (k : Nat) (S : Nat → Bool)
  | front
  | back
  | opens
  | closes
def enc : Th → Value
  | .single k _ => .iface 101 (.agg #[.pointer (some ⟨k, 0, none⟩)])
  | .many k _ => .iface 122 (.agg #[.pointer (some ⟨k, 0, none⟩)])
  | .front => .iface 96 (.agg #[])
  | .back => .iface 97 (.agg #[])
  | .opens => .iface 123 (.agg #[])
  | .closes => .iface 124 (.agg #[])
theorem enc_one : ∀ x : Th, (enc x).oneCell' = true := by intro x; cases x <;> rfl
def kTh : Kd Th := Kd.scalar enc enc_one
/-- The things' sets lie in memory. -/
def SetAt (w : World) : Th → Prop
  | .single k S => w.heap[k]? = some (.cells (bset S) 120 (0, 0))
  | .many k S => w.heap[k]? = some (.cells (bset S) 120 (0, 0))
  | _ => True
def Sets (w : World) (l : List Th) : Prop := ∀ x ∈ l, SetAt w x
/-- A reader in block r: of the text p, at a place, with a fault and the things so far. -/
structure RI (w0 : World) (r : Nat) (A : Option Addr) (c : Nat) (p : List Int) (at_ fault : Int) (l : List Th) (w : World) : Prop where
  below : Below w0.heap.size w0 w
  ge : w0.heap.size ≤ r
  lay : ∃ ov, w.heap[r]? = some (.cells #[.slice A p.length c, .int .i64 at_, ov, .int .i64 fault] 75 (0, 0)) ∧ kTh.R 121 w w0.heap.size (fun _ => True) ov l
  sets : Sets w l
theorem RI.at_byte {w0 w : World} {r : Nat} {A : Option Addr} {c : Nat} {p : List Int} {at_ fault : Int} {l : List Th} (h : RI w0 r A c p at_ fault l w) (hr : Kd.C (Kd.int .u8) w0 A p.length p) (h0 : 0 ≤ at_) (h1 : at_ < p.length) : ∃ ad, A = some ad ∧ w.cell? (ad.add at_.toNat) = some (.int .u8 (rd p at_)) := by
  obtain ⟨ad, e, hc⟩ := Kd.at_int hr at_ h0 h1
  exact ⟨ad, e, (h.below.cell (World.block_lt_of_cell? w0 _ hc)).trans hc⟩
theorem RI.drew {w0 w : World} {r : Nat} {A : Option Addr} {c : Nat} {p : List Int} {at_ fault : Int} {l : List Th} (h : RI w0 r A c p at_ fault l w) (n : Nat) : RI w0 r A c p at_ fault l (w.drewN n) := by
  obtain ⟨HB, GE, ⟨ov, BK, HO⟩, HS⟩ := h
  exact ⟨pw_below_drewN HB n, GE, ⟨ov, blk_drewN BK n, Kd.R_drewN HO n⟩, HS⟩
theorem Sets_far {w : World} {l : List Th} {g t : Nat} {cs : Array Value} (h : Sets w l) (hb : w.heap[g]? = some (.cells cs t (0, 0))) (ht : t ≠ 120) (j : Nat) (u : Value) : Sets (w.setCell ⟨g, j, none⟩ u) l := by
  intro x hx
  have h1 := h x hx
  cases x with
  | single k S => exact blk_far h1 (blk_ne h1 hb (Ne.symm ht)) u
  | many k S => exact blk_far h1 (blk_ne h1 hb (Ne.symm ht)) u
  | front => trivial
  | back => trivial
  | opens => trivial
  | closes => trivial
theorem RI.setAt {w0 w : World} {r : Nat} {A : Option Addr} {c : Nat} {p : List Int} {at_ fault : Int} {l : List Th} (h : RI w0 r A c p at_ fault l w) (a : Int) : RI w0 r A c p a fault l (w.setCell ⟨r, 1, none⟩ (.int .i64 a)) := by
  obtain ⟨HB, GE, ⟨ov, BK, HO⟩, HS⟩ := h
  refine ⟨below_set HB GE, GE, ⟨ov, blk_put BK 1 _ rfl, Kd.R_set HO BK (by decide) _ _⟩, Sets_far HS BK (by decide) _ _⟩
theorem RI.setFault {w0 w : World} {r : Nat} {A : Option Addr} {c : Nat} {p : List Int} {at_ fault : Int} {l : List Th} (h : RI w0 r A c p at_ fault l w) (a : Int) : RI w0 r A c p at_ a l (w.setCell ⟨r, 3, none⟩ (.int .i64 a)) := by
  obtain ⟨HB, GE, ⟨ov, BK, HO⟩, HS⟩ := h
  refine ⟨below_set HB GE, GE, ⟨ov, blk_put BK 3 _ rfl, Kd.R_set HO BK (by decide) _ _⟩, Sets_far HS BK (by decide) _ _⟩
theorem infoT : (Tryd.prog.info? 121).map (fun i => (i.zero, i.size, i.bytes)) = some (some .nilIface, 1, 16) := by kernel_rfl
/-- What is appended to: the row of the things so far. -/
theorem RI.own {w0 w : World} {r : Nat} {A : Option Addr} {c : Nat} {p : List Int} {at_ fault : Int} {l : List Th} (h : RI w0 r A c p at_ fault l w) : ∃ A1 c1, w.heap[r]? = some (.cells #[.slice A p.length c, .int .i64 at_, .slice A1 l.length c1, .int .i64 fault] 75 (0, 0)) ∧ kTh.R 121 w w0.heap.size (fun _ => True) (.slice A1 l.length c1) l ∧ w.ownsRow w0.heap.size 121 1 (.slice A1 l.length c1) l.length (encs enc l) ∧ some r ≠ (Value.slice A1 l.length c1).ownBlock := by
  obtain ⟨HB, GE, ⟨ov, BK, HO⟩, HS⟩ := h
  obtain ⟨A1, c1, rfl⟩ := Kd.R_slice HO
  exact ⟨A1, c1, BK, HO, Kd.own_of_R HO, Kd.R_ne HO BK (by decide)⟩
theorem SetAt_ne {w : World} {x : Th} {base : Nat} {ov : Value} {l : List Th} {ok : Nat → Prop} (h : SetAt w x) (HO : kTh.R 121 w base ok ov l) {w1 : World} (hg : w.grownBy w1 ov.ownBlock) : SetAt w1 x := by
  cases x with
  | single k S => exact blk_grown h hg (Kd.R_ne HO h (by decide))
  | many k S => exact blk_grown h hg (Kd.R_ne HO h (by decide))
  | front => trivial
  | back => trivial
  | opens => trivial
  | closes => trivial
theorem SetAt_below {w w1 : World} {x : Th} (h : SetAt w x) (hb : Below w.heap.size w w1) : SetAt w1 x := by
  cases x with
  | single k S => exact blk_below h hb
  | many k S => exact blk_below h hb
  | front => trivial
  | back => trivial
  | opens => trivial
  | closes => trivial
/-- One thing more. -/
theorem RI.push {w0 W W' w1 : World} {r : Nat} {A : Option Addr} {c : Nat} {p : List Int} {at_ fault : Int} {l : List Th} {x : Th} {ov v1 : Value} (h : RI w0 r A c p at_ fault l W) (hov : W.heap[r]? = some (.cells #[.slice A p.length c, .int .i64 at_, ov, .int .i64 fault] 75 (0, 0))) (HO : kTh.R 121 W w0.heap.size (fun _ => True) ov l)
    (hb : Below W.heap.size W W') (hx : SetAt W' x) (hown : w1.ownsRow w0.heap.size 121 1 v1 (l.length + 1) (encs enc l ++ [enc x])) (hg : W'.grownBy w1 ov.ownBlock) : RI w0 r A c p at_ fault (l ++ [x]) (w1.setCell ⟨r, 2, none⟩ v1) := by
  obtain ⟨HB, GE, _, HS⟩ := h
  have HO' := Kd.R_below HO hb
  have B1 := blk_grown (blk_below hov hb) hg (Kd.R_ne HO hov (by decide))
  have HR1 : kTh.R 121 w1 w0.heap.size (fun _ => True) v1 (l ++ [x]) := Kd.R_of_own (by rw [List.length_append]; simpa [encs] using hown) (fun _ _ => trivial)
  have hbase : w0.heap.size ≤ W'.heap.size := Nat.le_trans HB.size hb.size
  have HB1 : Below w0.heap.size w0 w1 := (below_step HB hb).grown hg hbase (own_base (Kd.own_of_R HO'))
  refine ⟨below_set HB1 GE, GE, ⟨v1, blk_put B1 2 _ rfl, Kd.R_set HR1 B1 (by decide) _ _⟩, Sets_far (fun y hy => ?_) B1 (by decide) _ _⟩
  rcases List.mem_append.1 hy with hy | hy
  · exact SetAt_ne (SetAt_below (HS y hy) hb) HO' hg
  · rw [List.mem_singleton.1 hy]
    exact SetAt_ne hx HO' hg
set_option maxHeartbeats 1000000 in
set_option maxRecDepth 100000 in
/-- masked at the text's end: a fault. -/
theorem masked_end {w0 w : World} {r : Nat} {A : Option Addr} {c : Nat} {p : List Int} {at_ fault : Int} {l : List Th} (h : RI w0 r A c p at_ fault l w) (ha : (p.length : Int) ≤ at_) (hm : at_ ≤ 1000) :
    Calls Tryd.prog 65 #[.pointer (some ⟨r, 0, none⟩)] w fun e w' => e = .returned (.tuple #[]) ∧ RI w0 r A c p at_ (at_ - 1) l w' := by
  have H := Aside0.mk h
  obtain ⟨HB, GE, ⟨ov, BK, HO⟩, HS⟩ := h
  have c0 : w.cell? ⟨r, 0, none⟩ = some (.slice A p.length c) := (blk_cell BK 0).trans rfl
  have c1 : w.cell? ⟨r, 1, none⟩ = some (.int .i64 at_) := (blk_cell BK 1).trans rfl
  have c3 : w.cell? ⟨r, 3, none⟩ = some (.int .i64 fault) := (blk_cell BK 3).trans rfl
  have f3 := blk_frozen BK 3
  have hge : decide ((p.length : Int) ≤ at_) = true := decide_eq_true ha
  clear HB GE BK HO HS
  go_enter Tryd.func65, Tryd.ntmps65
  go_wp2
  go_quiet (fail)
  go_wp2
  exact bodyPost_ret (v := .tuple #[]) (by simp [results, Tryd.results65, go_sem]) rfl ⟨rfl, (H.out.drew _).setFault _⟩
set_option maxHeartbeats 2000000 in
set_option maxRecDepth 100000 in
/-- masked: a byte that stands for itself. -/
theorem masked_byte {w0 w : World} {r : Nat} {A : Option Addr} {c : Nat} {p : List Int} {at_ fault : Int} {l : List Th} (h : RI w0 r A c p at_ fault l w) (hr : Kd.C (Kd.int .u8) w0 A p.length p) (ha0 : 0 ≤ at_) (ha : at_ < (p.length : Int)) (hm : at_ ≤ 1000) (h1 : rd p at_ ≠ 60) (h2 : rd p at_ ≠ 62) (hl : l.length ≤ 1000) (hu : 0 ≤ rd p at_ ∧ rd p at_ ≤ 255) :
    Calls Tryd.prog 65 #[.pointer (some ⟨r, 0, none⟩)] w fun e w' => e = .returned (.tuple #[]) ∧ ∃ k, RI w0 r A c p (at_ + 1) fault (l ++ [.single k fun j => j == (rd p at_).toNat]) w' := by
  have H := Aside0.mk h
  obtain ⟨ad, rfl, hb⟩ := h.at_byte hr ha0 ha
  obtain ⟨HB, GE, ⟨ov, BK, HO⟩, HS⟩ := h
  have c0 : w.cell? ⟨r, 0, none⟩ = some (.slice (some ad) p.length c) := (blk_cell BK 0).trans rfl
  have c1 : w.cell? ⟨r, 1, none⟩ = some (.int .i64 at_) := (blk_cell BK 1).trans rfl
  have c2 : w.cell? ⟨r, 2, none⟩ = some ov := (blk_cell BK 2).trans rfl
  have f1 := blk_frozen BK 1
  have f2 := blk_frozen BK 2
  have hge : decide ((p.length : Int) ≤ at_) = false := decide_eq_false (by omega)
  have q1 : (0 ≤ at_) = True := eq_true ha0
  have q2 : (at_ < (p.length : Int)) = True := eq_true ha
  have e1 : (rd p at_ == 60) = false := beq_eq_false_iff_ne.mpr h1
  have e2 : (rd p at_ == 62) = false := beq_eq_false_iff_ne.mpr h2
  generalize rd p at_ = b at *
  clear HB GE BK HO HS h1 h2
  go_enter Tryd.func65, Tryd.ntmps65
  go_wp2
  go_quiet (fail)
  go_wp2
  go_quiet (fail)
  go_wp2
  rename_i n1
  have HW := (H.out.drew (n1 + nq)).setAt (at_ + 1)
  clear c0 c1 c2 f1 f2 hb H
  generalize ((w.drewN (n1 + nq)).setCell ⟨r, 1, none⟩ (.int .i64 (at_ + 1))) = W at HW ⊢
  obtain ⟨A1, c1, BK, HK, HO, HN⟩ := HW.own
  have c2 : W.cell? ⟨r, 2, none⟩ = some (.slice A1 l.length c1) := (blk_cell BK 2).trans rfl
  have f2 := blk_frozen BK 2
  have hsz := HW.below.size
  have hrl := blk_lt BK
  have HH := Aside0.mk (And.intro HW (And.intro BK HO))
  have HX := Aside0.mk (And.intro HK HN)
  clear HW BK HO HK HN
  obtain ⟨i0, hi, hz0, hz1, hz2⟩ := info_parts infoT
  have HI := Aside0.mk (And.intro hi (And.intro hz0 (And.intro hz1 hz2)))
  clear hi hz0 hz1 hz2
  go_region_law
    (first
      | (go_simp; go_at_call 66; refine (one_calls b hu _).mono ?_; rintro e w' ⟨rfl, rfl⟩)
      | (refine step_append_lies _ (by rfl) _ _ _ (by rfl) w0.heap.size 121 i0 .nilIface 1 16 Tryd.underlying73 HI.out.1 HI.out.2.1 HI.out.2.2.1 HI.out.2.2.2 rfl (by omega) (.slice A1 l.length c1) l.length (encs enc l) (by rfl) (((HH.out.2.2.alloc _).alloc _).drew)
          ⟨W.heap.size + 1, 0, none⟩ 1 1 [enc (.single W.heap.size (fun j => j == b.toNat))] (by rfl) (by rfl) (World.news_of_block (cs := #[enc (.single W.heap.size (fun j => j == b.toNat))]) (t := 121) (fr := (0, 0)) (by have h_ := heap_alloc_new (W.alloc (.cells (bset (fun j => j == b.toNat)) 120)) (.cells #[enc (.single W.heap.size (fun j => j == b.toNat))] 121); rw [World.size_alloc] at h_; exact h_)) (by intro u hu; rw [List.mem_singleton.1 hu]; rfl)
          (by omega) (by simp only [maxLen]; omega) (by omega) (by simp only [World.size_alloc, World.drew]; omega) (W.heap.size + 2) (by simp) ?_; intro gg cap w1 hown1 hgrow hat hlt; have BK1 := blk_grown (blk_drew (blk_alloc (blk_alloc HH.out.2.1 _) _)) hgrow HX.out.2; have c9 : w1.cell? ⟨r, 2, none⟩ = some (.slice A1 l.length c1) := (blk_cell BK1 2).trans rfl; have f9 := blk_frozen BK1 2; have HG := Aside0.mk (And.intro hown1 hgrow); clear hown1 hgrow hat hlt BK1))
  all_goals go_wp2
  all_goals
    refine bodyPost_end (v := .tuple #[]) (by simp [results, Tryd.results65, go_sem]) rfl (And.intro rfl ?_)
    exact ⟨W.heap.size, RI.push HH.out.1 HH.out.2.1 HX.out.1 (below_drew1 (below_alloc (below_alloc (Below.refl _ _) _) _)) (blk_drew (blk_alloc (blk_new _ _) _)) HG.out.1 HG.out.2⟩
set_option maxHeartbeats 2000000 in
set_option maxRecDepth 100000 in
/-- masked: a word's beginning. -/
theorem masked_opens {w0 w : World} {r : Nat} {A : Option Addr} {c : Nat} {p : List Int} {at_ fault : Int} {l : List Th} (h : RI w0 r A c p at_ fault l w) (hr : Kd.C (Kd.int .u8) w0 A p.length p) (ha0 : 0 ≤ at_) (ha : at_ < (p.length : Int)) (hm : at_ ≤ 1000) (h1 : rd p at_ = 60) (hl : l.length ≤ 1000) :
    Calls Tryd.prog 65 #[.pointer (some ⟨r, 0, none⟩)] w fun e w' => e = .returned (.tuple #[]) ∧ RI w0 r A c p (at_ + 1) fault (l ++ [.opens]) w' := by
  have H := Aside0.mk h
  obtain ⟨ad, rfl, hb⟩ := h.at_byte hr ha0 ha
  obtain ⟨HB, GE, ⟨ov, BK, HO⟩, HS⟩ := h
  have c0 : w.cell? ⟨r, 0, none⟩ = some (.slice (some ad) p.length c) := (blk_cell BK 0).trans rfl
  have c1 : w.cell? ⟨r, 1, none⟩ = some (.int .i64 at_) := (blk_cell BK 1).trans rfl
  have c2 : w.cell? ⟨r, 2, none⟩ = some ov := (blk_cell BK 2).trans rfl
  have f1 := blk_frozen BK 1
  have f2 := blk_frozen BK 2
  have hge : decide ((p.length : Int) ≤ at_) = false := decide_eq_false (by omega)
  have q1 : (0 ≤ at_) = True := eq_true ha0
  have q2 : (at_ < (p.length : Int)) = True := eq_true ha
  rw [h1] at hb
  clear HB GE BK HO HS h1
  go_enter Tryd.func65, Tryd.ntmps65
  go_wp2
  go_quiet (fail)
  go_wp2
  go_quiet (fail)
  go_upto_region 7 with (fail)
  rename_i n1
  have HW := (H.out.drew (n1 + nq)).setAt (at_ + 1)
  clear c0 c1 c2 f1 f2 hb H
  generalize ((w.drewN (n1 + nq)).setCell ⟨r, 1, none⟩ (.int .i64 (at_ + 1))) = W at HW ⊢
  obtain ⟨A1, c1, BK, HK, HO, HN⟩ := HW.own
  have c2 : W.cell? ⟨r, 2, none⟩ = some (.slice A1 l.length c1) := (blk_cell BK 2).trans rfl
  have f2 := blk_frozen BK 2
  have hsz := HW.below.size
  have hrl := blk_lt BK
  have HH := Aside0.mk (And.intro HW (And.intro BK HO))
  have HX := Aside0.mk (And.intro HK HN)
  clear HW BK HO HK HN
  obtain ⟨i0, hi, hz0, hz1, hz2⟩ := info_parts infoT
  have HI := Aside0.mk (And.intro hi (And.intro hz0 (And.intro hz1 hz2)))
  clear hi hz0 hz1 hz2
  go_wp2_with (at_builtin; refine wpList_append_own _ rfl _ _ 73 rfl w0.heap.size 121 i0 .nilIface 1 16 Tryd.underlying73 HI.out.1 HI.out.2.1 HI.out.2.2.1 HI.out.2.2.2 rfl (by decide) (.slice A1 l.length c1) l.length (encs enc l) rfl (HH.out.2.2.alloc _) ⟨W.heap.size, 0, none⟩ 1 1 [enc (.opens : Th)] rfl ?q1 ?q2 ?q3 ?q4 ?q5 ?q6 ?_)
  case q1 => rfl
  case q2 => exact World.news_of_block (cs := #[enc (.opens : Th)]) (t := 121) (fr := (0, 0)) (heap_alloc_new W (.cells #[enc (.opens : Th)] 121))
  case q3 => intro u hu; rw [List.mem_singleton.1 hu]; rfl
  case q4 => simp only [maxLen]; omega
  case q5 => omega
  case q6 => simp only [World.size_alloc]; omega
  intro v1 w1 hown1 hgrow hnil
  have BK1 := blk_grown (blk_alloc HH.out.2.1 (.cells #[enc (.opens : Th)] 121)) hgrow HX.out.2
  have c9 : w1.cell? ⟨r, 2, none⟩ = some (.slice A1 l.length c1) := (blk_cell BK1 2).trans rfl
  have f9 := blk_frozen BK1 2
  have HR1 : kTh.R 121 w1 w0.heap.size (fun _ => True) v1 (l ++ [(.opens : Th)]) := Kd.R_of_own (by rw [List.length_append]; simpa [encs] using hown1) (fun _ _ => trivial)
  obtain ⟨A2, c3, e1⟩ := Kd.R_slice HR1
  rw [show (l ++ [(.opens : Th)]).length = l.length + 1 from by simp] at e1
  subst e1
  have HG := Aside0.mk (And.intro hown1 hgrow)
  clear hown1 hgrow hnil BK1 HR1
  go_wp2
  refine bodyPost_end (v := .tuple #[]) (by simp [results, Tryd.results65, go_sem]) rfl (And.intro rfl ?_)
  exact RI.push HH.out.1 HH.out.2.1 HX.out.1 (below_alloc (Below.refl _ _) _) trivial HG.out.1 HG.out.2
set_option maxHeartbeats 2000000 in
set_option maxRecDepth 100000 in
/-- masked: a word's end. -/
theorem masked_closes {w0 w : World} {r : Nat} {A : Option Addr} {c : Nat} {p : List Int} {at_ fault : Int} {l : List Th} (h : RI w0 r A c p at_ fault l w) (hr : Kd.C (Kd.int .u8) w0 A p.length p) (ha0 : 0 ≤ at_) (ha : at_ < (p.length : Int)) (hm : at_ ≤ 1000) (h1 : rd p at_ = 62) (hl : l.length ≤ 1000) :
    Calls Tryd.prog 65 #[.pointer (some ⟨r, 0, none⟩)] w fun e w' => e = .returned (.tuple #[]) ∧ RI w0 r A c p (at_ + 1) fault (l ++ [.closes]) w' := by
  have H := Aside0.mk h
  obtain ⟨ad, rfl, hb⟩ := h.at_byte hr ha0 ha
  obtain ⟨HB, GE, ⟨ov, BK, HO⟩, HS⟩ := h
  have c0 : w.cell? ⟨r, 0, none⟩ = some (.slice (some ad) p.length c) := (blk_cell BK 0).trans rfl
  have c1 : w.cell? ⟨r, 1, none⟩ = some (.int .i64 at_) := (blk_cell BK 1).trans rfl
  have c2 : w.cell? ⟨r, 2, none⟩ = some ov := (blk_cell BK 2).trans rfl
  have f1 := blk_frozen BK 1
  have f2 := blk_frozen BK 2
  have hge : decide ((p.length : Int) ≤ at_) = false := decide_eq_false (by omega)
  have q1 : (0 ≤ at_) = True := eq_true ha0
  have q2 : (at_ < (p.length : Int)) = True := eq_true ha
  rw [h1] at hb
  clear HB GE BK HO HS h1
  go_enter Tryd.func65, Tryd.ntmps65
  go_wp2
  go_quiet (fail)
  go_wp2
  go_quiet (fail)
  go_upto_region 9 with (fail)
  rename_i n1
  have HW := (H.out.drew (n1 + nq)).setAt (at_ + 1)
  clear c0 c1 c2 f1 f2 hb H
  generalize ((w.drewN (n1 + nq)).setCell ⟨r, 1, none⟩ (.int .i64 (at_ + 1))) = W at HW ⊢
  obtain ⟨A1, c1, BK, HK, HO, HN⟩ := HW.own
  have c2 : W.cell? ⟨r, 2, none⟩ = some (.slice A1 l.length c1) := (blk_cell BK 2).trans rfl
  have f2 := blk_frozen BK 2
  have hsz := HW.below.size
  have hrl := blk_lt BK
  have HH := Aside0.mk (And.intro HW (And.intro BK HO))
  have HX := Aside0.mk (And.intro HK HN)
  clear HW BK HO HK HN
  obtain ⟨i0, hi, hz0, hz1, hz2⟩ := info_parts infoT
  have HI := Aside0.mk (And.intro hi (And.intro hz0 (And.intro hz1 hz2)))
  clear hi hz0 hz1 hz2
  go_wp2_with (at_builtin; refine wpList_append_own _ rfl _ _ 73 rfl w0.heap.size 121 i0 .nilIface 1 16 Tryd.underlying73 HI.out.1 HI.out.2.1 HI.out.2.2.1 HI.out.2.2.2 rfl (by decide) (.slice A1 l.length c1) l.length (encs enc l) rfl (HH.out.2.2.alloc _) ⟨W.heap.size, 0, none⟩ 1 1 [enc (.closes : Th)] rfl ?q1 ?q2 ?q3 ?q4 ?q5 ?q6 ?_)
  case q1 => rfl
  case q2 => exact World.news_of_block (cs := #[enc (.closes : Th)]) (t := 121) (fr := (0, 0)) (heap_alloc_new W (.cells #[enc (.closes : Th)] 121))
  case q3 => intro u hu; rw [List.mem_singleton.1 hu]; rfl
  case q4 => simp only [maxLen]; omega
  case q5 => omega
  case q6 => simp only [World.size_alloc]; omega
  intro v1 w1 hown1 hgrow hnil
  have BK1 := blk_grown (blk_alloc HH.out.2.1 (.cells #[enc (.closes : Th)] 121)) hgrow HX.out.2
  have c9 : w1.cell? ⟨r, 2, none⟩ = some (.slice A1 l.length c1) := (blk_cell BK1 2).trans rfl
  have f9 := blk_frozen BK1 2
  have HR1 : kTh.R 121 w1 w0.heap.size (fun _ => True) v1 (l ++ [(.closes : Th)]) := Kd.R_of_own (by rw [List.length_append]; simpa [encs] using hown1) (fun _ _ => trivial)
  obtain ⟨A2, c3, e1⟩ := Kd.R_slice HR1
  rw [show (l ++ [(.closes : Th)]).length = l.length + 1 from by simp] at e1
  subst e1
  have HG := Aside0.mk (And.intro hown1 hgrow)
  clear hown1 hgrow hnil BK1 HR1
  go_wp2
  refine bodyPost_end (v := .tuple #[]) (by simp [results, Tryd.results65, go_sem]) rfl (And.intro rfl ?_)
  exact RI.push HH.out.1 HH.out.2.1 HX.out.1 (below_alloc (Below.refl _ _) _) trivial HG.out.1 HG.out.2
end Go.Proofs.YtdhdngoeaneanaaDoor.PT
