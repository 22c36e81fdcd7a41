/-
  HuntKeeps: the walk.
-/
import Derived.Test.YtffpkldphkmjmaaDoorRTM
import Derived.Test.YtffpkldphkmjmaaDoorXS
import Derived.Lib.Hide
namespace Go.Proofs.YtffpkldphkmjmaaDoor.WalkHuntKeeps
open Go.RowKit Go.Proofs.YtffpkldphkmjmaaDoorW.PrintWords Go.Proofs.YtffpkldphkmjmaaDoorW.PrintMore Go.Proofs.YtffpkldphkmjmaaDoor.X Go.Proofs.YtffpkldphkmjmaaDoor.XO Go.Proofs.YtffpkldphkmjmaaDoor.PT
set_option linter.unusedVariables false
set_option linter.unusedSimpArgs false
theorem sum_len (l : List Int) : l.length ≤ (l.map szOne).sum := by
  induction l with
  | nil => simp
  | cons x l ih => have : szOne x = 1 := rfl; simp only [List.map_cons, List.sum_cons, List.length_cons]; omega
theorem u8_all (l : List Int) (h : okSl 1 okU8 l) : ∀ i, 0 ≤ rd l i ∧ rd l i ≤ 255 := rd_mem (P := fun x => 0 ≤ x ∧ x ≤ 255) l (fun x hx => h.2 x hx) (by decide)
/-- A row that isn't empty begins its block. -/
theorem R_head {e base : Nat} {ok : Nat → Prop} {w : World} {v : Value} {xs : List Int} (h : (Kd.int .u8).R e w base ok v xs) (hn : 0 < xs.length) : ∃ g c, v = .slice (some ⟨g, 0, none⟩) xs.length c := by
  have ho := Kd.own_of_R h
  rcases ho.2 with ⟨_, h0⟩ | ⟨g, cap, cur, hv, _⟩
  · omega
  · exact ⟨g, cap, hv⟩
theorem empty_R (w : World) : (Kd.int .u8).R 5 (w.alloc (.cells #[] 5)) w.heap.size (fun _ => True) (.slice (some ⟨w.heap.size, 0, none⟩) 0 0) [] := Kd.R_of_own (enc := Value.int .u8) (h1 := fun _ => rfl) ⟨rfl, .inr ⟨w.heap.size, 0, #[], rfl, Nat.le_refl _, heap_alloc_new w _, Nat.le_refl _, by simp [maxLen], rfl, rfl⟩⟩ (fun _ _ => trivial)
theorem under_len (t : List Int) (p : Int) : (underV t p).1.length ≤ 256 := by
  have hf : ∀ q, (finU q).1.length ≤ 256 := fun q => by
    unfold finU
    split
    · exact Nat.zero_le _
    · show ([92, 60] ++ q ++ [92, 62]).length ≤ 256
      omega
  unfold underV
  split
  · exact Nat.zero_le _
  · split
    · exact Nat.zero_le _
    · exact hf _
set_option maxHeartbeats 8000000 in
set_option maxRecDepth 100000 in
theorem walk (x0 : S24) (A0_0 : Option Addr) (c0_0 : Nat) (A0_1 : Option Addr) (c0_1 : Nat) (w : World) (hr0_0 : Kd.C (Kd.int .u8) w A0_0 x0.f0.length x0.f0) (hc0_0 : x0.f0.length ≤ c0_0) (hr0_1 : Kd.C (Kd.int .u8) w A0_1 x0.f1.length x0.f1) (hc0_1 : x0.f1.length ≤ c0_1) (o0 : okS24 x0) (hb : (szS24 x0 ≤ 1048576)) :
    Calls Tryd.prog 6 #[.agg #[.slice A0_0 x0.f0.length c0_0, .slice A0_1 x0.f1.length c0_1, .int .i64 x0.f2, .int .i64 x0.f3, .bool x0.f4]] w fun e w' => e = .returned (.bool true) ∧ Below w.heap.size w w' := by
  obtain ⟨t, q, p0, cnt, bk⟩ := x0
  obtain ⟨o1, o2, _, _, _⟩ := o0
  simp only at hr0_0 hc0_0 hr0_1 hc0_1 hb o1 o2 ⊢
  have hl0 : t.length ≤ 1048576 := by have := sum_len t; unfold szS24 szSl at hb; simp only at hb; omega
  have hm0 : ∀ x ∈ t, 0 ≤ x ∧ x ≤ 255 := fun x hx => o1.2 x hx
  have hu0 := u8_all t o1
  have hu1 := u8_all q o2
  clear hb o1 o2
  have HB := Aside0.mk (below_alloc (Below.refl w.heap.size w) (.cells #[.slice A0_0 t.length c0_0, .slice A0_1 q.length c0_1, .int .i64 p0, .int .i64 cnt, .bool bk] 24))
  have BX := Aside0.mk (blk_new w (.cells #[.slice A0_0 t.length c0_0, .slice A0_1 q.length c0_1, .int .i64 p0, .int .i64 cnt, .bool bk] 24))
  have HA : ∀ W, Aside0 _ := fun W => ⟨awake_calls (w := W)⟩
  have HC : Aside0 (∀ W, Below w.heap.size w W → Calls Tryd.prog 11 #[.agg #[.slice A0_0 t.length c0_0, .slice A0_1 q.length c0_1, .int .i64 p0, .int .i64 cnt, .bool bk]] W fun e w' => ∃ v, e = .returned (.tuple #[v, .bool (compileV q).1.isSome]) ∧ Below W.heap.size W w' ∧ PatO w' W.heap.size v (compileV q).1) := ⟨fun W h => compiled_calls (Kd.C_below hr0_1 h) hu1⟩
  generalize (compileV q).1 = o at HC
  -- Next of a row that reads as some bytes
  have HN : Aside0 (∀ (pl : List PTh) (l : List Int) (W W' : World) (v : Value) (base : Nat) (A : Option Addr) (c : Nat) (p c' : Int) (b : Bool), PatO W base v (some pl) → Below W.heap.size W W' → (Kd.int .u8).C W' A l.length l → l.length ≤ c → l.length ≤ 1048576 → (∀ x ∈ l, 0 ≤ x ∧ x ≤ 255) → Calls Tryd.prog 10 #[.slice A l.length c, .int .i64 p, .int .i64 c', v, .bool b] W' fun e w' => e = .returned (.tuple #[.agg #[.int .i64 (huntV l.length (hitsV l pl) p c' b).1.1, .int .i64 (huntV l.length (hitsV l pl) p c' b).1.2.1, .int .i64 (huntV l.length (hitsV l pl) p c' b).1.2.2], .int .i64 (huntV l.length (hitsV l pl) p c' b).2]) ∧ Below W'.heap.size W' w') := ⟨fun pl l W W' v base A c p c' b hp h2 hC hlc hl hm => hunt_calls hC (rd_mem (P := fun x => 0 ≤ x ∧ x ≤ 255) l hm (by decide)) (by omega) hlc (PatO_below hp h2)⟩
  have HU : Aside0 (∀ (W' : World) (A : Option Addr) (c : Nat), (Kd.int .u8).C W' A t.length t → t.length ≤ c → Calls Tryd.prog 15 #[.slice A t.length c, .int .i64 p0] W' fun e w' => ∃ v, e = .returned (.tuple #[v, .int .i64 (underV t p0).2]) ∧ Below W'.heap.size W' w' ∧ (Kd.int .u8).R 5 w' W'.heap.size (fun _ => True) v (underV t p0).1) := ⟨fun W' A c hC hlc => under_calls hC hu0 (by omega) hlc⟩
  have hVb := under_len t p0
  generalize underV t p0 = un at HU hVb
  obtain ⟨V, ue⟩ := un
  simp only at HU hVb
  have HT := Aside0.mk (And.intro hr0_0 (And.intro hu0 hm0))
  clear hr0_0 hr0_1 hu0 hu1 hm0
  cases o with
  | none =>
    simp only [Option.isSome_none] at HC
    go_enter Tryd.func6, Tryd.ntmps6
    go_wp2_with (first
      | (go_at_call 9; (with_reducible refine (HA _).out.mono ?_); rintro e w1 ⟨rfl, hx⟩; have BK := Aside0.mk (blk_below BX.out hx); have H1 := Aside0.mk (below_step HB.out hx); clear hx; have c0 := (blk_cell BK.out 0).trans rfl; have c1 := (blk_cell BK.out 1).trans rfl; have c2 := (blk_cell BK.out 2).trans rfl; have c3 := (blk_cell BK.out 3).trans rfl; have c4 := (blk_cell BK.out 4).trans rfl)
      | (go_at_call 11; (with_reducible refine (HC.out _ H1.out).mono ?_); rintro e w2 ⟨v2, rfl, hx, hp⟩; have BK2 := Aside0.mk (blk_below BK.out hx); have H2 := Aside0.mk (And.intro (below_step H1.out hx) hp); clear hx hp; have d0 := fun o_ => (blk_cell (blk_alloc BK2.out o_) 0).trans rfl))
    exact bodyPost_ret (v := .bool true) (by simp [results, Tryd.results6, go_sem]) rfl ⟨rfl, H2.out.1⟩
  | some pl =>
    simp only [Option.isSome_some] at HC
    replace HN := Aside0.mk (HN.out pl)
    go_enter Tryd.func6, Tryd.ntmps6
    go_wp2_with (first
      | (go_at_call 9; (with_reducible refine (HA _).out.mono ?_); rintro e w1 ⟨rfl, hx⟩; have BK := Aside0.mk (blk_below BX.out hx); have H1 := Aside0.mk (below_step HB.out hx); clear hx; have c0 := (blk_cell BK.out 0).trans rfl; have c1 := (blk_cell BK.out 1).trans rfl; have c2 := (blk_cell BK.out 2).trans rfl; have c3 := (blk_cell BK.out 3).trans rfl; have c4 := (blk_cell BK.out 4).trans rfl)
      | (go_at_call 11; (with_reducible refine (HC.out _ H1.out).mono ?_); rintro e w2 ⟨v2, rfl, hx, hp⟩; have BK2 := Aside0.mk (blk_below BK.out hx); have H2 := Aside0.mk (And.intro (below_step H1.out hx) hp); clear hx hp; have d0 := fun o_ => (blk_cell (blk_alloc BK2.out o_) 0).trans rfl)
      | (at_builtin; refine Kd.R_append_row (Value.int .u8) (0 : Int) (h1 := fun _ => rfl) (w0 := w2) w2.heap.size rfl (.tmp 28) (.tmp 30) 22 5 (.int .u8 0) 1 rfl Tryd.underlying22 infoB rfl (by decide) (.slice (some ⟨w2.heap.size, 0, none⟩) 0 0) [] t A0_0 t.length c0_0 (fun _ => True) rfl rfl (fun _ _ => trivial) (empty_R w2) (Kd.C_below HT.out.1 (below_alloc H2.out.1 (.cells #[] 5))) (below_alloc (Below.refl _ _) (.cells #[] 5)) (by simp only [World.size_alloc]; omega) (by simp only [List.length_nil]; omega) ?_; intro v3 w3 hR hB _ _; have H3 := Aside0.mk (And.intro hR hB); clear hR hB)
      | (at_builtin; refine Kd.R_append_row (Value.int .u8) (0 : Int) (h1 := fun _ => rfl) (w0 := w2) w2.heap.size rfl (.tmp 31) (.tmp 32) 22 5 (.int .u8 0) 1 rfl Tryd.underlying22 infoB rfl (by decide) v3 ([] ++ t) [97, 97] (some ⟨w3.heap.size, 0, none⟩) 2 2 (fun _ => True) rfl rfl (fun _ _ => trivial) (Kd.R_alloc H3.out.1 (.cells #[.int .u8 97, .int .u8 97] 5)) (u8_C (xs := [97, 97]) (fr := (0, 0)) (blk_new w3 _) (by decide)) (H3.out.2.alloc H3.out.2.size _) (Nat.le_trans H3.out.2.size (by simp only [World.size_alloc]; omega)) (by simp only [List.nil_append]; omega) ?_; intro v4 w4 hR hB _ _; have H4 := Aside0.mk (And.intro hR hB); clear hR hB; refine Hid.out ?_))
    have hLe : [] ++ t ++ [97, 97] = t ++ [97, 97] := by simp
    rw [hLe] at H4
    clear hLe
    obtain ⟨gr, cr, er⟩ := R_head H4.out.1 (by simp)
    have hLl : (t ++ [97, 97]).length = t.length + 2 := by simp
    rw [hLl] at er
    subst er
    have hcr : t.length + 2 ≤ cr := by have h := (Kd.R_reads' H4.out.1).2.1; exact h
    obtain ⟨i0, hi0, hsz⟩ : ∃ i, Tryd.prog.info? 5 = some i ∧ i.size = 1 := ⟨_, rfl, rfl⟩
    have hcut := cut_to (P := Tryd.prog) 22 5 .i64 Tryd.underlying22 hi0 (some ⟨gr, 0, none⟩) (t.length + 2) cr (t.length : Int) (by omega) (by omega) hcr
    rw [Int.toNat_natCast] at hcut
    clear hi0 hsz
    have HI := Aside0.mk (show (Kd.int .u8).C w4 (some ⟨gr, 0, none⟩) t.length t from by
      have h := Kd.C_take (m := t.length) (Kd.R_reads' H4.out.1).2.2 (by omega)
      rw [List.take_append_of_le_length (Nat.le_refl _), List.take_length] at h
      exact h)
    have hq1 := Kd.R_cell (W := w4) (enc := Value.int .u8) (h1 := fun _ => rfl) (g := gr) (cap := cr) (0 : Int) (by rw [hLl]; exact H4.out.1) (t.length : Int) (by omega) (by rw [hLl]; omega)
    have hq2 := Kd.R_cell (W := w4) (enc := Value.int .u8) (h1 := fun _ => rfl) (g := gr) (cap := cr) (0 : Int) (by rw [hLl]; exact H4.out.1) ((t.length + 1 : Nat) : Int) (by omega) (by rw [hLl]; omega)
    have hz1 : rdOf (0 : Int) (t ++ [97, 97]) (t.length : Int) = 97 := by unfold rdOf; rw [Int.toNat_natCast, List.getD_eq_getElem?_getD, List.getElem?_append_right (Nat.le_refl _), Nat.sub_self]; rfl
    have hz2 : rdOf (0 : Int) (t ++ [97, 97]) ((t.length + 1 : Nat) : Int) = 97 := by unfold rdOf; rw [Int.toNat_natCast, List.getD_eq_getElem?_getD, List.getElem?_append_right (by omega), show t.length + 1 - t.length = 1 from by omega]; rfl
    rw [hz1, Int.toNat_natCast] at hq1
    rw [hz2, Int.toNat_natCast] at hq2
    replace hq1 := hq1.1
    replace hq2 := hq2.1
    have HQ := Aside0.mk (And.intro hq1 hq2)
    clear hq1 hq2 hz1 hz2 H3
    have BK4 := Aside0.mk (blk_below BK2.out H4.out.2)
    have HNr : Aside0 (∀ (W' : World) (A : Option Addr) (c : Nat), Below w2.heap.size w2 W' → (Kd.int .u8).C W' A t.length t → t.length ≤ c → Calls Tryd.prog 10 #[.slice A t.length c, .int .i64 p0, .int .i64 cnt, v2, .bool bk] W' fun e w' => e = .returned (.tuple #[.agg #[.int .i64 (huntV t.length (hitsV t pl) p0 cnt bk).1.1, .int .i64 (huntV t.length (hitsV t pl) p0 cnt bk).1.2.1, .int .i64 (huntV t.length (hitsV t pl) p0 cnt bk).1.2.2], .int .i64 (huntV t.length (hitsV t pl) p0 cnt bk).2]) ∧ Below W'.heap.size W' w') := ⟨fun W' A c h1 h2 h3 => HN.out t w2 W' v2 _ A c p0 cnt bk H2.out.2 h1 h2 h3 hl0 HT.out.2.2⟩
    generalize huntV t.length (hitsV t pl) p0 cnt bk = r at HNr
    obtain ⟨⟨r1, r2, r3⟩, re⟩ := r
    simp only at HNr
    have x4 := (blk_cell BK4.out 0).trans rfl
    have x4_2 := (blk_cell BK4.out 2).trans rfl
    have x4_3 := (blk_cell BK4.out 3).trans rfl
    have x4_4 := (blk_cell BK4.out 4).trans rfl
    refine Lib.hid ?_
    go_wp2_with (first
      | (go_at_call 10; (with_reducible refine (HNr.out _ _ _ H4.out.2 HI.out (by omega)).mono ?_); rintro e w7 ⟨rfl, hx⟩; have BK7 := Aside0.mk (blk_below BK4.out hx); have H7 := Aside0.mk hx; clear hx; have x7_2 := fun o_ => (blk_cell (blk_alloc BK7.out o_) 2).trans rfl)
      | (go_at_call 15; (with_reducible refine (HU.out _ _ _ (Kd.C_below HI.out (below_alloc H7.out (.cells #[.int .i64 r1, .int .i64 r2, .int .i64 r3] 27))) (by omega)).mono ?_); rintro e w9 ⟨u0, rfl, hx, hr⟩; have BK9 := Aside0.mk (blk_below (blk_alloc BK7.out (.cells #[.int .i64 r1, .int .i64 r2, .int .i64 r3] 27)) hx); have H9 := Aside0.mk (And.intro hx hr); clear hx hr; obtain ⟨Au, cu, eu⟩ := Kd.R_slice H9.out.2; subst eu; have x9_2 := (blk_cell BK9.out 2).trans rfl)
      | (go_at_call 15; (with_reducible refine (HU.out _ _ _ (Kd.C_below (Kd.C_below HI.out (below_alloc H7.out (.cells #[.int .i64 r1, .int .i64 r2, .int .i64 r3] 27))) H9.out.1) (by omega)).mono ?_); rintro e w10 ⟨v0, rfl, hx, hr⟩; have BK10 := Aside0.mk (blk_below BK9.out hx); have H10 := Aside0.mk (And.intro hx hr); clear hx hr; obtain ⟨Av, cv, ev⟩ := Kd.R_slice H10.out.2; subst ev; refine Hid.out ?_))
    have hB7 := Aside0.mk (And.intro (blk_below (blk_new w7 (.cells #[.int .i64 r1, .int .i64 r2, .int .i64 r3] 27)) H9.out.1) (And.intro (blk_below (blk_below (blk_new w7 (.cells #[.int .i64 r1, .int .i64 r2, .int .i64 r3] 27)) H9.out.1) H10.out.1) (Nat.le_of_lt (show w7.heap.size < (w7.alloc (.cells #[.int .i64 r1, .int .i64 r2, .int .i64 r3] 27)).heap.size by simp only [World.size_alloc]; omega))))
    have HI8 := Kd.C_below HI.out (below_alloc H7.out (.cells #[.int .i64 r1, .int .i64 r2, .int .i64 r3] 27))
    have HR8 := Kd.R_below (Kd.R_mono (ok' := fun k => k < w7.heap.size) (Kd.R_bound H4.out.1) (fun k hk => Nat.lt_of_lt_of_le hk.2.2.1 H7.out.size)) (below_alloc H7.out (.cells #[.int .i64 r1, .int .i64 r2, .int .i64 r3] 27))
    have HW8 := below_step H4.out.2 (below_alloc H7.out (.cells #[.int .i64 r1, .int .i64 r2, .int .i64 r3] 27))
    have HC8 := pw_cell_below (below_alloc H7.out (.cells #[.int .i64 r1, .int .i64 r2, .int .i64 r3] 27)) HQ.out.1
    have HD8 := pw_cell_below (below_alloc H7.out (.cells #[.int .i64 r1, .int .i64 r2, .int .i64 r3] 27)) HQ.out.2
    have HK8 := blk_alloc BK7.out (.cells #[.int .i64 r1, .int .i64 r2, .int .i64 r3] 27)
    have H78 : w7.heap.size ≤ (w7.alloc (.cells #[.int .i64 r1, .int .i64 r2, .int .i64 r3] 27)).heap.size := by simp only [World.size_alloc]; omega
    have hN7 := Aside0.mk (blk_new w7 (.cells #[.int .i64 r1, .int .i64 r2, .int .i64 r3] 27))
    generalize (w7.alloc (.cells #[.int .i64 r1, .int .i64 r2, .int .i64 r3] 27)) = W8 at H9 HI8 HR8 HW8 HC8 HD8 hB7 HK8 H78 hN7
    have hS79 := Aside0.mk (show w7.heap.size ≤ w9.heap.size from Nat.le_trans H78 H9.out.1.size)
    have H8 := Aside0.mk (And.intro HI8 (And.intro HR8 (And.intro HW8 HK8)))
    have k1 := Kd.C_string (P := Tryd.prog) (c := cr) Tryd.underlying22 Tryd.underlying5 Tryd.underlying9 (Kd.C_below (Kd.C_below HI8 H9.out.1) H10.out.1)
    have k2 := Kd.C_string (P := Tryd.prog) (c := c0_0) Tryd.underlying22 Tryd.underlying5 Tryd.underlying9 (Kd.C_below HT.out.1 (below_step H2.out.1 (below_step (below_step HW8 H9.out.1) H10.out.1)))
    have k3 := Kd.C_string (P := Tryd.prog) (c := cu) Tryd.underlying22 Tryd.underlying5 Tryd.underlying9 (Kd.C_below (Kd.R_reads' H9.out.2).2.2 H10.out.1)
    have k4 := Kd.C_string (P := Tryd.prog) (c := cv) Tryd.underlying22 Tryd.underlying5 Tryd.underlying9 (Kd.R_reads' H10.out.2).2.2
    have q1 := pw_cell_below H10.out.1 (pw_cell_below H9.out.1 HC8)
    have q2 := pw_cell_below H10.out.1 (pw_cell_below H9.out.1 HD8)
    have x10 := (blk_cell BK10.out 0).trans rfl
    have q3 : (0 ≤ (t.length : Int)) = True := eq_true (by omega)
    have q4 : ((t.length : Int) < (t.length : Int) + 2) = True := eq_true (by omega)
    have q5 : ((t.length : Int) + 1 < (t.length : Int) + 2) = True := eq_true (by omega)
    have q6 : (0 ≤ (t.length : Int) + 1) = True := eq_true (by omega)
    clear HI8 HR8 HW8 HC8 HD8 HK8 x4 x4_2 x4_3 x4_4 x7_2 x9_2 c0 c1 c2 c3 c4 d0 HU HC HA
    refine Lib.hid ?_
    go_wp2
    have HU0 := Aside0.mk (Kd.R_below (Kd.R_mono (ok' := fun k => k < w9.heap.size ∨ w10.heap.size ≤ k) (Kd.R_bound H9.out.2) (fun k hk => .inl hk.2.2.1)) H10.out.1)
    have HV0 := Aside0.mk (Kd.R_mono (ok' := fun k => w9.heap.size ≤ k ∧ k < w10.heap.size) (Kd.R_bound H10.out.2) (fun k hk => ⟨hk.2.1, hk.2.2.1⟩))
    have HB10 := Aside0.mk (below_step H9.out.1 H10.out.1)
    clear k1 k2 k3 k4 q1 q2 x10
    go_loopg [14] V.length (fun g v14 wl => ∃ (i : Nat) (U : List Int), i + g = V.length ∧ U.length = V.length ∧ v14 = .int .i64 i ∧ Aside0 ((Kd.int .u8).R 5 wl W8.heap.size (fun k => k < w9.heap.size ∨ w10.heap.size ≤ k) (.slice Au V.length cu) U ∧ (Kd.int .u8).R 5 wl w9.heap.size (fun k => w9.heap.size ≤ k ∧ k < w10.heap.size) (.slice Av V.length cv) V ∧ Below W8.heap.size W8 wl ∧ w10.heap.size ≤ wl.heap.size))
    case atStart => exact ⟨0, V, by omega, rfl, rfl, ⟨HU0.out, HV0.out, HB10.out, Nat.le_refl _⟩⟩
    case round =>
      obtain ⟨i, U, hi, hUl, rfl, HL⟩ := hrel
      clear HU0 HV0 HB10
      cases gk with
      | succ g =>
        have hlt : i < V.length := by omega
        obtain ⟨gu, cu', eu⟩ := R_head HL.out.1 (by omega)
        injection eu with eu1 eu2 eu3
        subst eu1
        clear eu2 eu3
        have hu5 := Kd.R_cell (W := wr) (enc := Value.int .u8) (h1 := fun _ => rfl) (g := gu) (cap := cu) (0 : Int) (by rw [hUl]; exact HL.out.1) (i : Int) (by omega) (by omega)
        rw [Int.toNat_natCast] at hu5
        obtain ⟨hu6, hu7⟩ := hu5
        have hokg := HL.out.1.1 gu rfl
        have HUl := Aside0.mk hUl
        clear hUl
        have HP := Aside0.mk (And.intro (Kd.R_putg HL.out.1 (i : Int) 1) (And.intro (HL.out.2.2.1.setCell (p := ⟨gu, i, none⟩) (Kd.R_base HL.out.1 gu rfl) (.int .u8 1)) hokg))
        rw [Int.toNat_natCast] at HP
        have q8 : (0 ≤ (i : Int)) = True := eq_true (by omega)
        have q9 : ((i : Int) < (V.length : Int)) = True := eq_true (by omega)
        clear hokg
        go_wp2
        go_roundg g
        case measure => omega
        case rel =>
          refine ⟨i + 1, U.set i 1, by omega, by rw [List.length_set]; exact HUl.out, by go_num, ⟨HP.out.1.1, Kd.R_grown HL.out.2.1 HP.out.1.2 (fun k hk e => ?_), HP.out.2.1, ?_⟩⟩
          · injection e with e
            have := HP.out.2.2
            omega
          · have h := HL.out.2.2.2
            simpa [World.setCell] using h
      | zero =>
        have q7 : ((i : Int) < (V.length : Int)) = False := eq_false (by omega)
        go_wp2
        go_loopg [9, 15] 20 (fun g v9 v15 wl => ∃ (j : Nat) (U : List Int), j + g = 20 ∧ U.length = V.length + j ∧ v15 = .int .i64 j ∧ Aside0 ((Kd.int .u8).R 5 wl W8.heap.size (fun k => k < w9.heap.size ∨ w10.heap.size ≤ k) v9 U ∧ (Kd.int .u8).R 5 wl w9.heap.size (fun k => w9.heap.size ≤ k ∧ k < w10.heap.size) (.slice Av V.length cv) V ∧ Below W8.heap.size W8 wl ∧ w10.heap.size ≤ wl.heap.size))
        case atStart => exact ⟨0, U, by omega, by omega, rfl, HL⟩
        case round =>
          clear HL
          obtain ⟨j, U2, hj, hU2l, rfl, HL2⟩ := hrel
          obtain ⟨A9, c9, e9⟩ := Kd.R_slice HL2.out.1
          subst e9
          cases gk with
          | succ g =>
            have q10 : ((j : Int) < 20) = True := eq_true (by omega)
            go_wp2_with (at_builtin; refine Kd.R_append (Kd.int .u8) (w0 := W8) W8.heap.size rfl (.tmp 117) (.tmp 118) 22 5 (.int .u8 0) 1 rfl Tryd.underlying22 infoB rfl (by decide) (by decide) (.slice A9 U2.length c9) U2 2 [.int .u8 2] (fun k => k < w9.heap.size ∨ w10.heap.size ≤ k) (fun _ => False) rfl rfl rfl (fun _ hk => hk.elim) (fun k hk => .inr (Nat.le_trans HL2.out.2.2.2 hk)) HL2.out.1 HL2.out.2.2.1 HL2.out.2.2.1.size (by omega) ?_; intro v11 w11 hR hB hG hat; have H11 := Aside0.mk (And.intro hR (And.intro hB hG)); clear hR hB hG hat)
            go_roundg g
            case measure => omega
            case rel =>
              refine ⟨j + 1, U2 ++ [2], by omega, by rw [List.length_append, List.length_singleton]; omega, by go_num, ⟨H11.out.1, Kd.R_grown HL2.out.2.1 H11.out.2.2 (fun k hk e => ?_), H11.out.2.1, Nat.le_trans HL2.out.2.2.2 H11.out.2.2.size⟩⟩
              have := HL2.out.1.1 k e.symm
              omega
          | zero =>
            have q10 : ((j : Int) < 20) = False := eq_false (by omega)
            have q11 : (20 ≤ (U2.length : Int)) = True := eq_true (by omega)
            go_wp2
            have HL3 := Aside0.mk (And.intro (Kd.R_below H8.out.2.1 HL2.out.2.2.1) (And.intro HL2.out.2.1 (And.intro (below_step H8.out.2.2.1 HL2.out.2.2.1) (blk_below hN7.out HL2.out.2.2.1))))
            clear HL2 hU2l
            go_loopg [16] t.length (fun g v16 wl => ∃ (m : Nat) (L : List Int), m + g = t.length ∧ L.length = t.length + 2 ∧ v16 = .int .i64 m ∧ (∀ x ∈ L, 0 ≤ x ∧ x ≤ 255) ∧ Aside0 ((Kd.int .u8).R 5 wl w2.heap.size (fun k => k < w7.heap.size) (.slice (some ⟨gr, 0, none⟩) (t.length + 2) cr) L ∧ (Kd.int .u8).R 5 wl w9.heap.size (fun k => w9.heap.size ≤ k ∧ k < w10.heap.size) (.slice Av V.length cv) V ∧ Below w2.heap.size w2 wl ∧ wl.heap[w7.heap.size]? = some (.cells #[.int .i64 r1, .int .i64 r2, .int .i64 r3] 27)))
            case atStart => exact ⟨0, t ++ [97, 97], by omega, hLl, rfl, fun x hx => by
              rcases List.mem_append.1 hx with h | h
              · exact HT.out.2.2 x h
              · simp at h; omega, HL3⟩
            case round =>
              clear HL3
              obtain ⟨m, L, hm, hLL, rfl, hLb, HL4⟩ := hrel
              cases gk with
              | succ g =>
                have hq1 := Kd.R_cell (W := wr) (enc := Value.int .u8) (h1 := fun _ => rfl) (g := gr) (cap := cr) (0 : Int) (by rw [hLL]; exact HL4.out.1) (m : Int) (by omega) (by omega)
                rw [Int.toNat_natCast] at hq1
                obtain ⟨hq2, hq3⟩ := hq1
                have hgk := HL4.out.1.1 gr rfl
                have HP := Aside0.mk (And.intro (Kd.R_putg HL4.out.1 (m : Int) 113) (And.intro (HL4.out.2.2.1.setCell (p := ⟨gr, m, none⟩) (Kd.R_base HL4.out.1 gr rfl) (.int .u8 113)) (And.intro hgk (blk_far HL4.out.2.2.2 (p := ⟨gr, m, none⟩) (by show w7.heap.size ≠ gr; omega) (.int .u8 113)))))
                rw [Int.toNat_natCast] at HP
                have HLb := Aside0.mk (And.intro hLb hLL)
                have q12 : (0 ≤ (m : Int)) = True := eq_true (by omega)
                have q13 : ((m : Int) < (t.length : Int)) = True := eq_true (by omega)
                clear hgk hLb hLL
                go_wp2
                go_roundg g
                case measure => omega
                case rel =>
                  refine ⟨m + 1, L.set m 113, by omega, by rw [List.length_set]; exact HLb.out.2, by go_num, fun x hx => ?_, ⟨HP.out.1.1, Kd.R_grown HL4.out.2.1 HP.out.1.2 (fun k hk e => ?_), HP.out.2.1, HP.out.2.2.2⟩⟩
                  · rcases List.mem_or_eq_of_mem_set hx with h | h
                    · exact HLb.out.1 x h
                    · omega
                  · injection e with e
                    have h1 := HP.out.2.2.1
                    have h2 := hS79.out
                    omega
              | zero =>
                have q13 : ((m : Int) < (t.length : Int)) = False := eq_false (by omega)
                have hCi := Kd.C_take (m := t.length) (Kd.R_reads' HL4.out.1).2.2 (by omega)
                have hte : (L.take t.length).length = t.length := by rw [List.length_take]; omega
                have hlb2 : ∀ x ∈ L.take t.length, 0 ≤ x ∧ x ≤ 255 := fun x hx => hLb x (List.mem_of_mem_take hx)
                have hN8 := HN.out (L.take t.length) w2 wr v2 _ (some ⟨gr, 0, none⟩) cr 0 1 true H2.out.2 HL4.out.2.2.1 hCi (by rw [hte]; omega) (by rw [hte]; omega) hlb2
                generalize huntV (L.take t.length).length (hitsV (L.take t.length) pl) 0 1 true = rr at hN8
                rw [hte] at hN8
                have HN8 := Aside0.mk hN8
                have heq : ∀ W : World, (Op.equalIn 10000 27 (.agg #[.int .i64 r1, .int .i64 r2, .int .i64 r3]) (.agg #[.int .i64 r1, .int .i64 r2, .int .i64 r3])).run Tryd.prog W = .ok true W := fun W => by
                  have h := eqT (r1, r2, r3) (r1, r2, r3) W
                  rw [show ((r1, r2, r3) == (r1, r2, r3)) = true from by simp] at h
                  exact h
                clear hN8 hCi hte hlb2 hLb hLL
                go_wp2_with (first
                  | (go_at_call 10; (with_reducible refine HN8.out.mono ?_); rintro e w12 ⟨rfl, hx⟩; have H12 := Aside0.mk (And.intro (below_step HL4.out.2.2.1 hx) (And.intro (Kd.R_below HL4.out.2.1 hx) (blk_below HL4.out.2.2.2 hx))); clear hx; have BK12 := Aside0.mk (blk_below BK2.out H12.out.1); have y0 := (blk_cell BK12.out 0).trans rfl; have y2 := (blk_cell BK12.out 2).trans rfl; have y3 := (blk_cell BK12.out 3).trans rfl; have y4 := (blk_cell BK12.out 4).trans rfl)
                  | (go_at_call 10; (with_reducible refine (HNr.out _ _ _ H12.out.1 (Kd.C_below HT.out.1 (below_step H2.out.1 H12.out.1)) (by omega)).mono ?_); rintro e w13 ⟨rfl, hx⟩; have H13 := Aside0.mk (below_step H12.out.1 hx); have B713 := blk_below H12.out.2.2 hx; have z0 := fun o_ => (blk_cell (blk_alloc B713 o_) 0).trans rfl; have z1 := fun o_ => (blk_cell (blk_alloc B713 o_) 1).trans rfl; have z2 := fun o_ => (blk_cell (blk_alloc B713 o_) 2).trans rfl; have z3 := fun o_ => Kd.C_string (P := Tryd.prog) (c := cv) Tryd.underlying22 Tryd.underlying5 Tryd.underlying9 (Kd.C_alloc (Kd.C_below (Kd.R_reads' H12.out.2.1).2.2 hx) o_); clear hx B713))
                exact bodyPost_ret (v := .bool true) (by simp [results, Tryd.results6, go_sem]) rfl ⟨rfl, below_step H2.out.1 (below_alloc H13.out _)⟩
end Go.Proofs.YtffpkldphkmjmaaDoor.WalkHuntKeeps
