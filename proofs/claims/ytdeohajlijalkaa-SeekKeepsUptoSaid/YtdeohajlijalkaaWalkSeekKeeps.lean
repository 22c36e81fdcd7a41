/-
  SeekKeeps: the walk.
  Conditions: what comes in is of bulk at most 1048576.
-/
import Derived.Test.YtdeohajlijalkaaSK
import Derived.Test.YtdeohajlijalkaaXS
import Derived.Test.YtdeohajlijalkaaX23
import Derived.Test.YtdeohajlijalkaaX13
import Derived.Test.YtdeohajlijalkaaX14
import Derived.Lib.Hide
namespace Go.Proofs.Ytdeohajlijalkaa.WalkSeekKeeps
open Go.RowKit Go.Proofs.YtdeohajlijalkaaW.PrintWords Go.Proofs.YtdeohajlijalkaaW.PrintLast Go.Proofs.YtdeohajlijalkaaW.PrintMore Go.Proofs.Ytdeohajlijalkaa.X Go.Proofs.Ytdeohajlijalkaa.XL Go.Proofs.Ytdeohajlijalkaa.XO Go.Proofs.Ytdeohajlijalkaa.LN Go.Proofs.Ytdeohajlijalkaa.SK
set_option linter.unusedVariables false
set_option linter.unusedSimpArgs false
theorem infoB : (Try.prog.info? 5).map (fun i => (i.zero, i.size, i.bytes)) = some (some (.int .u8 0), 1, 1) := by kernel_rfl
theorem sum_len (l : List Int) : l.length ≤ (l.map szOne).sum := by
  induction l with
  | nil => simp
  | cons x l ih => have : szOne x = 1 := rfl; simp only [List.map_cons, List.sum_cons, List.length_cons]; omega
/-- A row that isn't empty begins its block. -/
theorem R_head {e base : Nat} {ok : Nat → Prop} {w : World} {v : Value} {xs : List Int} (h : (Kd.int .u8).R e w base ok v xs) (hn : 0 < xs.length) : ∃ g c, v = .slice (some ⟨g, 0, none⟩) xs.length c := by
  have ho := Kd.own_of_R h
  rcases ho.2 with ⟨_, h0⟩ | ⟨g, cap, cur, hv, _⟩
  · omega
  · exact ⟨g, cap, hv⟩
theorem empty_R (w : World) : (Kd.int .u8).R 5 (w.alloc (.cells #[] 5)) w.heap.size (fun _ => True) (.slice (some ⟨w.heap.size, 0, none⟩) 0 0) [] := Kd.R_of_own (enc := Value.int .u8) (h1 := fun _ => rfl) ⟨rfl, .inr ⟨w.heap.size, 0, #[], rfl, Nat.le_refl _, heap_alloc_new w _, Nat.le_refl _, by simp [maxLen], rfl, rfl⟩⟩ (fun _ _ => trivial)
theorem u8_C {w : World} {b : Nat} {xs : List Int} {fr : Nat × Nat} (h : w.heap[b]? = some (.cells (xs.map (Value.int .u8)).toArray 5 fr)) (hl : xs.length ≤ 281474976710656) : Kd.C (Kd.int .u8) w (some ⟨b, 0, none⟩) xs.length xs := by
  refine Kd.C_of_reads (enc := Value.int .u8) (d := (0 : Int)) (h1 := fun _ => rfl) ⟨rfl, by omega, fun _ => ⟨_, rfl, fun j hj => ?_⟩⟩
  have h1 : w.cell? ⟨b, j, none⟩ = some (.int .u8 (xs.getD j 0)) := (cell_of_row w b j _ _ _ h).trans (by rw [List.getD_eq_getElem?_getD]; simp [hj])
  cases j with
  | zero => simpa [Addr.add] using h1
  | succ j => simpa [Addr.add] using h1
theorem xor_u8 (x y : Int) : 0 ≤ Go.bits .xor .u8 x y ∧ Go.bits .xor .u8 x y ≤ 255 := by
  unfold Go.bits
  simp only [IntKind.wrap, IntKind.bits, IntKind.signed]
  simp
  omega
theorem eqiH (d : Nat) (x y : Int) (w : World) : (Op.equalIn (d + 1) 3 (.int .i64 x) (.int .i64 y)).run Try.prog w = .ok (x == y) w := by
  simp only [Op.equalIn, Sem.run_bind, run_underlying Try.underlying3, Result.andThen_ok]
  simp
theorem eqT (x y z : Int) (w : World) : (Op.equalIn 10000 29 (.agg #[.int .i64 x, .int .i64 y, .int .i64 z]) (.agg #[.int .i64 x, .int .i64 y, .int .i64 z])).run Try.prog w = .ok true w := by
  have h := eqA_of (P := Try.prog) (d := 9999) (xs := #[.int .i64 x, .int .i64 y, .int .i64 z]) (ys := #[.int .i64 x, .int .i64 y, .int .i64 z]) (w := w) Try.underlying29 (by kernel_rfl)
    (eqf_cons (by rfl) (show (part 3 _ 0).run Try.prog w = .ok (.int .i64 x) w by kernel_rfl) (show (part 3 _ 0).run Try.prog w = .ok (.int .i64 x) w by kernel_rfl) (eqiH 9998 x x w)
      (eqf_cons (by rfl) (show (part 3 _ 1).run Try.prog w = .ok (.int .i64 y) w by kernel_rfl) (show (part 3 _ 1).run Try.prog w = .ok (.int .i64 y) w by kernel_rfl) (eqiH 9998 y y w)
        (eqf_last (by rfl) (show (part 3 _ 2).run Try.prog w = .ok (.int .i64 z) w by kernel_rfl) (show (part 3 _ 2).run Try.prog w = .ok (.int .i64 z) w by kernel_rfl) (eqiH 9998 z z w))))
  rw [beq_self_eq_true, beq_self_eq_true, beq_self_eq_true] at h
  exact h
set_option maxHeartbeats 8000000 in
set_option maxRecDepth 100000 in
theorem walk (x0 : S26) (A0_0 : Option Addr) (c0_0 : Nat) (w : World) (hr0_0 : Kd.C (Kd.int .u8) w A0_0 x0.f0.length x0.f0) (hc0_0 : x0.f0.length ≤ c0_0) (o0 : okS26 x0) (hb : (szS26 x0 ≤ 1048576)) :
    Calls Try.prog 8 #[.agg #[.slice A0_0 x0.f0.length c0_0, .int .i64 x0.f1, .int .i64 x0.f2, .int .u8 x0.f3.f0, .int .u8 x0.f3.f1, .bool x0.f4]] w fun e w' => e = .returned (.bool true) ∧ Below w.heap.size w w' := by
  obtain ⟨t, p0, cnt, ⟨key, arg⟩, z⟩ := x0
  obtain ⟨o1, _, _, ⟨ok1, ok2⟩, _⟩ := o0
  simp only at hr0_0 hc0_0 hb o1 ok1 ok2 ⊢
  have hl0 : t.length ≤ 1048576 := by have := sum_len t; unfold szS26 szSl at hb; simp only at hb; omega
  have hm0 : ∀ x ∈ t, 0 ≤ x ∧ x ≤ 255 := fun x hx => o1.2 x hx
  have hga : 0 ≤ arg ∧ arg ≤ 255 := ok2
  clear hb o1 ok1 ok2
  have HB := Aside0.mk (below_alloc (Below.refl w.heap.size w) (.cells #[.slice A0_0 t.length c0_0, .int .i64 p0, .int .i64 cnt, .int .u8 key, .int .u8 arg, .bool z] 26))
  have BX := Aside0.mk (blk_new w (.cells #[.slice A0_0 t.length c0_0, .int .i64 p0, .int .i64 cnt, .int .u8 key, .int .u8 arg, .bool z] 26))
  have hu : ∀ l : List Int, (∀ x ∈ l, 0 ≤ x ∧ x ≤ 255) → u8s l = true := fun l h => List.all_eq_true.2 fun x hx => decide_eq_true (h x hx)
  have HA : Aside0 (∀ W : World, Calls Try.prog 9 #[] W fun e w' => e = .returned (.bool true) ∧ Below W.heap.size W w') := by
    obtain ⟨k, h⟩ := awake_ev
    exact ⟨fun W => quoinlaw09_awake.calls k true W (h k (Nat.le_refl _))⟩
  have HM : Aside0 (∀ l : List Int, l.length ≤ 1048576 → (∀ x ∈ l, 0 ≤ x ∧ x ≤ 255) → ∃ r1 r2 r3 re : Int, ∀ (W : World) (A : Option Addr) (c : Nat), (Kd.int .u8).C W A l.length l → l.length ≤ c → Calls Try.prog 11 #[.slice A l.length c, .int .i64 p0, .int .i64 cnt, .agg #[.int .u8 key, .int .u8 arg]] W fun e w' => e = .returned (.tuple #[.agg #[.int .i64 r1, .int .i64 r2, .int .i64 r3], .int .i64 re]) ∧ Below W.heap.size W w') := by
    refine ⟨fun l hl hx => ?_⟩
    obtain ⟨k, h⟩ := Move_ev (hu l hx) (by omega) p0 cnt key arg
    exact ⟨_, _, _, _, fun W A c hC hc => seek_Move.calls k A c l p0 cnt key arg _ _ _ _ W hC hc (h k (Nat.le_refl _))⟩
  have HG : Aside0 (∃ r1 r2 r3 re : Int, ∀ (W : World) (A : Option Addr) (c : Nat), (Kd.int .u8).C W A t.length t → t.length ≤ c → Calls Try.prog 13 #[.slice A t.length c, .int .i64 p0, .int .i64 cnt, .agg #[.int .u8 key, .int .u8 arg], .bool z] W fun e w' => e = .returned (.tuple #[.agg #[.int .i64 r1, .int .i64 r2, .int .i64 r3], .int .i64 re]) ∧ Below W.heap.size W w') := by
    refine ⟨?_⟩
    obtain ⟨k, h⟩ := Again_ev (hu t hm0) (by omega) p0 cnt key arg z
    exact ⟨_, _, _, _, fun W A c hC hc => seek_Again.calls k A c t p0 cnt key arg z _ _ _ _ W hC hc (h k (Nat.le_refl _))⟩
  clear hu
  have HG2 := HG.out
  obtain ⟨a1, a2, a3, ae, HG2⟩ := HG2
  have HG3 := Aside0.mk HG2
  have HM2 := HM.out t hl0 hm0
  obtain ⟨m1, m2, m3, me, HM2⟩ := HM2
  have HM3 := Aside0.mk HM2
  clear HG2 HM2 HG
  have HT := Aside0.mk (And.intro hr0_0 hm0)
  clear hr0_0 hm0
  go_enter Try.func8, Try.ntmps8
  go_wp2_with (first
    | (go_at_call 9; (with_reducible refine (HA.out _).mono ?_); rintro e w2 ⟨rfl, hx⟩; have BK2 := Aside0.mk (blk_below BX.out hx); have H2 := Aside0.mk (below_step HB.out hx); clear hx; have d0 := (blk_cell BK2.out 0).trans rfl; have do0 := fun o_ => (blk_cell (blk_alloc BK2.out o_) 0).trans rfl)
    | fail)
  refine start_ (n := 13) (S := fun w' => w'.cell? ⟨w.heap.size, 0, none⟩ = some (.slice A0_0 t.length c0_0) ∧ w'.cell? ⟨w.heap.size, 4, none⟩ = some (.int .u8 arg)) (ds := []) #[false, false, false, false, false, false, false, false, false, false, false, false, false] (by kernel_rfl) rfl rfl ⟨(blk_cell (blk_drew BK2.out) 0).trans rfl, (blk_cell (blk_drew BK2.out) 4).trans rfl⟩ (fun hHeld => ?_)
  have HB0 := Aside0.mk (below_drew (Below.refl w2.heap.size w2))
  generalize w2.drew = Wc0 at HB0 hHeld ⊢
  refine pure_ (i := 1) (N := some 22) (v := ?_) (a' := ?_) #[false, true, false, false, false, false, false, false, false, false, false, false, false] rfl rfl (by kernel_rfl) (fun _ _ _ h => h) (Or.inl ⟨by rfl, ?_⟩) ?_ ?_
  rotate_left
  · intro w'
    go_simp
    with_reducible rfl
  rotate_left
  · simp only [Act.put, List.setIfInBounds_toArray, List.set_cons_zero, List.set_cons_succ, i64_w, i32_w]
    rfl
  refine pure_ (i := 4) (N := some 25) (v := ?_) (a' := ?_) #[false, true, false, false, true, false, false, false, false, false, false, false, false] rfl rfl (by kernel_rfl) (fun _ _ _ h => h) (Or.inl ⟨by rfl, ?_⟩) ?_ ?_
  rotate_left
  · intro w'
    go_simp
    with_reducible rfl
  rotate_left
  · simp only [Act.put, List.setIfInBounds_toArray, List.set_cons_zero, List.set_cons_succ, i64_w, i32_w]
    rfl
  refine pure_ (i := 5) (N := some 26) (v := ?_) (a' := ?_) #[false, true, false, false, true, true, false, false, false, false, false, false, false] rfl rfl (by kernel_rfl) (fun _ _ _ h => h) (Or.inl ⟨by rfl, ?_⟩) ?_ ?_
  rotate_left
  · intro w'
    go_simp
    with_reducible rfl
  rotate_left
  · simp only [Act.put, List.setIfInBounds_toArray, List.set_cons_zero, List.set_cons_succ, i64_w, i32_w]
    rfl
  refine pure_ (i := 7) (N := some 28) (v := ?_) (a' := ?_) #[false, true, false, false, true, true, false, true, false, false, false, false, false] rfl rfl (by kernel_rfl) (fun _ _ _ h => h) (Or.inl ⟨by rfl, ?_⟩) ?_ ?_
  rotate_left
  · intro w'
    go_simp
    with_reducible rfl
  rotate_left
  · simp only [Act.put, List.setIfInBounds_toArray, List.set_cons_zero, List.set_cons_succ, i64_w, i32_w]
    rfl
  refine pure_ (i := 8) (N := some 29) (v := ?_) (a' := ?_) #[false, true, false, false, true, true, false, true, true, false, false, false, false] rfl rfl (by kernel_rfl) (fun _ _ _ h => h) (Or.inl ⟨by rfl, ?_⟩) ?_ ?_
  rotate_left
  · intro w'
    go_simp
    with_reducible rfl
  rotate_left
  · simp only [Act.put, List.setIfInBounds_toArray, List.set_cons_zero, List.set_cons_succ, i64_w, i32_w]
    rfl
  refine take_ (i := 2) (N := some 23) (v := ?_) (a' := ?_) #[false, true, true, false, true, true, false, true, true, false, false, false, false] rfl rfl (by kernel_rfl) (fun _ _ _ h => h) (Or.inl ⟨by rfl, ?_⟩) hHeld ?_ ?_
  rotate_left
  · rintro w' ⟨s0, s1⟩
    go_simp
    with_reducible rfl
  rotate_left
  · simp only [Act.put, List.setIfInBounds_toArray, List.set_cons_zero, List.set_cons_succ, i64_w, i32_w]
    rfl
  refine take_ (i := 6) (N := some 27) (v := ?_) (a' := ?_) #[false, true, true, false, true, true, true, true, true, false, false, false, false] rfl rfl (by kernel_rfl) (fun _ _ _ h => h) (Or.inl ⟨by rfl, ?_⟩) hHeld ?_ ?_
  rotate_left
  · rintro w' ⟨s0, s1⟩
    go_simp
    with_reducible rfl
  rotate_left
  · simp only [Act.put, List.setIfInBounds_toArray, List.set_cons_zero, List.set_cons_succ, i64_w, i32_w]
    rfl
  refine take_ (i := 9) (N := some 30) (v := ?_) (a' := ?_) #[false, true, true, false, true, true, true, true, true, true, false, false, false] rfl rfl (by kernel_rfl) (fun _ _ _ h => h) (Or.inl ⟨by rfl, ?_⟩) hHeld ?_ ?_
  rotate_left
  · rintro w' ⟨s0, s1⟩
    go_simp
    with_reducible rfl
  rotate_left
  · simp only [Act.put, List.setIfInBounds_toArray, List.set_cons_zero, List.set_cons_succ, i64_w, i32_w]
    rfl
  refine join_ (σ := Nat × Value × Nat) 2 #[true, true, true, true, true, true, true, true, true, true, true, false, false] (fun s_ => [(21, .slice (some ⟨s_.1, 0, none⟩) 0 0), (24, s_.2.1), (31, .slice (some ⟨s_.2.2, 0, none⟩) 2 2)]) (fun s_ w' => (w'.cell? ⟨w.heap.size, 0, none⟩ = some (.slice A0_0 t.length c0_0) ∧ w'.cell? ⟨w.heap.size, 4, none⟩ = some (.int .u8 arg)) ∧ (Kd.int .u8).R 5 w' w2.heap.size (fun _ => True) s_.2.1 t ∧ w'.heap[s_.2.2]? = some (.cells #[.int .u8 arg, .int .u8 arg] 5) ∧ Below w2.heap.size w2 w') ?_ ?_
  rotate_left
  · intro hCont
    refine two_ (i := 0) (j := 10) (Ni := some 21) (Nj := some 31) #[true, true, true, false, true, true, true, true, true, true, false, false, false] #[false, true, true, false, true, true, true, true, true, true, true, false, false] rfl rfl rfl rfl (by kernel_rfl) (by decide) (by decide) (fun K hK => ?_) (fun K hK => ?_)
    · skip
      refine value_ (w1 := ?_) (v := ?_) (by rfl) rfl ?_ ?_
      rotate_left 2
      · go_simp
        constructor
        · rfl
        · rfl
      have HB1 := Aside0.mk (below_alloc HB0.out (.cells #[] 5))
      have HE1 := Aside0.mk (Kd.R_lower (empty_R Wc0) HB0.out.size)
      have HZ1 := Aside0.mk (show Wc0.heap.size < (Wc0.alloc (.cells #[] 5)).heap.size by simp only [World.size_alloc]; omega)
      generalize (Wc0.alloc (.cells #[] 5)) = Wc1 at HB1 HE1 HZ1 ⊢
      refine hK.out _ _ ⟨(blk_cell (blk_below BK2.out HB1.out) 0).trans rfl, (blk_cell (blk_below BK2.out HB1.out) 4).trans rfl⟩ (fun hHeld => ?_)
      clear hK K
      refine norm_ (a' := ?_) ?_ ?_
      rotate_left
      · show Act.put _ (some 21) _ = _
        simp only [Act.put, List.setIfInBounds_toArray, List.set_cons_zero, List.set_cons_succ, i64_w, i32_w]
        rfl
      refine two_ (i := 3) (j := 10) (Ni := some 24) (Nj := some 31) #[true, true, true, true, true, true, true, true, true, true, false, false, false] #[true, true, true, false, true, true, true, true, true, true, true, false, false] rfl rfl rfl rfl (by kernel_rfl) (by decide) (by decide) (fun K hK => ?_) (fun K hK => ?_)
      · skip
        refine Kd.R_append_rows_step (Kd.int .u8) (Rr := (Kd.int .u8).K Wc1) (w0 := w2) w2.heap.size (by rfl) (.tmp 21) (.tmp 23) 22 5 (.int .u8 0) 1 rfl Try.underlying22 infoB rfl (by decide) (by omega) (.slice (some ⟨Wc0.heap.size, 0, none⟩) 0 0) [] t A0_0 t.length c0_0 (fun _ => True) (fun _ => False) rfl rfl HE1.out (Kd.C_below HT.out.1 (below_step H2.out HB1.out)) (fun _ _ h => h) (fun _ h => h.elim) (fun _ _ => trivial) HB1.out HB1.out.size (by simp only [List.length_nil]; omega) ?_
        intro v3 Wc2 hR hB hG _
        rw [List.nil_append] at hR
        have HV2 := Aside0.mk hR
        have HB2 := Aside0.mk hB
        clear hR hB hG
        refine hK.out _ _ ⟨(blk_cell (blk_below BK2.out HB2.out) 0).trans rfl, (blk_cell (blk_below BK2.out HB2.out) 4).trans rfl⟩ (fun hHeld => ?_)
        clear hK K
        refine norm_ (a' := ?_) ?_ ?_
        rotate_left
        · show Act.put _ (some 24) _ = _
          simp only [Act.put, List.setIfInBounds_toArray, List.set_cons_zero, List.set_cons_succ, i64_w, i32_w]
          rfl
        refine one_ (i := 10) (N := some 31) #[true, true, true, true, true, true, true, true, true, true, true, false, false] rfl rfl (by kernel_rfl) (by decide) (fun K hK => ?_)
        refine value_ (w1 := ?_) (v := ?_) (by rfl) rfl ?_ ?_
        rotate_left 2
        · go_simp
          constructor
          · rfl
          · rfl
        have HB3 := Aside0.mk (below_alloc HB2.out (.cells #[.int .u8 arg, .int .u8 arg] 5))
        have HP3 := Aside0.mk (blk_new Wc2 (.cells #[.int .u8 arg, .int .u8 arg] 5))
        have HV3 := Aside0.mk (Kd.R_alloc HV2.out (.cells #[.int .u8 arg, .int .u8 arg] 5))
        generalize (Wc2.alloc (.cells #[.int .u8 arg, .int .u8 arg] 5)) = Wc3 at HB3 HP3 HV3 ⊢
        refine hK.out _ _ ⟨(blk_cell (blk_below BK2.out HB3.out) 0).trans rfl, (blk_cell (blk_below BK2.out HB3.out) 4).trans rfl⟩ (fun hHeld => ?_)
        clear hK K
        refine norm_ (a' := ?_) ?_ ?_
        rotate_left
        · show Act.put _ (some 31) _ = _
          simp only [Act.put, List.setIfInBounds_toArray, List.set_cons_zero, List.set_cons_succ, i64_w, i32_w]
          rfl
        exact norm_ (by simp only [putAll, Act.put, List.setIfInBounds_toArray, List.set_cons_zero, List.set_cons_succ]) (hCont (Wc0.heap.size, v3, Wc2.heap.size) _ ⟨hHeld, HV3.out, HP3.out, HB3.out⟩)
      · skip
        refine value_ (w1 := ?_) (v := ?_) (by rfl) rfl ?_ ?_
        rotate_left 2
        · go_simp
          constructor
          · rfl
          · rfl
        have HB2 := Aside0.mk (below_alloc HB1.out (.cells #[.int .u8 arg, .int .u8 arg] 5))
        have HP2 := Aside0.mk (blk_new Wc1 (.cells #[.int .u8 arg, .int .u8 arg] 5))
        have HE2 := Aside0.mk (Kd.R_alloc HE1.out (.cells #[.int .u8 arg, .int .u8 arg] 5))
        have HN := Aside0.mk (show Wc0.heap.size < Wc1.heap.size from HZ1.out)
        generalize (Wc1.alloc (.cells #[.int .u8 arg, .int .u8 arg] 5)) = Wc2 at HB2 HP2 HE2 ⊢
        refine hK.out _ _ ⟨(blk_cell (blk_below BK2.out HB2.out) 0).trans rfl, (blk_cell (blk_below BK2.out HB2.out) 4).trans rfl⟩ (fun hHeld => ?_)
        clear hK K
        refine norm_ (a' := ?_) ?_ ?_
        rotate_left
        · show Act.put _ (some 31) _ = _
          simp only [Act.put, List.setIfInBounds_toArray, List.set_cons_zero, List.set_cons_succ, i64_w, i32_w]
          rfl
        refine one_ (i := 3) (N := some 24) #[true, true, true, true, true, true, true, true, true, true, true, false, false] rfl rfl (by kernel_rfl) (by decide) (fun K hK => ?_)
        refine Kd.R_append_rows_step (Kd.int .u8) (Rr := (Kd.int .u8).K Wc2) (w0 := w2) w2.heap.size (by rfl) (.tmp 21) (.tmp 23) 22 5 (.int .u8 0) 1 rfl Try.underlying22 infoB rfl (by decide) (by omega) (.slice (some ⟨Wc0.heap.size, 0, none⟩) 0 0) [] t A0_0 t.length c0_0 (fun _ => True) (fun _ => False) rfl rfl HE2.out (Kd.C_below HT.out.1 (below_step H2.out HB2.out)) (fun _ _ h => h) (fun _ h => h.elim) (fun _ _ => trivial) HB2.out HB2.out.size (by simp only [List.length_nil]; omega) ?_
        intro v3 Wc3 hR hB hG _
        rw [List.nil_append] at hR
        have HV3 := Aside0.mk hR
        have HB3 := Aside0.mk hB
        have HP3 := Aside0.mk ((hG.block Wc1.heap.size (blk_lt HP2.out) (fun e => by have h1 := HN.out; have h2 : Wc1.heap.size = Wc0.heap.size := Option.some.inj e; omega)).trans HP2.out)
        clear hR hB hG
        refine hK.out _ _ ⟨(blk_cell (blk_below BK2.out HB3.out) 0).trans rfl, (blk_cell (blk_below BK2.out HB3.out) 4).trans rfl⟩ (fun hHeld => ?_)
        clear hK K
        refine norm_ (a' := ?_) ?_ ?_
        rotate_left
        · show Act.put _ (some 24) _ = _
          simp only [Act.put, List.setIfInBounds_toArray, List.set_cons_zero, List.set_cons_succ, i64_w, i32_w]
          rfl
        exact norm_ (by simp only [putAll, Act.put, List.setIfInBounds_toArray, List.set_cons_zero, List.set_cons_succ]) (hCont (Wc0.heap.size, v3, Wc1.heap.size) _ ⟨hHeld, HV3.out, HP3.out, HB3.out⟩)
    · skip
      refine value_ (w1 := ?_) (v := ?_) (by rfl) rfl ?_ ?_
      rotate_left 2
      · go_simp
        constructor
        · rfl
        · rfl
      have HB1 := Aside0.mk (below_alloc HB0.out (.cells #[.int .u8 arg, .int .u8 arg] 5))
      have HP1 := Aside0.mk (blk_new Wc0 (.cells #[.int .u8 arg, .int .u8 arg] 5))
      generalize (Wc0.alloc (.cells #[.int .u8 arg, .int .u8 arg] 5)) = Wc1 at HB1 HP1 ⊢
      refine hK.out _ _ ⟨(blk_cell (blk_below BK2.out HB1.out) 0).trans rfl, (blk_cell (blk_below BK2.out HB1.out) 4).trans rfl⟩ (fun hHeld => ?_)
      clear hK K
      refine norm_ (a' := ?_) ?_ ?_
      rotate_left
      · show Act.put _ (some 31) _ = _
        simp only [Act.put, List.setIfInBounds_toArray, List.set_cons_zero, List.set_cons_succ, i64_w, i32_w]
        rfl
      refine one_ (i := 0) (N := some 21) #[true, true, true, false, true, true, true, true, true, true, true, false, false] rfl rfl (by kernel_rfl) (by decide) (fun K hK => ?_)
      refine value_ (w1 := ?_) (v := ?_) (by rfl) rfl ?_ ?_
      rotate_left 2
      · go_simp
        constructor
        · rfl
        · rfl
      have HB2 := Aside0.mk (below_alloc HB1.out (.cells #[] 5))
      have HE2 := Aside0.mk (Kd.R_lower (empty_R Wc1) HB1.out.size)
      have HZ2 := Aside0.mk (show Wc1.heap.size < (Wc1.alloc (.cells #[] 5)).heap.size by simp only [World.size_alloc]; omega)
      have HP2 := Aside0.mk (blk_alloc HP1.out (.cells #[] 5))
      have HN := Aside0.mk (show Wc0.heap.size < Wc1.heap.size from blk_lt HP1.out)
      generalize (Wc1.alloc (.cells #[] 5)) = Wc2 at HB2 HE2 HZ2 HP2 ⊢
      refine hK.out _ _ ⟨(blk_cell (blk_below BK2.out HB2.out) 0).trans rfl, (blk_cell (blk_below BK2.out HB2.out) 4).trans rfl⟩ (fun hHeld => ?_)
      clear hK K
      refine norm_ (a' := ?_) ?_ ?_
      rotate_left
      · show Act.put _ (some 21) _ = _
        simp only [Act.put, List.setIfInBounds_toArray, List.set_cons_zero, List.set_cons_succ, i64_w, i32_w]
        rfl
      refine one_ (i := 3) (N := some 24) #[true, true, true, true, true, true, true, true, true, true, true, false, false] rfl rfl (by kernel_rfl) (by decide) (fun K hK => ?_)
      refine Kd.R_append_rows_step (Kd.int .u8) (Rr := (Kd.int .u8).K Wc2) (w0 := w2) w2.heap.size (by rfl) (.tmp 21) (.tmp 23) 22 5 (.int .u8 0) 1 rfl Try.underlying22 infoB rfl (by decide) (by omega) (.slice (some ⟨Wc1.heap.size, 0, none⟩) 0 0) [] t A0_0 t.length c0_0 (fun _ => True) (fun _ => False) rfl rfl HE2.out (Kd.C_below HT.out.1 (below_step H2.out HB2.out)) (fun _ _ h => h) (fun _ h => h.elim) (fun _ _ => trivial) HB2.out HB2.out.size (by simp only [List.length_nil]; omega) ?_
      intro v3 Wc3 hR hB hG _
      rw [List.nil_append] at hR
      have HV3 := Aside0.mk hR
      have HB3 := Aside0.mk hB
      have HP3 := Aside0.mk ((hG.block Wc0.heap.size (blk_lt HP2.out) (fun e => by have h1 := HN.out; have h2 : Wc0.heap.size = Wc1.heap.size := Option.some.inj e; omega)).trans HP2.out)
      clear hR hB hG
      refine hK.out _ _ ⟨(blk_cell (blk_below BK2.out HB3.out) 0).trans rfl, (blk_cell (blk_below BK2.out HB3.out) 4).trans rfl⟩ (fun hHeld => ?_)
      clear hK K
      refine norm_ (a' := ?_) ?_ ?_
      rotate_left
      · show Act.put _ (some 24) _ = _
        simp only [Act.put, List.setIfInBounds_toArray, List.set_cons_zero, List.set_cons_succ, i64_w, i32_w]
        rfl
      exact norm_ (by simp only [putAll, Act.put, List.setIfInBounds_toArray, List.set_cons_zero, List.set_cons_succ]) (hCont (Wc1.heap.size, v3, Wc0.heap.size) _ ⟨hHeld, HV3.out, HP3.out, HB3.out⟩)
  rintro ⟨b21, v3, b31⟩ w3 ⟨hHeld, hR3, hP3, hB3⟩
  simp only at hHeld hR3 hP3 hB3
  have H3 := Aside0.mk (And.intro hR3 hB3)
  have HP3 := Aside0.mk hP3
  have HB3 := Aside0.mk hB3
  clear hR3 hP3 hB3
  refine norm_ (a' := ?_) ?_ ?_
  rotate_left
  · simp only [putAll, Act.put, List.setIfInBounds_toArray, List.set_cons_zero, List.set_cons_succ]
    rfl
  refine one_ (i := 11) (N := some 32) #[true, true, true, true, true, true, true, true, true, true, true, true, false] rfl rfl (by kernel_rfl) (by decide) (fun K hK => ?_)
  refine Kd.R_append_rows_step (Kd.int .u8) (Rr := (Kd.int .u8).K w3) (w0 := w2) w2.heap.size (by rfl) (.tmp 24) (.tmp 31) 22 5 (.int .u8 0) 1 rfl Try.underlying22 infoB rfl (by decide) (by omega) v3 t [arg, arg] (some ⟨b31, 0, none⟩) 2 2 (fun _ => True) (fun _ => False) rfl rfl H3.out.1 (u8_C (xs := [arg, arg]) (fr := (0, 0)) HP3.out (by simp)) (fun _ _ h => h) (fun _ h => h.elim) (fun _ _ => trivial) HB3.out HB3.out.size (by omega) ?_
  intro v4 w4 hR hB _ _
  have H4 := Aside0.mk (And.intro hR hB)
  clear hR hB
  refine hK.out _ _ ⟨(blk_cell (blk_below BK2.out H4.out.2) 0).trans rfl, (blk_cell (blk_below BK2.out H4.out.2) 4).trans rfl⟩ (fun hHeld => ?_)
  clear hK K
  refine norm_ (a' := ?_) ?_ ?_
  rotate_left
  · show Act.put _ (some 32) _ = _
    simp only [Act.put, List.setIfInBounds_toArray, List.set_cons_zero, List.set_cons_succ, i64_w, i32_w]
    rfl
  refine pure_ (i := 12) (N := some 3) (v := ?_) (a' := ?_) #[true, true, true, true, true, true, true, true, true, true, true, true, true] rfl rfl (by kernel_rfl) (fun _ _ _ h => h) (Or.inl ⟨by rfl, ?_⟩) ?_ ?_
  rotate_left
  · intro w'
    go_simp
    with_reducible rfl
  rotate_left
  · simp only [Act.put, List.setIfInBounds_toArray, List.set_cons_zero, List.set_cons_succ, i64_w, i32_w]
    rfl
  refine done_ (by kernel_rfl) ?_

  obtain ⟨gr, cr, er⟩ := R_head H4.out.1 (by simp)
  have hLl : (t ++ [arg, arg]).length = t.length + 2 := by simp
  rw [hLl] at er
  subst er
  have hcr : t.length + 2 ≤ cr := by have h := (Kd.R_reads' H4.out.1).2.1; exact h
  obtain ⟨i0, hi0, hsz⟩ : ∃ i, Try.prog.info? 5 = some i ∧ i.size = 1 := ⟨_, rfl, rfl⟩
  have hcut := cut_to (P := Try.prog) 22 5 .i64 Try.underlying22 hi0 (some ⟨gr, 0, none⟩) (t.length + 2) cr (t.length : Int) (by omega) (by omega) hcr
  rw [Int.toNat_natCast] at hcut
  clear hi0 hsz
  have HI := Aside0.mk (show (Kd.int .u8).C w4 (some ⟨gr, 0, none⟩) t.length t from by
    have h := Kd.C_take (m := t.length) (Kd.R_reads' H4.out.1).2.2 (by omega)
    rw [List.take_append_of_le_length (Nat.le_refl _), List.take_length] at h
    exact h)
  have hq1 := Kd.R_cell (W := w4) (enc := Value.int .u8) (h1 := fun _ => rfl) (g := gr) (cap := cr) (0 : Int) (by rw [hLl]; exact H4.out.1) (t.length : Int) (by omega) (by rw [hLl]; omega)
  have hq2 := Kd.R_cell (W := w4) (enc := Value.int .u8) (h1 := fun _ => rfl) (g := gr) (cap := cr) (0 : Int) (by rw [hLl]; exact H4.out.1) ((t.length + 1 : Nat) : Int) (by omega) (by rw [hLl]; omega)
  have hz1 : rdOf (0 : Int) (t ++ [arg, arg]) (t.length : Int) = arg := by unfold rdOf; rw [Int.toNat_natCast, List.getD_eq_getElem?_getD, List.getElem?_append_right (Nat.le_refl _), Nat.sub_self]; rfl
  have hz2 : rdOf (0 : Int) (t ++ [arg, arg]) ((t.length + 1 : Nat) : Int) = arg := by unfold rdOf; rw [Int.toNat_natCast, List.getD_eq_getElem?_getD, List.getElem?_append_right (by omega), show t.length + 1 - t.length = 1 from by omega]; rfl
  rw [hz1, Int.toNat_natCast] at hq1
  rw [hz2, Int.toNat_natCast] at hq2
  replace hq1 := hq1.1
  replace hq2 := hq2.1
  have HQ := Aside0.mk (And.intro hq1 hq2)
  clear hq1 hq2 hz1 hz2 d0 do0 H3 HP3 HB3 HB0 hHeld
  have BK4 := Aside0.mk (blk_below BK2.out H4.out.2)
  have f0 := (blk_cell BK4.out 0).trans rfl
  have f1 := (blk_cell BK4.out 1).trans rfl
  have f2 := (blk_cell BK4.out 2).trans rfl
  have f3 := (blk_cell BK4.out 3).trans rfl
  have f4 := (blk_cell BK4.out 4).trans rfl
  have f5 := (blk_cell BK4.out 5).trans rfl
  refine Lib.hid ?_
  go_wp2_with (first
    | (go_at_call 11; (with_reducible refine (HM3.out _ _ _ HI.out (by omega)).mono ?_); rintro e w5 ⟨rfl, hx⟩; have BK5 := Aside0.mk (blk_below BK4.out hx); have H5 := Aside0.mk hx; clear hx; have g0 := fun o_ => (blk_cell (blk_alloc BK5.out o_) 0).trans rfl; have g1 := fun o_ => (blk_cell (blk_alloc BK5.out o_) 1).trans rfl; have g2 := fun o_ => (blk_cell (blk_alloc BK5.out o_) 2).trans rfl; have g3 := fun o_ => (blk_cell (blk_alloc BK5.out o_) 3).trans rfl; have g4 := fun o_ => (blk_cell (blk_alloc BK5.out o_) 4).trans rfl; have g5 := fun o_ => (blk_cell (blk_alloc BK5.out o_) 5).trans rfl)
    | (go_at_call 13; (with_reducible refine (HG3.out _ _ _ (Kd.C_below HI.out (below_alloc H5.out (.cells #[.int .i64 m1, .int .i64 m2, .int .i64 m3] 29))) (by omega)).mono ?_); rintro e w6 ⟨rfl, hx⟩; have H6 := Aside0.mk hx; clear hx; refine Hid.out ?_))
  refine Lib.hid ?_
  go_wp2
  have BK6 := blk_below (blk_alloc BK5.out (.cells #[.int .i64 m1, .int .i64 m2, .int .i64 m3] 29)) H6.out
  have BM6 := blk_below (blk_new w5 (.cells #[.int .i64 m1, .int .i64 m2, .int .i64 m3] 29)) H6.out
  have HI6 := Kd.C_below (Kd.C_below HI.out (below_alloc H5.out (.cells #[.int .i64 m1, .int .i64 m2, .int .i64 m3] 29))) H6.out
  have HW6 := below_step (below_step H4.out.2 (below_alloc H5.out (.cells #[.int .i64 m1, .int .i64 m2, .int .i64 m3] 29))) H6.out
  have HL6 : w4.heap.size ≤ w5.heap.size := H5.out.size
  have HN6 : w5.heap.size < w6.heap.size := Nat.lt_of_lt_of_le (show w5.heap.size < (w5.alloc (.cells #[.int .i64 m1, .int .i64 m2, .int .i64 m3] 29)).heap.size by simp only [World.size_alloc]; omega) H6.out.size
  have BK7 := blk_alloc BK6 (.cells #[.int .i64 a1, .int .i64 a2, .int .i64 a3] 29)
  have BM7 := blk_alloc BM6 (.cells #[.int .i64 a1, .int .i64 a2, .int .i64 a3] 29)
  have BA7 := blk_new w6 (.cells #[.int .i64 a1, .int .i64 a2, .int .i64 a3] 29)
  have HI7 := Kd.C_alloc HI6 (.cells #[.int .i64 a1, .int .i64 a2, .int .i64 a3] 29)
  have HW7 := below_alloc HW6 (.cells #[.int .i64 a1, .int .i64 a2, .int .i64 a3] 29)
  have HR7 := Kd.R_below (Kd.R_mono (ok' := fun k => k < w5.heap.size) (Kd.R_bound H4.out.1) (fun k hk => Nat.lt_of_lt_of_le hk.2.2.1 HL6)) (below_alloc (below_step (below_alloc H5.out (.cells #[.int .i64 m1, .int .i64 m2, .int .i64 m3] 29)) H6.out) (.cells #[.int .i64 a1, .int .i64 a2, .int .i64 a3] 29))
  have HC7 := pw_cell_below (below_alloc (below_step (below_alloc H5.out (.cells #[.int .i64 m1, .int .i64 m2, .int .i64 m3] 29)) H6.out) (.cells #[.int .i64 a1, .int .i64 a2, .int .i64 a3] 29)) HQ.out.1
  have HD7 := pw_cell_below (below_alloc (below_step (below_alloc H5.out (.cells #[.int .i64 m1, .int .i64 m2, .int .i64 m3] 29)) H6.out) (.cells #[.int .i64 a1, .int .i64 a2, .int .i64 a3] 29)) HQ.out.2
  clear BK6 BM6 HI6 HW6 f0 g0 f1 g1 f2 g2 f3 g3 f4 g4 f5 g5
  generalize (w6.alloc (.cells #[.int .i64 a1, .int .i64 a2, .int .i64 a3] 29)) = w7 at BK7 BM7 BA7 HI7 HW7 HR7 HC7 HD7 ⊢
  have k1 := fun n_ => Kd.C_string (P := Try.prog) (c := cr) Try.underlying22 Try.underlying5 Try.underlying9 (Kd.C_drewN HI7 n_)
  have k2 := fun n_ => Kd.C_string (P := Try.prog) (c := c0_0) Try.underlying22 Try.underlying5 Try.underlying9 (Kd.C_drewN (Kd.C_below HT.out.1 (below_step H2.out HW7)) n_)
  have h0 := (blk_cell BK7 0).trans rfl
  have h4 := (blk_cell BK7 4).trans rfl
  have q3 : (0 ≤ (t.length : Int)) = True := eq_true (by omega)
  have q4 : ((t.length : Int) < (t.length : Int) + 2) = True := eq_true (by omega)
  have q5 : ((t.length : Int) + 1 < (t.length : Int) + 2) = True := eq_true (by omega)
  have q6 : (0 ≤ (t.length : Int) + 1) = True := eq_true (by omega)
  have HX7 := Aside0.mk (And.intro BK7 (And.intro BM7 (And.intro BA7 (And.intro HW7 HR7))))
  clear BK7 BM7 BA7 HI7 HW7 HR7
  go_quiet (fail)
  go_wp2
  clear k1 k2 HC7 HD7 h0 h4
  go_loopg [9] t.length (fun g v9 wl => ∃ (m : Nat) (L : List Int), m + g = t.length ∧ L.length = t.length + 2 ∧ v9 = .int .i64 m ∧ (∀ x ∈ L, 0 ≤ x ∧ x ≤ 255) ∧ Aside0 ((Kd.int .u8).R 5 wl w2.heap.size (fun k => k < w5.heap.size) (.slice (some ⟨gr, 0, none⟩) (t.length + 2) cr) L ∧ Below w2.heap.size w2 wl ∧ wl.heap[w5.heap.size]? = some (.cells #[.int .i64 m1, .int .i64 m2, .int .i64 m3] 29) ∧ wl.heap[w6.heap.size]? = some (.cells #[.int .i64 a1, .int .i64 a2, .int .i64 a3] 29)))
  case atStart => exact ⟨0, t ++ [arg, arg], by omega, hLl, rfl, fun x hx => by
    rcases List.mem_append.1 hx with h | h
    · exact HT.out.2 x h
    · simp at h; omega, ⟨Kd.R_drewN HX7.out.2.2.2.2 _, pw_below_drewN HX7.out.2.2.2.1 _, blk_drewN HX7.out.2.1 _, blk_drewN HX7.out.2.2.1 _⟩⟩
  case round =>
    obtain ⟨m, L, hm, hLL, rfl, hLb, HL4⟩ := hrel
    clear HX7
    cases gk with
    | succ g =>
      have hq1 := Kd.R_cell (W := wr) (enc := Value.int .u8) (h1 := fun _ => rfl) (g := gr) (cap := cr) (0 : Int) (by rw [hLL]; exact HL4.out.1) (m : Int) (by omega) (by omega)
      rw [Int.toNat_natCast] at hq1
      obtain ⟨hq2, hq3⟩ := hq1
      have hgk := HL4.out.1.1 gr rfl
      have HP := Aside0.mk (And.intro (Kd.R_putg HL4.out.1 (m : Int) (Go.bits .xor .u8 (rdOf 0 L (m : Int)) 1)) (And.intro (HL4.out.2.1.setCell (p := ⟨gr, m, none⟩) (Kd.R_base HL4.out.1 gr rfl) (.int .u8 (Go.bits .xor .u8 (rdOf 0 L (m : Int)) 1))) (And.intro hgk (And.intro (blk_far HL4.out.2.2.1 (p := ⟨gr, m, none⟩) (by show w5.heap.size ≠ gr; omega) (.int .u8 (Go.bits .xor .u8 (rdOf 0 L (m : Int)) 1))) (blk_far HL4.out.2.2.2 (p := ⟨gr, m, none⟩) (by show w6.heap.size ≠ gr; omega) (.int .u8 (Go.bits .xor .u8 (rdOf 0 L (m : Int)) 1)))))))
      rw [Int.toNat_natCast] at HP
      have HLb := Aside0.mk (And.intro hLb hLL)
      have q12 : (0 ≤ (m : Int)) = True := eq_true (by omega)
      have q13 : ((m : Int) < (t.length : Int)) = True := eq_true (by omega)
      clear hgk hLb hLL
      go_wp2
      go_roundg g
      case measure => omega
      case rel =>
        refine ⟨m + 1, L.set m (Go.bits .xor .u8 (rdOf 0 L (m : Int)) 1), by omega, by rw [List.length_set]; exact HLb.out.2, by go_num, fun x hx => ?_, ⟨HP.out.1.1, HP.out.2.1, HP.out.2.2.2.1, HP.out.2.2.2.2⟩⟩
        rcases List.mem_or_eq_of_mem_set hx with h | h
        · exact HLb.out.1 x h
        · rw [h]
          exact xor_u8 _ _
    | zero =>
      have q13 : ((m : Int) < (t.length : Int)) = False := eq_false (by omega)
      have hCi := Kd.C_take (m := t.length) (Kd.R_reads' HL4.out.1).2.2 (by omega)
      have hte : (L.take t.length).length = t.length := by rw [List.length_take]; omega
      have hlb2 : ∀ x ∈ L.take t.length, 0 ≤ x ∧ x ≤ 255 := fun x hx => hLb x (List.mem_of_mem_take hx)
      generalize L.take t.length = L1 at hCi hte hlb2
      obtain ⟨x1, x2, x3, xe, HX⟩ := HM.out L1 (by omega) hlb2
      have HX1 := Aside0.mk HX
      have hLe : [] ++ L1 = L1 := List.nil_append _
      have HC1 := Aside0.mk hCi
      have BKr := blk_below BK2.out HL4.out.2.1
      have heq : ∀ (x y z : Int) (W : World), (Op.equalIn 10000 29 (.agg #[.int .i64 x, .int .i64 y, .int .i64 z]) (.agg #[.int .i64 x, .int .i64 y, .int .i64 z])).run Try.prog W = .ok true W := eqT
      clear hCi HX hlb2 hLb hLL HM
      go_wp2_with (first
        | (at_builtin; refine Kd.R_append_row (Value.int .u8) (0 : Int) (h1 := fun _ => rfl) (w0 := wr) wr.heap.size rfl (.tmp 105) (.tmp 106) 22 5 (.int .u8 0) 1 rfl Try.underlying22 infoB rfl (by decide) (.slice (some ⟨wr.heap.size, 0, none⟩) 0 0) [] L1 (some ⟨gr, 0, none⟩) t.length cr (fun _ => True) rfl rfl (fun _ _ => trivial) (empty_R wr) (by have h := Kd.C_alloc HC1.out (.cells #[] 5); rw [hte] at h; exact h) (below_alloc (Below.refl _ _) (.cells #[] 5)) (by simp only [World.size_alloc]; omega) (by simp only [List.length_nil]; omega) ?_; intro v8 w8 hR hB _ _; rw [hLe] at hR; have H8 := Aside0.mk (And.intro hR hB); clear hR hB; obtain ⟨A8, c8, e8⟩ := Kd.R_slice H8.out.1; rw [hte] at e8; subst e8; refine Hid.out ?_))
      have HC8 := Aside0.mk (Kd.C_below HC1.out H8.out.2)
      have HB8 := Aside0.mk (below_step HL4.out.2.1 H8.out.2)
      have HR8 := Aside0.mk (show (Kd.int .u8).C w8 A8 L1.length L1 ∧ L1.length ≤ c8 from ⟨(Kd.R_reads' H8.out.1).2.2, by have := (Kd.R_reads' H8.out.1).2.1; omega⟩)
      have BK8 := Aside0.mk (blk_below BKr H8.out.2)
      have BM8 := Aside0.mk (blk_below HL4.out.2.2.1 H8.out.2)
      have BA8 := Aside0.mk (blk_below HL4.out.2.2.2 H8.out.2)
      have i0 := (blk_cell BK8.out 0).trans rfl
      have i1 := (blk_cell BK8.out 1).trans rfl
      have i2 := (blk_cell BK8.out 2).trans rfl
      have i3 := (blk_cell BK8.out 3).trans rfl
      have i4 := (blk_cell BK8.out 4).trans rfl
      have i5 := (blk_cell BK8.out 5).trans rfl
      rw [hte] at HX1
      refine Lib.hid ?_
      go_wp2_with (first
        | (go_at_call 11; (with_reducible refine (HX1.out _ _ _ (by have h := HC8.out; rw [hte] at h; exact h) (by omega)).mono ?_); rintro e w9 ⟨rfl, hx⟩; have H9 := Aside0.mk hx; have BK9 := Aside0.mk (blk_below BK8.out hx); clear hx; have j0 := fun o_ => (blk_cell (blk_alloc BK9.out o_) 0).trans rfl; have j1 := fun o_ => (blk_cell (blk_alloc BK9.out o_) 1).trans rfl; have j2 := fun o_ => (blk_cell (blk_alloc BK9.out o_) 2).trans rfl; have j3 := fun o_ => (blk_cell (blk_alloc BK9.out o_) 3).trans rfl; have j4 := fun o_ => (blk_cell (blk_alloc BK9.out o_) 4).trans rfl; have j5 := fun o_ => (blk_cell (blk_alloc BK9.out o_) 5).trans rfl)
        | (go_at_call 11; (with_reducible refine (HX1.out _ _ _ (by have h := Kd.C_below HR8.out.1 (below_alloc H9.out (.cells #[.int .i64 x1, .int .i64 x2, .int .i64 x3] 29)); rw [hte] at h; exact h) (by have h := HR8.out.2; omega)).mono ?_); rintro e w10 ⟨rfl, hx⟩; have H10 := Aside0.mk (below_step (below_alloc H9.out (.cells #[.int .i64 x1, .int .i64 x2, .int .i64 x3] 29)) hx); have BK10 := Aside0.mk (blk_below (blk_alloc BK9.out (.cells #[.int .i64 x1, .int .i64 x2, .int .i64 x3] 29)) hx); have BX10 := Aside0.mk (blk_below (blk_new w9 (.cells #[.int .i64 x1, .int .i64 x2, .int .i64 x3] 29)) hx); clear hx; have k0 := fun o_ => (blk_cell (blk_alloc BK10.out o_) 0).trans rfl; have k1 := fun o_ => (blk_cell (blk_alloc BK10.out o_) 1).trans rfl; have k2 := fun o_ => (blk_cell (blk_alloc BK10.out o_) 2).trans rfl; have k3 := fun o_ => (blk_cell (blk_alloc BK10.out o_) 3).trans rfl; have k4 := fun o_ => (blk_cell (blk_alloc BK10.out o_) 4).trans rfl; have k5 := fun o_ => (blk_cell (blk_alloc BK10.out o_) 5).trans rfl)
        | (go_at_call 11; (with_reducible refine (HM3.out _ _ _ (Kd.C_below HT.out.1 (below_step H2.out (below_step HB8.out (below_alloc H10.out (.cells #[.int .i64 x1, .int .i64 x2, .int .i64 x3] 29))))) (by omega)).mono ?_); rintro e w11 ⟨rfl, hx⟩; have H11 := Aside0.mk (below_step (below_alloc H10.out (.cells #[.int .i64 x1, .int .i64 x2, .int .i64 x3] 29)) hx); have BK11 := Aside0.mk (blk_below (blk_alloc BK10.out (.cells #[.int .i64 x1, .int .i64 x2, .int .i64 x3] 29)) hx); have BX11 := Aside0.mk (blk_below (blk_alloc BX10.out (.cells #[.int .i64 x1, .int .i64 x2, .int .i64 x3] 29)) hx); have BY11 := Aside0.mk (blk_below (blk_new w10 (.cells #[.int .i64 x1, .int .i64 x2, .int .i64 x3] 29)) hx); clear hx; have l0 := fun o_ => (blk_cell (blk_alloc BK11.out o_) 0).trans rfl; have l1 := fun o_ => (blk_cell (blk_alloc BK11.out o_) 1).trans rfl; have l2 := fun o_ => (blk_cell (blk_alloc BK11.out o_) 2).trans rfl; have l3 := fun o_ => (blk_cell (blk_alloc BK11.out o_) 3).trans rfl; have l4 := fun o_ => (blk_cell (blk_alloc BK11.out o_) 4).trans rfl; have l5 := fun o_ => (blk_cell (blk_alloc BK11.out o_) 5).trans rfl)
        | (go_at_call 13; (with_reducible refine (HG3.out _ _ _ (Kd.C_below HT.out.1 (below_step H2.out (below_step HB8.out (below_alloc H11.out (.cells #[.int .i64 m1, .int .i64 m2, .int .i64 m3] 29))))) (by omega)).mono ?_); rintro e w12 ⟨rfl, hx⟩; have H12 := Aside0.mk (below_step (below_alloc H11.out (.cells #[.int .i64 m1, .int .i64 m2, .int .i64 m3] 29)) hx); have BX12 := Aside0.mk (blk_below (blk_alloc BX11.out (.cells #[.int .i64 m1, .int .i64 m2, .int .i64 m3] 29)) hx); have BY12 := Aside0.mk (blk_below (blk_alloc BY11.out (.cells #[.int .i64 m1, .int .i64 m2, .int .i64 m3] 29)) hx); have BP12 := Aside0.mk (blk_below (blk_new w11 (.cells #[.int .i64 m1, .int .i64 m2, .int .i64 m3] 29)) hx); have BM12 := Aside0.mk (blk_below BM8.out H12.out); have BA12 := Aside0.mk (blk_below BA8.out H12.out); clear hx; have nx0 := fun o_ => (blk_cell (blk_alloc BX12.out o_) 0).trans rfl; have nx1 := fun o_ => (blk_cell (blk_alloc BX12.out o_) 1).trans rfl; have nx2 := fun o_ => (blk_cell (blk_alloc BX12.out o_) 2).trans rfl; have ny0 := fun o_ => (blk_cell (blk_alloc BY12.out o_) 0).trans rfl; have ny1 := fun o_ => (blk_cell (blk_alloc BY12.out o_) 1).trans rfl; have ny2 := fun o_ => (blk_cell (blk_alloc BY12.out o_) 2).trans rfl; have np0 := fun o_ => (blk_cell (blk_alloc BP12.out o_) 0).trans rfl; have np1 := fun o_ => (blk_cell (blk_alloc BP12.out o_) 1).trans rfl; have np2 := fun o_ => (blk_cell (blk_alloc BP12.out o_) 2).trans rfl; have nm0 := fun o_ => (blk_cell (blk_alloc BM12.out o_) 0).trans rfl; have nm1 := fun o_ => (blk_cell (blk_alloc BM12.out o_) 1).trans rfl; have nm2 := fun o_ => (blk_cell (blk_alloc BM12.out o_) 2).trans rfl; have na0 := fun o_ => (blk_cell (blk_alloc BA12.out o_) 0).trans rfl; have na1 := fun o_ => (blk_cell (blk_alloc BA12.out o_) 1).trans rfl; have na2 := fun o_ => (blk_cell (blk_alloc BA12.out o_) 2).trans rfl; refine Hid.out ?_))
      refine Lib.hid ?_
      go_wp2
      exact bodyPost_ret (v := .bool true) (by simp [results, Try.results8, go_sem]) rfl ⟨rfl, below_step H2.out (below_step HB8.out (below_alloc H12.out _))⟩
end Go.Proofs.Ytdeohajlijalkaa.WalkSeekKeeps
