/-
  PatternFinds: the walk.
-/
import Derived.Test.YtlbijhlbllolhaaRT10
import Derived.Test.YtlbijhlbllolhaaXS
namespace Go.Proofs.Ytlbijhlbllolhaa.WalkPatternFinds
open Go.RowKit Go.Proofs.YtlbijhlbllolhaaW.PrintWords Go.Proofs.YtlbijhlbllolhaaW.PrintMore Go.Proofs.YtlbijhlbllolhaaW.PrintLast Go.Proofs.Ytlbijhlbllolhaa.X Go.Proofs.Ytlbijhlbllolhaa.XO Go.Proofs.Ytlbijhlbllolhaa.PT
set_option linter.unusedVariables false
set_option linter.unusedSimpArgs false
theorem infoB : (Try.prog.info? 5).map (fun i => (i.zero, i.size, i.bytes)) = some (some (.int .u8 0), 1, 1) := by kernel_rfl
theorem infoBi : Try.prog.info? 5 = some (Option.get! (Try.prog.info? 5)) := by kernel_rfl
theorem str_add {p : List Int} (h : p.length ≤ 1048576) (w : World) : (Op.stringOp .add (strOfNums p) ({ data := #[120, 121] } : ByteArray)).run Try.prog w = .ok (.string (strOfNums p ++ ({ data := #[120, 121] } : ByteArray))) w := by
  have h1 := strOfNums_size p
  have h2 : ({ data := #[120, 121] } : ByteArray).size = 2 := rfl
  unfold Op.stringOp
  have hm : IntKind.i64.max = 9223372036854775807 := by decide
  rw [if_neg (by rw [h1, h2, hm]; omega)]
  rfl
theorem str_eq (p : List Int) : ((strOfNums (p ++ [120, 121])).toList == (strOfNums p ++ ({ data := #[120, 121] } : ByteArray)).toList) = true := by
  rw [show (strOfNums (p ++ [120, 121])) = (strOfNums p ++ ({ data := #[120, 121] } : ByteArray)) by rw [str_app, show strOfNums [120, 121] = ({ data := #[120, 121] } : ByteArray) from rfl]]
  exact beq_self_eq_true _
theorem C4_of {w : World} {base : Nat} {ok : Nat → Prop} {A : Option Addr} {c : Nat} {p : List Int} (h : (Kd.int .u8).R 5 w base ok (.slice A (p.length + 2) c) ([] ++ p ++ [120, 121])) : (Kd.int .u8).C w A (p.length + 2) (p ++ [120, 121]) ∧ (Kd.int .u8).C w A p.length p := by
  have h1 := (Kd.R_reads' h).2.2
  rw [List.nil_append] at h1
  have h2 := Kd.C_take (m := p.length) h1 (by simp)
  rw [List.take_left'] at h2
  · exact ⟨by simpa using h1, h2⟩
  · rfl
theorem SetAt_far {w : World} {x : Th} {g : Nat} {cs : Array Value} (h : SetAt w x) (hb : w.heap[g]? = some (.cells cs 5 (0, 0))) (j : Nat) (u : Value) : SetAt (w.setCell ⟨g, j, none⟩ u) x := by
  cases x with
  | single k S => exact blk_far h (blk_ne h hb (by decide)) u
  | many k S => exact blk_far h (blk_ne h hb (by decide)) u
  | front => trivial
  | back => trivial
  | opens => trivial
  | closes => trivial
/-- A byte stored elsewhere leaves a pattern as it is. -/
theorem PatO_far {w : World} {base : Nat} {v : Value} {o : Option (List PTh)} (h : PatO w base v o) {g : Nat} {cs : Array Value} (hb : w.heap[g]? = some (.cells cs 5 (0, 0))) (j : Nat) (u : Value) : PatO (w.setCell ⟨g, j, none⟩ u) base v o := by
  cases o with
  | none => exact h
  | some pl =>
    obtain ⟨b, A1, c1, l, e1, e2, e3, e4, e5, e6, e7⟩ := h
    exact ⟨b, A1, c1, l, e1, e2, blk_far e3 (blk_ne e3 hb (by decide)) u, Kd.R_mono (Kd.R_set e4 hb (by decide) j u) (fun _ _ => trivial), fun x hx => SetAt_far (e5 x hx) hb j u, e6, e7⟩
theorem PatO_grown {w w1 : World} {base b0 : Nat} {ok : Nat → Prop} {v v0 : Value} {xs : List Int} {o : Option (List PTh)} (h : PatO w base v o) (hR : (Kd.int .u8).R 5 w b0 ok v0 xs) (hg : w.grownBy w1 v0.ownBlock) : PatO w1 base v o := by
  have hty := Kd.R_typed hR
  have ne : ∀ {b t : Nat} {cs : Array Value}, w.heap[b]? = some (.cells cs t (0, 0)) → t ≠ 5 → some b ≠ v0.ownBlock := by
    intro b t cs hb ht he
    obtain ⟨cells, hc⟩ := hty b he.symm
    rw [hb] at hc
    injection hc with hc
    injection hc with _ hc _
    exact ht hc
  cases o with
  | none => exact h
  | some pl =>
    obtain ⟨b, A1, c1, l, e1, e2, e3, e4, e5, e6, e7⟩ := h
    refine ⟨b, A1, c1, l, e1, e2, blk_grown e3 hg (ne e3 (by decide)), Kd.R_over' e4 hty (by decide) hg, fun x hx => ?_, e6, e7⟩
    have h1 := e5 x hx
    cases x with
    | single k S => exact blk_grown h1 hg (ne h1 (by decide))
    | many k S => exact blk_grown h1 hg (ne h1 (by decide))
    | front => trivial
    | back => trivial
    | opens => trivial
    | closes => trivial
set_option maxHeartbeats 16000000 in
set_option maxRecDepth 100000 in
theorem walk (A0 : Option Addr) (c0 : Nat) (l0 : List Int) (A1 : Option Addr) (c1 : Nat) (l1 : List Int) (A2 : Option Addr) (c2 : Nat) (l2 : List Int) (w : World) (hr0 : Kd.C (Kd.int .u8) w A0 l0.length l0) (hc0 : l0.length ≤ c0) (hr1 : Kd.C (Kd.int .u8) w A1 l1.length l1) (hc1 : l1.length ≤ c1) (hr2 : Kd.C (Kd.int .i64) w A2 l2.length l2) (hc2 : l2.length ≤ c2) (o0 : (okSl 1 okU8) l0) (o1 : (okSl 1 okU8) l1) (o2 : (okSl 8 okI64) l2) (hb : ((szSl szOne) l0 + (szSl szOne) l1 + (szSl szOne) l2 ≤ 1048576)) :
    Calls Try.prog 4 #[.slice A0 l0.length c0, .slice A1 l1.length c1, .slice A2 l2.length c2] w fun e w' => e = .returned (.bool true) ∧ Below w.heap.size w w' := by
  have hl0 : l0.length ≤ 1048576 := by have := sum_len l0; unfold szSl at hb; omega
  have hl1 : l1.length ≤ 1048576 := by have := sum_len l1; unfold szSl at hb; omega
  have hu0 := ok_u8 o0
  have hu1 := ok_u8 o1
  have hlm : l2.length ≤ 9223372036854775807 := Kd.C_max hr2
  have HA : ∀ W, Aside0 _ := fun W => ⟨alive_calls (w := W)⟩
  have HI := Aside0.mk (And.intro hr0 (And.intro hr1 (And.intro hr2 (And.intro hu0 hu1))))
  have HCP := fun W (A : Option Addr) (c : Nat) (hr : Kd.C (Kd.int .u8) W A l0.length l0) => Aside0.mk (compile_calls (c := c) hr HI.out.2.2.2.1)
  clear hr0 hr1 hr2 o0 o1 o2 hu0 hu1 hb
  have HE := fun (W : World) (hb : w.heap.size ≤ W.heap.size) => Aside0.mk (show (Kd.int .u8).R 5 (W.alloc (.cells #[] 5)) w.heap.size (fun _ => True) (.slice (some ⟨W.heap.size, 0, none⟩) 0 0) [] from Kd.R_of_own (own_lit W w.heap.size 5 .u8 [] hb (by simp)) (fun _ _ => trivial))
  rcases compileV_or l0 with ⟨pl, hcv⟩ | ⟨a, e, hcv, he⟩
  · have HCV := Aside0.mk (show (compileV l0).1 = some pl by rw [hcv])
    simp only [hcv] at HCP
    clear hcv
    go_enter Try.func4, Try.ntmps4
    go_upto_region 5 with (first
      | (go_at_call 8; (with_reducible refine (HA _).out.mono ?_); rintro e w1 ⟨rfl, hx⟩; have H1 := Aside0.mk hx; clear hx)
      | ((with_reducible refine gate_builtin (b := .append) (xs := #[.tmp 22, .tmp 23]) rfl ?_); at_builtin; refine Kd.R_append_rows (Kd.int .u8) (Rr := (Kd.int .u8).K (w1.alloc (.cells #[] 5))) (w0 := w) w.heap.size rfl (.tmp 22) (.tmp 23) 24 5 (.int .u8 0) 1 rfl Try.underlying24 infoB rfl (by decide) (by omega) (.slice (some ⟨w1.heap.size, 0, none⟩) 0 0) [] l0 A0 l0.length c0 (fun _ => True) (fun _ => False) rfl rfl (HE w1 H1.out.size).out (Kd.C_below HI.out.1 (below_alloc H1.out _)) (fun _ _ h => h) (fun _ h => h.elim) (fun _ _ => trivial) (below_alloc H1.out _) (by have := H1.out.size; simp; omega) (by simp; omega) ?_; intro v1 w2 hR hB2 hG2 hat2; rw [List.nil_append] at hR; obtain ⟨A7, c7, e7⟩ := Kd.R_slice hR; subst e7; have H2 := Aside0.mk (And.intro hB2 hR); clear hR hB2 hG2 hat2)
      | (go_at_call 9; (with_reducible refine (HCP _ _ _ (Kd.R_reads' H2.out.2).2.2).out.mono ?_); rintro e w3 ⟨v3, rfl, hx, hp⟩; have H3 := Aside0.mk (And.intro (below_step H2.out.1 hx) (And.intro (Kd.R_below H2.out.2 hx) hp)); clear hx hp))
    go_wp2
    go_loopw [11] (fun v wl => ∃ (k : Nat) (xs : List Int), k ≤ l0.length ∧ v = .int .i64 k ∧ xs.length = l0.length ∧ Aside0 (Below w.heap.size w wl ∧ (Kd.int .u8).R 5 wl w.heap.size (fun _ => True) (.slice A7 l0.length c7) xs ∧ PatO wl w2.heap.size v3 (some pl))) (fun v _ => l0.length - (intOf v).toNat)
    case atStart => exact ⟨0, l0, by omega, rfl, rfl, ⟨H3.out.1, H3.out.2.1, H3.out.2.2⟩⟩
    case round =>
      obtain ⟨k, xs, hk, rfl, hxs, HL⟩ := hrel
      clear H3
      by_cases lt : k < l0.length
      · have q0 : decide (k < l0.length) = true := decide_eq_true lt
        have q1 : (0 ≤ (k : Int)) = True := eq_true (by omega)
        have q2 : ((k : Int) < (l0.length : Int)) = True := eq_true (by omega)
        have HR := HL.out.2.1
        rw [← hxs] at HR
        obtain ⟨g, cap, hv, hg, hgl, cells, hgc⟩ := Kd.R_form HR (by omega)
        injection hv with hv1 _ hv3
        subst hv1 hv3
        obtain ⟨ck, fk⟩ := Kd.R_cell (0 : Int) HR (k : Int) (by omega) (by omega)
        rw [Int.toNat_natCast] at ck fk
        have HP := (Kd.R_put HR (k : Int) (46 : Int)).1
        rw [Int.toNat_natCast, hxs] at HP
        have HQ := Aside0.mk (And.intro (below_set (j := k) (v := .int .u8 46) HL.out.1 hg) (And.intro HP (PatO_far HL.out.2.2 hgc k (.int .u8 46))))
        clear HR HP hgc hgl
        go_wp2
        go_roundw
        case rel => exact ⟨k + 1, xs.set k 46, by omega, by congr 1, by simp [hxs], HQ⟩
        case measure => simp [intOf]; omega
      · have q0 : decide (k < l0.length) = false := decide_eq_false lt
        have HM := Aside0.mk (And.intro HL.out.1 HL.out.2.2)
        clear HL
        go_wp2_with (first
          | ((with_reducible refine gate_builtin (b := .append) (xs := #[.tmp 44, .tmp 45]) rfl ?_); at_builtin; refine Kd.R_append_rows (Kd.int .u8) (Rr := (Kd.int .u8).K (wr.alloc (.cells #[] 5))) (w0 := w) w.heap.size rfl (.tmp 44) (.tmp 45) 24 5 (.int .u8 0) 1 rfl Try.underlying24 infoB rfl (by decide) (by omega) (.slice (some ⟨wr.heap.size, 0, none⟩) 0 0) [] l1 A1 l1.length c1 (fun _ => True) (fun _ => False) rfl rfl (HE wr HM.out.1.size).out (Kd.C_below HI.out.2.1 (below_alloc HM.out.1 _)) (fun _ _ h => h) (fun _ h => h.elim) (fun _ _ => trivial) (below_alloc HM.out.1 _) (by have := HM.out.1.size; simp; omega) (by simp; omega) ?_; intro v4 w4 hR hB4 hG4 hat4; have HP4 := Aside0.mk (PatO_grown (PatO_below HM.out.2 (below_alloc (Below.refl _ _) _)) (HE wr HM.out.1.size).out hG4); have H4 := Aside0.mk (And.intro hB4 hR); clear hR hB4 hG4 hat4)
          | ((with_reducible refine gate_builtin (b := .append) (xs := #[.tmp 46, .tmp 47]) rfl ?_); at_builtin; refine Kd.R_append_rows (Kd.int .u8) (Rr := (Kd.int .u8).K w4) (w0 := w) w.heap.size rfl (.tmp 46) (.tmp 47) 24 5 (.int .u8 0) 1 rfl Try.underlying24 infoB rfl (by decide) (by omega) v4 ([] ++ l1) [120, 121] (some ⟨w4.heap.size, 0, none⟩) 2 2 (fun _ => True) (fun _ => False) rfl rfl (Kd.R_alloc H4.out.2 _) (u8_C (xs := [120, 121]) (blk_new _ _) (by decide)) (fun _ _ h => h) (fun _ h => h.elim) (fun _ _ => trivial) (below_alloc H4.out.1 _) (by have := H4.out.1.size; simp; omega) (by simp; omega) ?_; intro v5 w5 hR5 hB5 hG5 hat5; have HP5 := Aside0.mk (PatO_grown (PatO_below HP4.out (below_alloc (Below.refl _ _) _)) (Kd.R_alloc H4.out.2 _) hG5); obtain ⟨A4, c4, e5⟩ := Kd.R_slice hR5; have el : ([] ++ l1 ++ [120, 121] : List Int).length = l1.length + 2 := (by simp); rw [el] at e5; subst e5; clear el; have hcut := cut_to 24 5 .i64 Try.underlying24 infoBi A4 (l1.length + 2) c4 (l1.length : Int) (by omega) (by omega) (Kd.R_reads' hR5).2.1; rw [Int.toNat_natCast] at hcut; have hcc5 := (Kd.R_reads' hR5).2.1; have H5 := Aside0.mk (And.intro hB5 (C4_of hR5)); clear hR5 hB5 hG5 hat5))
        go_loopw [13] (fun v wl => ∃ i : Nat, i ≤ l2.length ∧ i ≤ 50 ∧ v = .int .i64 i ∧ Aside0 (Below w.heap.size w wl ∧ PatO wl w2.heap.size v3 (some pl) ∧ (Kd.int .u8).C wl A4 (l1.length + 2) (l1 ++ [120, 121]) ∧ (Kd.int .u8).C wl A4 l1.length l1)) (fun v _ => l2.length - (intOf v).toNat)
        case atStart => exact ⟨0, by omega, by omega, rfl, ⟨H5.out.1, HP5.out, H5.out.2.1, H5.out.2.2⟩⟩
        case round =>
          obtain ⟨i, hi, hi5, rfl, HL⟩ := hrel
          clear H5 HP5 HM HE
          by_cases lt2 : i < l2.length
          · have q3 : decide (i < l2.length) = true := decide_eq_true lt2
            by_cases l50 : i < 50
            · have q4 : decide ((i : Int) < 50) = true := decide_eq_true (by omega)
              have q1 : (0 ≤ (i : Int)) = True := eq_true (by omega)
              have q2 : ((i : Int) < (l2.length : Int)) = True := eq_true (by omega)
              obtain ⟨ad2, rfl, hq0⟩ := Kd.at_int HI.out.2.2.1 (i : Int) (by omega) (by omega)
              rw [Int.toNat_natCast] at hq0
              have cq := pw_cell_below HL.out.1 hq0
              generalize rd l2 (i : Int) = q at hq0 cq
              have HQ0 := Aside0.mk hq0
              have HFD := Aside0.mk (find_calls (w := wr.drew) (c := c4) (from_ := q) (Kd.C_drew HL.out.2.2.2) HI.out.2.2.2.2 (by omega) (by omega) (PatO_below HL.out.2.1 (below_drew (Below.refl _ _))))
              have HRF := fun W (h : Below w.heap.size w W) => Aside0.mk (rfind_calls (c0 := c0) (c := c1) (f := q) (Kd.C_below HI.out.1 h) HI.out.2.2.2.1 (Kd.C_below HI.out.2.1 h) hc1 hl1 HI.out.2.2.2.2)
              simp only [show rfindV l0 l1 q = findV l1 pl q from by unfold rfindV; rw [HCV.out]] at HRF
              generalize findV l1 pl q = r at HFD HRF
              obtain ⟨r1, r2, r3⟩ := r
              simp only at HFD HRF
              have n1 : (r1 != r1) = false := by simp
              have n2 : (r2 != r2) = false := by simp
              have n3 : (r3 != r3) = false := by simp
              have hse := str_eq l1
              have hsa := str_add hl1
              have hll1 : l1.length ≤ 1048576 := hl1
              go_upto_region 15 with (fail)
              refine start_ (n := 17) (S := fun w' => w'.cell? (ad2.add i) = some (.int .i64 q)) (ds := []) #[false, false, false, false, false, false, false, false, false, false, false, false, false, false, false, false, false] (by kernel_rfl) rfl rfl (cq) (fun hHeld => ?_)
              refine pure_ (i := 0) (N := some 60) (v := ?_) (a' := ?_) #[true, false, false, false, false, false, false, false, false, false, false, false, false, false, false, false, false] rfl rfl (by kernel_rfl) (fun _ _ _ h => h) (Or.inl ⟨by rfl, ?_⟩) ?_ ?_
              rotate_left
              · intro w'
                go_simp
                with_reducible rfl
              rotate_left
              · simp only [Act.put, List.setIfInBounds_toArray, List.set_cons_zero, List.set_cons_succ, i64_w, i32_w]
                rfl
              refine pure_ (i := 1) (N := some 61) (v := ?_) (a' := ?_) #[true, true, false, false, false, false, false, false, false, false, false, false, false, false, false, false, false] rfl rfl (by kernel_rfl) (fun _ _ _ h => h) (Or.inl ⟨by rfl, ?_⟩) ?_ ?_
              rotate_left
              · intro w'
                go_simp
                with_reducible rfl
              rotate_left
              · simp only [Act.put, List.setIfInBounds_toArray, List.set_cons_zero, List.set_cons_succ, i64_w, i32_w]
                rfl
              refine pure_ (i := 2) (N := some 62) (v := ?_) (a' := ?_) #[true, true, true, false, false, false, false, false, false, false, false, false, false, false, false, false, false] rfl rfl (by kernel_rfl) (fun _ _ _ h => h) (Or.inl ⟨by rfl, ?_⟩) ?_ ?_
              rotate_left
              · intro w'
                go_simp
                with_reducible rfl
              rotate_left
              · simp only [Act.put, List.setIfInBounds_toArray, List.set_cons_zero, List.set_cons_succ, i64_w, i32_w]
                rfl
              refine pure_ (i := 3) (N := some 63) (v := ?_) (a' := ?_) #[true, true, true, true, false, false, false, false, false, false, false, false, false, false, false, false, false] rfl rfl (by kernel_rfl) (fun _ _ _ h => h) (Or.inl ⟨by rfl, ?_⟩) ?_ ?_
              rotate_left
              · intro w'
                go_simp
                with_reducible rfl
              rotate_left
              · simp only [Act.put, List.setIfInBounds_toArray, List.set_cons_zero, List.set_cons_succ, i64_w, i32_w]
                rfl
              refine pure_ (i := 4) (N := some 64) (v := ?_) (a' := ?_) #[true, true, true, true, true, false, false, false, false, false, false, false, false, false, false, false, false] rfl rfl (by kernel_rfl) (fun _ _ _ h => h) (Or.inl ⟨by rfl, ?_⟩) ?_ ?_
              rotate_left
              · intro w'
                go_simp
                with_reducible rfl
              rotate_left
              · simp only [Act.put, List.setIfInBounds_toArray, List.set_cons_zero, List.set_cons_succ, i64_w, i32_w]
                rfl
              refine pure_ (i := 5) (N := some 65) (v := ?_) (a' := ?_) #[true, true, true, true, true, true, false, false, false, false, false, false, false, false, false, false, false] rfl rfl (by kernel_rfl) (fun _ _ _ h => h) (Or.inl ⟨by rfl, ?_⟩) ?_ ?_
              rotate_left
              · intro w'
                go_simp
                with_reducible rfl
              rotate_left
              · simp only [Act.put, List.setIfInBounds_toArray, List.set_cons_zero, List.set_cons_succ, i64_w, i32_w]
                rfl
              refine pure_ (i := 6) (N := some 66) (v := ?_) (a' := ?_) #[true, true, true, true, true, true, true, false, false, false, false, false, false, false, false, false, false] rfl rfl (by kernel_rfl) (fun _ _ _ h => h) (Or.inl ⟨by rfl, ?_⟩) ?_ ?_
              rotate_left
              · intro w'
                go_simp
                with_reducible rfl
              rotate_left
              · simp only [Act.put, List.setIfInBounds_toArray, List.set_cons_zero, List.set_cons_succ, i64_w, i32_w]
                rfl
              refine pure_ (i := 7) (N := some 67) (v := ?_) (a' := ?_) #[true, true, true, true, true, true, true, true, false, false, false, false, false, false, false, false, false] rfl rfl (by kernel_rfl) (fun _ _ _ h => h) (Or.inl ⟨by rfl, ?_⟩) ?_ ?_
              rotate_left
              · intro w'
                go_simp
                with_reducible rfl
              rotate_left
              · simp only [Act.put, List.setIfInBounds_toArray, List.set_cons_zero, List.set_cons_succ, i64_w, i32_w]
                rfl
              refine take_ (i := 8) (N := some 68) (v := ?_) (a' := ?_) #[true, true, true, true, true, true, true, true, true, false, false, false, false, false, false, false, false] rfl rfl (by kernel_rfl) (fun _ _ _ h => h) (Or.inl ⟨by rfl, ?_⟩) hHeld ?_ ?_
              rotate_left
              · intro w' s0
                go_simp
                with_reducible rfl
              rotate_left
              · simp only [Act.put, List.setIfInBounds_toArray, List.set_cons_zero, List.set_cons_succ, i64_w, i32_w]
                rfl
              refine one_ (i := 9) (N := some 69) #[true, true, true, true, true, true, true, true, true, true, false, false, false, false, false, false, false] rfl rfl (by kernel_rfl) (by decide) (fun K hK => ?_)
              refine goes_ Try.func11 (by kernel_rfl) rfl #[v3, .slice A4 l1.length c4, .int .i64 q] (by rfl) rfl rfl (by simp only [List.map_toArray, List.map_cons, List.map_nil]; rfl) ?_
              with_reducible refine (HFD.out).mono ?_
              rintro e w7 ⟨rfl, hx7⟩
              refine ⟨_, rfl, ?_⟩
              refine hK.out _ _ (pw_cell_below hx7 cq) (fun hHeld => ?_)
              clear hK K
              refine norm_ (a' := ?_) ?_ ?_
              rotate_left
              · show Act.put _ (some 69) _ = _
                simp only [Act.put, List.setIfInBounds_toArray, List.set_cons_zero, List.set_cons_succ, i64_w, i32_w]
                rfl
              refine pure_ (i := 10) (N := some 59) (v := ?_) (a' := ?_) #[true, true, true, true, true, true, true, true, true, true, true, false, false, false, false, false, false] rfl rfl (by kernel_rfl) (fun _ _ _ h => h) (Or.inl ⟨by rfl, ?_⟩) ?_ ?_
              rotate_left
              · intro w'
                go_simp
                with_reducible rfl
              rotate_left
              · simp only [Act.put, List.setIfInBounds_toArray, List.set_cons_zero, List.set_cons_succ, i64_w, i32_w]
                rfl
              refine pure_ (i := 11) (N := some 70) (v := ?_) (a' := ?_) #[true, true, true, true, true, true, true, true, true, true, true, true, false, false, false, false, false] rfl rfl (by kernel_rfl) (fun _ _ _ h => h) (Or.inl ⟨by rfl, ?_⟩) ?_ ?_
              rotate_left
              · intro w'
                go_simp
                with_reducible rfl
              rotate_left
              · simp only [Act.put, List.setIfInBounds_toArray, List.set_cons_zero, List.set_cons_succ, i64_w, i32_w]
                rfl
              refine pure_ (i := 12) (N := some 71) (v := ?_) (a' := ?_) #[true, true, true, true, true, true, true, true, true, true, true, true, true, false, false, false, false] rfl rfl (by kernel_rfl) (fun _ _ _ h => h) (Or.inl ⟨by rfl, ?_⟩) ?_ ?_
              rotate_left
              · intro w'
                go_simp
                with_reducible rfl
              rotate_left
              · simp only [Act.put, List.setIfInBounds_toArray, List.set_cons_zero, List.set_cons_succ, i64_w, i32_w]
                rfl
              refine pure_ (i := 13) (N := some 72) (v := ?_) (a' := ?_) #[true, true, true, true, true, true, true, true, true, true, true, true, true, true, false, false, false] rfl rfl (by kernel_rfl) (fun _ _ _ h => h) (Or.inl ⟨by rfl, ?_⟩) ?_ ?_
              rotate_left
              · intro w'
                go_simp
                with_reducible rfl
              rotate_left
              · simp only [Act.put, List.setIfInBounds_toArray, List.set_cons_zero, List.set_cons_succ, i64_w, i32_w]
                rfl
              refine pure_ (i := 14) (N := some 14) (v := ?_) (a' := ?_) #[true, true, true, true, true, true, true, true, true, true, true, true, true, true, true, false, false] rfl rfl (by kernel_rfl) (fun _ _ _ h => h) (Or.inl ⟨by rfl, ?_⟩) ?_ ?_
              rotate_left
              · intro w'
                go_simp
                with_reducible rfl
              rotate_left
              · simp only [Act.put, List.setIfInBounds_toArray, List.set_cons_zero, List.set_cons_succ, i64_w, i32_w]
                rfl
              refine pure_ (i := 15) (N := some 15) (v := ?_) (a' := ?_) #[true, true, true, true, true, true, true, true, true, true, true, true, true, true, true, true, false] rfl rfl (by kernel_rfl) (fun _ _ _ h => h) (Or.inl ⟨by rfl, ?_⟩) ?_ ?_
              rotate_left
              · intro w'
                go_simp
                with_reducible rfl
              rotate_left
              · simp only [Act.put, List.setIfInBounds_toArray, List.set_cons_zero, List.set_cons_succ, i64_w, i32_w]
                rfl
              refine pure_ (i := 16) (N := some 16) (v := ?_) (a' := ?_) #[true, true, true, true, true, true, true, true, true, true, true, true, true, true, true, true, true] rfl rfl (by kernel_rfl) (fun _ _ _ h => h) (Or.inl ⟨by rfl, ?_⟩) ?_ ?_
              rotate_left
              · intro w'
                go_simp
                with_reducible rfl
              rotate_left
              · simp only [Act.put, List.setIfInBounds_toArray, List.set_cons_zero, List.set_cons_succ, i64_w, i32_w]
                rfl
              refine done_ (by kernel_rfl) ?_
              have H7 := Aside0.mk (below_step (below_step HL.out.1 (below_drew (Below.refl _ _))) hx7)
              have HP7 := Aside0.mk (PatO_below (PatO_below HL.out.2.1 (below_drew (Below.refl _ _))) hx7)
              have HC7 := Aside0.mk (And.intro (Kd.C_below (Kd.C_drew HL.out.2.2.1) hx7) (Kd.C_below (Kd.C_drew HL.out.2.2.2) hx7))
              clear hHeld hx7 HFD hq0 cq
              have cq7 := pw_cell_below H7.out HQ0.out
              go_wp2_with (go_at_call 12; (with_reducible refine (HRF _ H7.out).out.mono ?_); rintro e w8 ⟨rfl, hx⟩; have H8 := Aside0.mk (And.intro (below_step H7.out hx) (And.intro (PatO_below HP7.out hx) (And.intro (Kd.C_below HC7.out.1 hx) (Kd.C_below HC7.out.2 hx)))); have hs1 := Kd.C_string (src := 24) (dst := 9) (c := c4) Try.underlying24 Try.underlying5 Try.underlying9 H8.out.2.2.1; have hs2 := Kd.C_string (src := 24) (dst := 9) (c := c1) Try.underlying24 Try.underlying5 Try.underlying9 (Kd.C_below HI.out.2.1 H8.out.1); clear hx)
              go_roundw
              case rel => exact ⟨i + 1, by omega, by omega, by congr 1, H8⟩
              case measure => simp [intOf]; omega
            · have q4 : decide ((i : Int) < 50) = false := decide_eq_false (by omega)
              go_wp2
              exact bodyPost_ret (v := .bool true) (by simp [results, Try.results4, go_sem]) rfl ⟨rfl, HL.out.1⟩
          · have q3 : decide (i < l2.length) = false := decide_eq_false lt2
            go_wp2
            exact bodyPost_ret (v := .bool true) (by simp [results, Try.results4, go_sem]) rfl ⟨rfl, HL.out.1⟩
  · simp only [hcv] at HCP
    clear hcv
    rcases he with rfl | rfl
    all_goals
      go_enter Try.func4, Try.ntmps4
      go_upto_region 5 with (first
        | (go_at_call 8; (with_reducible refine (HA _).out.mono ?_); rintro e w1 ⟨rfl, hx⟩; have H1 := Aside0.mk hx; clear hx)
        | ((with_reducible refine gate_builtin (b := .append) (xs := #[.tmp 22, .tmp 23]) rfl ?_); at_builtin; refine Kd.R_append_rows (Kd.int .u8) (Rr := (Kd.int .u8).K (w1.alloc (.cells #[] 5))) (w0 := w) w.heap.size rfl (.tmp 22) (.tmp 23) 24 5 (.int .u8 0) 1 rfl Try.underlying24 infoB rfl (by decide) (by omega) (.slice (some ⟨w1.heap.size, 0, none⟩) 0 0) [] l0 A0 l0.length c0 (fun _ => True) (fun _ => False) rfl rfl (HE w1 H1.out.size).out (Kd.C_below HI.out.1 (below_alloc H1.out _)) (fun _ _ h => h) (fun _ h => h.elim) (fun _ _ => trivial) (below_alloc H1.out _) (by have := H1.out.size; simp; omega) (by simp; omega) ?_; intro v1 w2 hR hB2 hG2 hat2; rw [List.nil_append] at hR; obtain ⟨A7, c7, e7⟩ := Kd.R_slice hR; subst e7; have H2 := Aside0.mk (And.intro hB2 hR); clear hR hB2 hG2 hat2)
        | (go_at_call 9; (with_reducible refine (HCP _ _ _ (Kd.R_reads' H2.out.2).2.2).out.mono ?_); rintro e w3 ⟨v3, rfl, hx, hp⟩; have H3 := Aside0.mk (And.intro (below_step H2.out.1 hx) (And.intro (Kd.R_below H2.out.2 hx) hp)); clear hx hp))
      go_wp2
      go_loopw [11] (fun v wl => ∃ (k : Nat) (xs : List Int), k ≤ l0.length ∧ v = .int .i64 k ∧ xs.length = l0.length ∧ Aside0 (Below w.heap.size w wl ∧ (Kd.int .u8).R 5 wl w.heap.size (fun _ => True) (.slice A7 l0.length c7) xs ∧ PatO wl w2.heap.size v3 none)) (fun v _ => l0.length - (intOf v).toNat)
      case atStart => exact ⟨0, l0, by omega, rfl, rfl, ⟨H3.out.1, H3.out.2.1, H3.out.2.2⟩⟩
      case round =>
        obtain ⟨k, xs, hk, rfl, hxs, HL⟩ := hrel
        clear H3
        by_cases lt : k < l0.length
        · have q0 : decide (k < l0.length) = true := decide_eq_true lt
          have q1 : (0 ≤ (k : Int)) = True := eq_true (by omega)
          have q2 : ((k : Int) < (l0.length : Int)) = True := eq_true (by omega)
          have HR := HL.out.2.1
          rw [← hxs] at HR
          obtain ⟨g, cap, hv, hg, hgl, cells, hgc⟩ := Kd.R_form HR (by omega)
          injection hv with hv1 _ hv3
          subst hv1 hv3
          obtain ⟨ck, fk⟩ := Kd.R_cell (0 : Int) HR (k : Int) (by omega) (by omega)
          rw [Int.toNat_natCast] at ck fk
          have HP := (Kd.R_put HR (k : Int) (46 : Int)).1
          rw [Int.toNat_natCast, hxs] at HP
          have HQ := Aside0.mk (And.intro (below_set (j := k) (v := .int .u8 46) HL.out.1 hg) (And.intro HP (PatO_far HL.out.2.2 hgc k (.int .u8 46))))
          clear HR HP hgc hgl
          go_wp2
          go_roundw
          case rel => exact ⟨k + 1, xs.set k 46, by omega, by congr 1, by simp [hxs], HQ⟩
          case measure => simp [intOf]; omega
        · have q0 : decide (k < l0.length) = false := decide_eq_false lt
          have HM := Aside0.mk (And.intro HL.out.1 HL.out.2.2)
          clear HL
          have hv3 : v3 = .pointer none := HM.out.2
          subst hv3
          go_wp2
          exact bodyPost_ret (v := .bool true) (by simp [results, Try.results4, go_sem]) rfl ⟨rfl, HM.out.1⟩
end Go.Proofs.Ytlbijhlbllolhaa.WalkPatternFinds
