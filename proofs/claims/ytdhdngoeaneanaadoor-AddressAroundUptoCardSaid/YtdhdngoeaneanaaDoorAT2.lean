/-
  Address, by hand: the spelling.
-/
import Derived.Test.YtdhdngoeaneanaaDoorAT1
import Derived.Test.YtdhdngoeaneanaaDoorAI
import Derived.Test.YtdhdngoeaneanaaDoorX8
import Derived.Deep.QuietTactic
import Derived.BigQuiet
import Derived.Lib.Hide
import Derived.Lib.ItoaLen
namespace Go.Proofs.YtdhdngoeaneanaaDoor.PT
open Go.RowKit Go.Proofs.YtdhdngoeaneanaaDoorW.PrintWords Go.Proofs.YtdhdngoeaneanaaDoorW.PrintLast Go.Proofs.YtdhdngoeaneanaaDoorW.PrintMore
set_option linter.unusedVariables false
set_option linter.unusedSimpArgs false
theorem infoB : (Tryd.prog.info? 5).map (fun i => (i.zero, i.size, i.bytes)) = some (some (.int .u8 0), 1, 1) := by kernel_rfl
/-- A number's decimal numeral, as bytes. -/
def dec (i : Int) : List Int := (Lib.itoa i).map fun b => (b.toNat : Int)
theorem dec_len {i : Int} (h0 : -9223372036854775808 ≤ i) (h1 : i ≤ 9223372036854775807) : (dec i).length ≤ 21 := by unfold dec; rw [List.length_map]; exact Lib.itoa_length_le i h0 h1
def Tab (w : World) : Prop := Lib.TabIs Tryd.prog w "internal/strconv.uint64pow10" .u64 Lib.pow10Tab
theorem Tab.below {w w' : World} (h : Tab w) (hb : Below w.heap.size w w') : Tab w' := Lib.tabBelow_of_tabIs h w' hb
theorem ai_calls {w0 w : World} (htab : Tab w0) (hB : Below w0.heap.size w0 w) {v : Value} {xs : List Int} (hR : (Kd.int .u8).R 5 w w0.heap.size (fun _ => True) v xs) {i : Int} (h0 : -9223372036854775808 ≤ i) (h1 : i ≤ 9223372036854775807) (hl : xs.length ≤ 8388608) :
    Calls Tryd.prog 29 #[v, .int .i64 i, .int .i64 10] w fun e w' => ∃ v', e = .returned v' ∧ (Kd.int .u8).R 5 w' w0.heap.size (fun _ => True) v' (xs ++ dec i) ∧ Below w0.heap.size w0 w' := by
  have h := Any.strconv_AppendInt_10 Tryd.lays176 w0.heap.size xs.length i h0 h1 v (xs.map (Value.int .u8)) w (Kd.own_of_R hR) hB.size (by omega) ((Lib.tabBelow_of_tabIs htab).on hB)
  refine Calls.mono h ?_
  rintro e w' ⟨v', rfl, ho, hb, _⟩
  refine ⟨v', rfl, Kd.R_of_own (enc := Value.int .u8) (h1 := fun _ => rfl) ?_ (fun _ _ => trivial), hB.trans hb⟩
  have e1 : (xs ++ dec i).length = xs.length + (Lib.itoa i).length := by unfold dec; rw [List.length_append, List.length_map]
  have e2 : encs (Value.int .u8) (xs ++ dec i) = xs.map (Value.int .u8) ++ Lib.byteCells (Lib.itoa i) := by unfold dec Lib.byteCells encs; rw [List.map_append, List.map_map]; rfl
  rw [e1, e2]
  exact ho
def headV (base num name : Int) (text : List Int) : List Int := if base = 110 then dec num else if base = 39 then [39, name] else if base = 47 ∨ base = 63 then [base] ++ text ++ [base] else if base = 46 ∨ base = 36 then [base] else []
def tailV (base add : Int) : List Int := if add = 0 ∧ base ≠ 0 then [] else if add < 0 then dec add else [43] ++ dec add
set_option maxHeartbeats 8000000 in
set_option maxRecDepth 100000 in
theorem spell_110 {w : World} {A : Option Addr} {c : Nat} {num name add : Int} {text : List Int} {given : Bool} (hr : Kd.C (Kd.int .u8) w A text.length text) (hl : text.length ≤ 1048576) (htab : Tab w) (h1 : -999999999 ≤ add) (h2 : add ≤ 999999999) (h3 : -999999999 ≤ num) (h4 : num ≤ 999999999)
    (HS : ∀ W, Below w.heap.size w W → Calls Tryd.prog 28 #[.agg #[.int .u8 110, .int .i64 num, .int .u8 name, .slice A text.length c, .int .i64 add, .bool given]] W fun e w' => e = .returned (.bool true) ∧ Below W.heap.size W w') :
    Calls Tryd.prog 15 #[.agg #[.int .u8 110, .int .i64 num, .int .u8 name, .slice A text.length c, .int .i64 add, .bool given]] w fun e w' => ∃ v, e = .returned v ∧ (Kd.int .u8).R 5 w' w.heap.size (fun _ => True) v (headV 110 num name text ++ tailV 110 add) ∧ Below w.heap.size w w' := by
  have BX := Aside0.mk (blk_new w (.cells #[.int .u8 110, .int .i64 num, .int .u8 name, .slice A text.length c, .int .i64 add, .bool given] 25))
  have HB := Aside0.mk (below_alloc (Below.refl w.heap.size w) (.cells #[.int .u8 110, .int .i64 num, .int .u8 name, .slice A text.length c, .int .i64 add, .bool given] 25))
  have HS0 := Aside0.mk (HS _ HB.out)
  have HLEN : (dec num : List Int).length ≤ 1048600 := Nat.le_trans (dec_len (by omega) (by omega)) (by decide)
  rw [show headV 110 num name text = (dec num : List Int) from if_pos rfl]
  generalize htl : tailV 110 add = tl
  have HTL := Aside0.mk htl
  clear HS htl
  go_enter Tryd.func15, Tryd.ntmps15
  go_wp2_with (first
    | (go_at_call 28; (with_reducible refine HS0.out.mono ?_); rintro e w1 ⟨rfl, hx⟩; have HB1s := Aside0.mk (below_step HB.out hx); have BK1 := Aside0.mk (blk_below BX.out hx); have HTB := Aside0.mk (htab.below HB1s.out); have j0 := (blk_cell BK1.out 0).trans rfl; have j1 := (blk_cell BK1.out 1).trans rfl; have j2 := (blk_cell BK1.out 2).trans rfl; have j3 := (blk_cell BK1.out 3).trans rfl; have j4 := (blk_cell BK1.out 4).trans rfl; clear hx)
    | (go_at_call 29; (with_reducible refine (ai_calls HTB.out (Below.refl _ _) (Kd.R_nil _ _ _ _ _) (by omega) (by omega) (by simp)).mono ?_); rintro e w2 ⟨v2, rfl, hR, hB⟩; rw [List.nil_append] at hR; have H2 := Aside0.mk (And.intro hR hB); clear hR hB; have k0 := (blk_cell (blk_below BK1.out H2.out.2) 0).trans rfl; have k4 := (blk_cell (blk_below BK1.out H2.out.2) 4).trans rfl; refine Hid.out ?_))
  by_cases ha : add = 0
  · have HA := Aside0.mk ha
    have q0 : (add == 0) = true := by rw [ha]; rfl
    clear ha
    refine Lib.hid ?_
    go_wp2
    exact bodyPost_ret (v := v2) (by simp [results, Tryd.results15, go_sem]) rfl ⟨v2, rfl, (by rw [show tl = ([] : List Int) from HTL.out.symm.trans (by rw [HA.out]; rfl)]; have h_ := Kd.R_lower H2.out.1 HB1s.out.size; first | exact h_ | (rw [List.append_nil]; exact h_)), below_step HB1s.out H2.out.2⟩
  have HA0 := Aside0.mk ha
  by_cases hn : add < 0
  · have HN := Aside0.mk hn
    have q0 : (add == 0) = false := beq_eq_false_iff_ne.2 (by omega)
    have q1 : (add < 0) = True := eq_true hn
    clear hn
    refine Lib.hid ?_
    go_wp2_with (go_at_call 29; (with_reducible refine (ai_calls HTB.out H2.out.2 H2.out.1 (by omega) (by omega) (by have h_ := HLEN; first | omega | (simp; done) | decide | (simp only [List.length_cons, List.length_nil]; omega) | (simp only [List.length_append, List.length_cons, List.length_nil]; omega))).mono ?_); rintro e w3 ⟨v3, rfl, hR, hB⟩; have H3 := Aside0.mk (And.intro hR hB); clear hR hB)
    exact bodyPost_ret (v := v3) (by simp [results, Tryd.results15, go_sem]) rfl ⟨v3, rfl, (by rw [show tl = dec add from HTL.out.symm.trans (by have h_ := HN.out; unfold tailV; rw [if_neg (show ¬ (add = 0 ∧ _) by omega), if_pos (show add < 0 by omega)])]; exact Kd.R_lower H3.out.1 HB1s.out.size), below_step HB1s.out H3.out.2⟩
  · have HN := Aside0.mk hn
    have q0 : (add == 0) = false := beq_eq_false_iff_ne.2 (by omega)
    have q1 : (add < 0) = False := eq_false hn
    refine Lib.hid ?_
    go_wp2
    have HV2a := Aside0.mk H2.out.1
    have HB2a := Aside0.mk H2.out.2
    refine start_ (n := 7) (S := fun w' => w'.cell? ⟨w.heap.size, 4, none⟩ = some (.int .i64 add)) (ds := []) #[false, false, false, false, false, false, false] (by kernel_rfl) rfl rfl ((blk_cell (blk_below BK1.out (below_drew HB2a.out)) 4).trans rfl) (fun hHeld => ?_)
    have HB0 := Aside0.mk (below_drew HB2a.out)
    have HV0 := Aside0.mk (Kd.R_drew HV2a.out)
    generalize w2.drew = Wc0 at HB0 HV0 hHeld ⊢
    refine pure_ (i := 0) (N := some 63) (v := ?_) (a' := ?_) #[true, false, false, false, false, false, false] rfl rfl (by kernel_rfl) (fun _ _ _ h => h) (Or.inl ⟨by rfl, ?_⟩) ?_ ?_
    rotate_left
    · intro w'
      go_simp
      with_reducible rfl
    rotate_left
    · simp only [Act.put, List.setIfInBounds_toArray, List.set_cons_zero, List.set_cons_succ, i64_w, i32_w]
      rfl
    refine pure_ (i := 3) (N := some 66) (v := ?_) (a' := ?_) #[true, false, false, true, false, false, false] rfl rfl (by kernel_rfl) (fun _ _ _ h => h) (Or.inl ⟨by rfl, ?_⟩) ?_ ?_
    rotate_left
    · intro w'
      go_simp
      with_reducible rfl
    rotate_left
    · simp only [Act.put, List.setIfInBounds_toArray, List.set_cons_zero, List.set_cons_succ, i64_w, i32_w]
      rfl
    refine take_ (i := 4) (N := some 67) (v := ?_) (a' := ?_) #[true, false, false, true, true, false, false] rfl rfl (by kernel_rfl) (fun _ _ _ h => h) (Or.inl ⟨by rfl, ?_⟩) hHeld ?_ ?_
    rotate_left
    · intro w' s0
      go_simp
      with_reducible rfl
    rotate_left
    · simp only [Act.put, List.setIfInBounds_toArray, List.set_cons_zero, List.set_cons_succ, i64_w, i32_w]
      rfl
    refine one_ (i := 1) (N := some 64) #[true, true, false, true, true, false, false] rfl rfl (by kernel_rfl) (by decide) (fun K hK => ?_)
    refine value_ (w1 := ?_) (v := ?_) (by rfl) rfl ?_ ?_
    rotate_left 2
    · go_simp
      constructor
      · rfl
      · rfl
    have HB1 := Aside0.mk (below_alloc HB0.out (.cells #[.int .u8 43] 5))
    have HV1 := Aside0.mk (Kd.R_alloc HV0.out (.cells #[.int .u8 43] 5))
    have HP1 := Aside0.mk (blk_new Wc0 (.cells #[.int .u8 43] 5))
    generalize (Wc0.alloc (.cells #[.int .u8 43] 5)) = Wc1 at HB1 HV1 HP1 ⊢
    refine hK.out _ _ ((blk_cell (blk_below BK1.out HB1.out) 4).trans rfl) (fun hHeld => ?_)
    clear hK K
    refine norm_ (a' := ?_) ?_ ?_
    rotate_left
    · show Act.put _ (some 64) _ = _
      simp only [Act.put, List.setIfInBounds_toArray, List.set_cons_zero, List.set_cons_succ, i64_w, i32_w]
      rfl
    refine one_ (i := 2) (N := some 65) #[true, true, true, true, true, false, false] rfl rfl (by kernel_rfl) (by decide) (fun K hK => ?_)
    refine Kd.R_append_rows_step (Kd.int .u8) (Rr := (Kd.int .u8).K Wc1) (w0 := w1) w1.heap.size (by rfl) (.tmp 63) (.tmp 64) 22 5 (.int .u8 0) 1 rfl Tryd.underlying22 infoB rfl (by decide) (by omega) v2 (dec num) [43] (some ⟨Wc0.heap.size, 0, none⟩) 1 1 (fun _ => True) (fun _ => False) rfl rfl HV1.out (u8_C (xs := [43]) (fr := (0, 0)) HP1.out (by simp)) (fun _ _ h => h) (fun _ h => h.elim) (fun _ _ => trivial) HB1.out HB1.out.size (by have h_ := HLEN; first | omega | (simp only [List.length_cons, List.length_nil]; omega)) ?_
    intro vq Wc2 hR hB _ _
    have HV2 := Aside0.mk hR
    have HB2 := Aside0.mk hB
    clear hR hB
    refine hK.out _ _ ((blk_cell (blk_below BK1.out HB2.out) 4).trans rfl) (fun hHeld => ?_)
    clear hK K
    refine norm_ (a' := ?_) ?_ ?_
    rotate_left
    · show Act.put _ (some 65) _ = _
      simp only [Act.put, List.setIfInBounds_toArray, List.set_cons_zero, List.set_cons_succ, i64_w, i32_w]
      rfl
    refine one_ (i := 5) (N := some 68) #[true, true, true, true, true, true, false] rfl rfl (by kernel_rfl) (by decide) (fun K hK => ?_)
    refine goes_ Tryd.func29 (by kernel_rfl) rfl #[vq, .int .i64 add, .int .i64 10] (by rfl) rfl rfl (by simp only [List.map_toArray, List.map_cons, List.map_nil]; rfl) ?_
    with_reducible refine (ai_calls HTB.out HB2.out HV2.out (by omega) (by omega) (by simp only [List.length_append, List.length_singleton]; omega)).mono ?_
    rintro e Wc3 ⟨vz, rfl, hR, hB⟩
    refine ⟨_, rfl, ?_⟩
    have HZ := Aside0.mk (And.intro hR hB)
    clear hR hB
    refine hK.out _ _ ((blk_cell (blk_below BK1.out HZ.out.2) 4).trans rfl) (fun hHeld => ?_)
    clear hK K
    refine norm_ (a' := ?_) ?_ ?_
    rotate_left
    · show Act.put _ (some 68) _ = _
      simp only [Act.put, List.setIfInBounds_toArray, List.set_cons_zero, List.set_cons_succ, i64_w, i32_w]
      rfl
    refine pure_ (i := 6) (N := some 2) (v := ?_) (a' := ?_) #[true, true, true, true, true, true, true] rfl rfl (by kernel_rfl) (fun _ _ _ h => h) (Or.inl ⟨by rfl, ?_⟩) ?_ ?_
    rotate_left
    · intro w'
      go_simp
      with_reducible rfl
    rotate_left
    · simp only [Act.put, List.setIfInBounds_toArray, List.set_cons_zero, List.set_cons_succ, i64_w, i32_w]
      rfl
    refine done_ (by kernel_rfl) ?_

    go_wp2
    exact bodyPost_ret (v := vz) (by simp [results, Tryd.results15, go_sem]) rfl ⟨vz, rfl, (by rw [show tl = [43] ++ dec add from HTL.out.symm.trans (by have h_ := HN.out; unfold tailV; rw [if_neg (fun h : add = 0 ∧ _ => HA0.out h.1), if_neg (show ¬ add < 0 by omega)])]; have h_ := Kd.R_lower HZ.out.1 HB1s.out.size; first | exact h_ | (rw [← List.append_assoc]; exact h_)), below_step HB1s.out HZ.out.2⟩
set_option maxHeartbeats 8000000 in
set_option maxRecDepth 100000 in
theorem spell_39 {w : World} {A : Option Addr} {c : Nat} {num name add : Int} {text : List Int} {given : Bool} (hr : Kd.C (Kd.int .u8) w A text.length text) (hl : text.length ≤ 1048576) (htab : Tab w) (h1 : -999999999 ≤ add) (h2 : add ≤ 999999999)
    (HS : ∀ W, Below w.heap.size w W → Calls Tryd.prog 28 #[.agg #[.int .u8 39, .int .i64 num, .int .u8 name, .slice A text.length c, .int .i64 add, .bool given]] W fun e w' => e = .returned (.bool true) ∧ Below W.heap.size W w') :
    Calls Tryd.prog 15 #[.agg #[.int .u8 39, .int .i64 num, .int .u8 name, .slice A text.length c, .int .i64 add, .bool given]] w fun e w' => ∃ v, e = .returned v ∧ (Kd.int .u8).R 5 w' w.heap.size (fun _ => True) v (headV 39 num name text ++ tailV 39 add) ∧ Below w.heap.size w w' := by
  have BX := Aside0.mk (blk_new w (.cells #[.int .u8 39, .int .i64 num, .int .u8 name, .slice A text.length c, .int .i64 add, .bool given] 25))
  have HB := Aside0.mk (below_alloc (Below.refl w.heap.size w) (.cells #[.int .u8 39, .int .i64 num, .int .u8 name, .slice A text.length c, .int .i64 add, .bool given] 25))
  have HS0 := Aside0.mk (HS _ HB.out)
  have HLEN : ([39, name] : List Int).length ≤ 1048600 := by simp only [List.length_cons, List.length_nil]; omega
  rw [show headV 39 num name text = ([39, name] : List Int) from rfl]
  generalize htl : tailV 39 add = tl
  have HTL := Aside0.mk htl
  clear HS htl
  go_enter Tryd.func15, Tryd.ntmps15
  go_wp2_with (first
    | (go_at_call 28; (with_reducible refine HS0.out.mono ?_); rintro e w1 ⟨rfl, hx⟩; have HB1s := Aside0.mk (below_step HB.out hx); have BK1 := Aside0.mk (blk_below BX.out hx); have HTB := Aside0.mk (htab.below HB1s.out); have j0 := (blk_cell BK1.out 0).trans rfl; have j1 := (blk_cell BK1.out 1).trans rfl; have j2 := (blk_cell BK1.out 2).trans rfl; have j3 := (blk_cell BK1.out 3).trans rfl; have j4 := (blk_cell BK1.out 4).trans rfl; clear hx)
    | (at_builtin; refine Kd.R_append_row (Value.int .u8) (0 : Int) (h1 := fun _ => rfl) (w0 := w1) w1.heap.size rfl (.tmp 17) (.tmp 22) 22 5 (.int .u8 0) 1 rfl Tryd.underlying22 infoB rfl (by decide) (.slice none 0 0) [] [39, name] (some ⟨w1.heap.size, 0, none⟩) 2 2 (fun _ => True) rfl rfl (fun _ _ => trivial) (Kd.R_nil _ _ _ _ _) (u8_C (xs := [39, name]) (fr := (0, 0)) (blk_new w1 _) (by simp)) (below_alloc (Below.refl _ _) _) (by simp only [World.size_alloc]; omega) (by simp) ?_; intro v2 w2 hR hB _ _; rw [List.nil_append] at hR; have H2 := Aside0.mk (And.intro (show (Kd.int .u8).R 5 w2 w1.heap.size (fun _ => True) v2 [39, name] from hR) hB); clear hR hB; have k0 := (blk_cell (blk_below BK1.out H2.out.2) 0).trans rfl; have k4 := (blk_cell (blk_below BK1.out H2.out.2) 4).trans rfl; refine Hid.out ?_))
  by_cases ha : add = 0
  · have HA := Aside0.mk ha
    have q0 : (add == 0) = true := by rw [ha]; rfl
    clear ha
    refine Lib.hid ?_
    go_wp2
    exact bodyPost_ret (v := v2) (by simp [results, Tryd.results15, go_sem]) rfl ⟨v2, rfl, (by rw [show tl = ([] : List Int) from HTL.out.symm.trans (by rw [HA.out]; rfl)]; have h_ := Kd.R_lower H2.out.1 HB1s.out.size; first | exact h_ | (rw [List.append_nil]; exact h_)), below_step HB1s.out H2.out.2⟩
  have HA0 := Aside0.mk ha
  by_cases hn : add < 0
  · have HN := Aside0.mk hn
    have q0 : (add == 0) = false := beq_eq_false_iff_ne.2 (by omega)
    have q1 : (add < 0) = True := eq_true hn
    clear hn
    refine Lib.hid ?_
    go_wp2_with (go_at_call 29; (with_reducible refine (ai_calls HTB.out H2.out.2 H2.out.1 (by omega) (by omega) (by have h_ := HLEN; first | omega | (simp; done) | decide | (simp only [List.length_cons, List.length_nil]; omega) | (simp only [List.length_append, List.length_cons, List.length_nil]; omega))).mono ?_); rintro e w3 ⟨v3, rfl, hR, hB⟩; have H3 := Aside0.mk (And.intro hR hB); clear hR hB)
    exact bodyPost_ret (v := v3) (by simp [results, Tryd.results15, go_sem]) rfl ⟨v3, rfl, (by rw [show tl = dec add from HTL.out.symm.trans (by have h_ := HN.out; unfold tailV; rw [if_neg (show ¬ (add = 0 ∧ _) by omega), if_pos (show add < 0 by omega)])]; exact Kd.R_lower H3.out.1 HB1s.out.size), below_step HB1s.out H3.out.2⟩
  · have HN := Aside0.mk hn
    have q0 : (add == 0) = false := beq_eq_false_iff_ne.2 (by omega)
    have q1 : (add < 0) = False := eq_false hn
    refine Lib.hid ?_
    go_wp2
    have HV2a := Aside0.mk H2.out.1
    have HB2a := Aside0.mk H2.out.2
    refine start_ (n := 7) (S := fun w' => w'.cell? ⟨w.heap.size, 4, none⟩ = some (.int .i64 add)) (ds := []) #[false, false, false, false, false, false, false] (by kernel_rfl) rfl rfl ((blk_cell (blk_below BK1.out (below_drew HB2a.out)) 4).trans rfl) (fun hHeld => ?_)
    have HB0 := Aside0.mk (below_drew HB2a.out)
    have HV0 := Aside0.mk (Kd.R_drew HV2a.out)
    generalize w2.drew = Wc0 at HB0 HV0 hHeld ⊢
    refine pure_ (i := 0) (N := some 63) (v := ?_) (a' := ?_) #[true, false, false, false, false, false, false] rfl rfl (by kernel_rfl) (fun _ _ _ h => h) (Or.inl ⟨by rfl, ?_⟩) ?_ ?_
    rotate_left
    · intro w'
      go_simp
      with_reducible rfl
    rotate_left
    · simp only [Act.put, List.setIfInBounds_toArray, List.set_cons_zero, List.set_cons_succ, i64_w, i32_w]
      rfl
    refine pure_ (i := 3) (N := some 66) (v := ?_) (a' := ?_) #[true, false, false, true, false, false, false] rfl rfl (by kernel_rfl) (fun _ _ _ h => h) (Or.inl ⟨by rfl, ?_⟩) ?_ ?_
    rotate_left
    · intro w'
      go_simp
      with_reducible rfl
    rotate_left
    · simp only [Act.put, List.setIfInBounds_toArray, List.set_cons_zero, List.set_cons_succ, i64_w, i32_w]
      rfl
    refine take_ (i := 4) (N := some 67) (v := ?_) (a' := ?_) #[true, false, false, true, true, false, false] rfl rfl (by kernel_rfl) (fun _ _ _ h => h) (Or.inl ⟨by rfl, ?_⟩) hHeld ?_ ?_
    rotate_left
    · intro w' s0
      go_simp
      with_reducible rfl
    rotate_left
    · simp only [Act.put, List.setIfInBounds_toArray, List.set_cons_zero, List.set_cons_succ, i64_w, i32_w]
      rfl
    refine one_ (i := 1) (N := some 64) #[true, true, false, true, true, false, false] rfl rfl (by kernel_rfl) (by decide) (fun K hK => ?_)
    refine value_ (w1 := ?_) (v := ?_) (by rfl) rfl ?_ ?_
    rotate_left 2
    · go_simp
      constructor
      · rfl
      · rfl
    have HB1 := Aside0.mk (below_alloc HB0.out (.cells #[.int .u8 43] 5))
    have HV1 := Aside0.mk (Kd.R_alloc HV0.out (.cells #[.int .u8 43] 5))
    have HP1 := Aside0.mk (blk_new Wc0 (.cells #[.int .u8 43] 5))
    generalize (Wc0.alloc (.cells #[.int .u8 43] 5)) = Wc1 at HB1 HV1 HP1 ⊢
    refine hK.out _ _ ((blk_cell (blk_below BK1.out HB1.out) 4).trans rfl) (fun hHeld => ?_)
    clear hK K
    refine norm_ (a' := ?_) ?_ ?_
    rotate_left
    · show Act.put _ (some 64) _ = _
      simp only [Act.put, List.setIfInBounds_toArray, List.set_cons_zero, List.set_cons_succ, i64_w, i32_w]
      rfl
    refine one_ (i := 2) (N := some 65) #[true, true, true, true, true, false, false] rfl rfl (by kernel_rfl) (by decide) (fun K hK => ?_)
    refine Kd.R_append_rows_step (Kd.int .u8) (Rr := (Kd.int .u8).K Wc1) (w0 := w1) w1.heap.size (by rfl) (.tmp 63) (.tmp 64) 22 5 (.int .u8 0) 1 rfl Tryd.underlying22 infoB rfl (by decide) (by omega) v2 ([39, name]) [43] (some ⟨Wc0.heap.size, 0, none⟩) 1 1 (fun _ => True) (fun _ => False) rfl rfl HV1.out (u8_C (xs := [43]) (fr := (0, 0)) HP1.out (by simp)) (fun _ _ h => h) (fun _ h => h.elim) (fun _ _ => trivial) HB1.out HB1.out.size (by have h_ := HLEN; first | omega | (simp only [List.length_cons, List.length_nil]; omega)) ?_
    intro vq Wc2 hR hB _ _
    have HV2 := Aside0.mk hR
    have HB2 := Aside0.mk hB
    clear hR hB
    refine hK.out _ _ ((blk_cell (blk_below BK1.out HB2.out) 4).trans rfl) (fun hHeld => ?_)
    clear hK K
    refine norm_ (a' := ?_) ?_ ?_
    rotate_left
    · show Act.put _ (some 65) _ = _
      simp only [Act.put, List.setIfInBounds_toArray, List.set_cons_zero, List.set_cons_succ, i64_w, i32_w]
      rfl
    refine one_ (i := 5) (N := some 68) #[true, true, true, true, true, true, false] rfl rfl (by kernel_rfl) (by decide) (fun K hK => ?_)
    refine goes_ Tryd.func29 (by kernel_rfl) rfl #[vq, .int .i64 add, .int .i64 10] (by rfl) rfl rfl (by simp only [List.map_toArray, List.map_cons, List.map_nil]; rfl) ?_
    with_reducible refine (ai_calls HTB.out HB2.out HV2.out (by omega) (by omega) (by simp only [List.length_append, List.length_singleton]; omega)).mono ?_
    rintro e Wc3 ⟨vz, rfl, hR, hB⟩
    refine ⟨_, rfl, ?_⟩
    have HZ := Aside0.mk (And.intro hR hB)
    clear hR hB
    refine hK.out _ _ ((blk_cell (blk_below BK1.out HZ.out.2) 4).trans rfl) (fun hHeld => ?_)
    clear hK K
    refine norm_ (a' := ?_) ?_ ?_
    rotate_left
    · show Act.put _ (some 68) _ = _
      simp only [Act.put, List.setIfInBounds_toArray, List.set_cons_zero, List.set_cons_succ, i64_w, i32_w]
      rfl
    refine pure_ (i := 6) (N := some 2) (v := ?_) (a' := ?_) #[true, true, true, true, true, true, true] rfl rfl (by kernel_rfl) (fun _ _ _ h => h) (Or.inl ⟨by rfl, ?_⟩) ?_ ?_
    rotate_left
    · intro w'
      go_simp
      with_reducible rfl
    rotate_left
    · simp only [Act.put, List.setIfInBounds_toArray, List.set_cons_zero, List.set_cons_succ, i64_w, i32_w]
      rfl
    refine done_ (by kernel_rfl) ?_

    go_wp2
    exact bodyPost_ret (v := vz) (by simp [results, Tryd.results15, go_sem]) rfl ⟨vz, rfl, (by rw [show tl = [43] ++ dec add from HTL.out.symm.trans (by have h_ := HN.out; unfold tailV; rw [if_neg (fun h : add = 0 ∧ _ => HA0.out h.1), if_neg (show ¬ add < 0 by omega)])]; have h_ := Kd.R_lower HZ.out.1 HB1s.out.size; first | exact h_ | (rw [← List.append_assoc]; exact h_)), below_step HB1s.out HZ.out.2⟩
set_option maxHeartbeats 8000000 in
set_option maxRecDepth 100000 in
theorem spell_46 {w : World} {A : Option Addr} {c : Nat} {num name add : Int} {text : List Int} {given : Bool} (hr : Kd.C (Kd.int .u8) w A text.length text) (hl : text.length ≤ 1048576) (htab : Tab w) (h1 : -999999999 ≤ add) (h2 : add ≤ 999999999)
    (HS : ∀ W, Below w.heap.size w W → Calls Tryd.prog 28 #[.agg #[.int .u8 46, .int .i64 num, .int .u8 name, .slice A text.length c, .int .i64 add, .bool given]] W fun e w' => e = .returned (.bool true) ∧ Below W.heap.size W w') :
    Calls Tryd.prog 15 #[.agg #[.int .u8 46, .int .i64 num, .int .u8 name, .slice A text.length c, .int .i64 add, .bool given]] w fun e w' => ∃ v, e = .returned v ∧ (Kd.int .u8).R 5 w' w.heap.size (fun _ => True) v (headV 46 num name text ++ tailV 46 add) ∧ Below w.heap.size w w' := by
  have BX := Aside0.mk (blk_new w (.cells #[.int .u8 46, .int .i64 num, .int .u8 name, .slice A text.length c, .int .i64 add, .bool given] 25))
  have HB := Aside0.mk (below_alloc (Below.refl w.heap.size w) (.cells #[.int .u8 46, .int .i64 num, .int .u8 name, .slice A text.length c, .int .i64 add, .bool given] 25))
  have HS0 := Aside0.mk (HS _ HB.out)
  have HLEN : ([46] : List Int).length ≤ 1048600 := by decide
  rw [show headV 46 num name text = ([46] : List Int) from rfl]
  generalize htl : tailV 46 add = tl
  have HTL := Aside0.mk htl
  clear HS htl
  go_enter Tryd.func15, Tryd.ntmps15
  go_wp2_with (first
    | (go_at_call 28; (with_reducible refine HS0.out.mono ?_); rintro e w1 ⟨rfl, hx⟩; have HB1s := Aside0.mk (below_step HB.out hx); have BK1 := Aside0.mk (blk_below BX.out hx); have HTB := Aside0.mk (htab.below HB1s.out); have j0 := (blk_cell BK1.out 0).trans rfl; have j1 := (blk_cell BK1.out 1).trans rfl; have j2 := (blk_cell BK1.out 2).trans rfl; have j3 := (blk_cell BK1.out 3).trans rfl; have j4 := (blk_cell BK1.out 4).trans rfl; clear hx)
    | (at_builtin; refine Kd.R_append (Kd.int .u8) (w0 := w1) w1.heap.size rfl (.tmp 42) (.tmp 45) 22 5 (.int .u8 0) 1 rfl Tryd.underlying22 infoB rfl (by decide) (by decide) (.slice none 0 0) [] 46 [.int .u8 46] (fun _ => True) (fun _ => False) rfl rfl rfl (fun _ hk => hk.elim) (fun _ _ => trivial) (Kd.R_nil _ _ _ _ _) (Below.refl _ _) (Nat.le_refl _) (by simp) ?_; intro v2 w2 hR hB _ _; rw [List.nil_append] at hR; have H2 := Aside0.mk (And.intro hR hB); clear hR hB; have k0 := (blk_cell (blk_below BK1.out H2.out.2) 0).trans rfl; have k4 := (blk_cell (blk_below BK1.out H2.out.2) 4).trans rfl; refine Hid.out ?_))
  by_cases ha : add = 0
  · have HA := Aside0.mk ha
    have q0 : (add == 0) = true := by rw [ha]; rfl
    clear ha
    refine Lib.hid ?_
    go_wp2
    exact bodyPost_ret (v := v2) (by simp [results, Tryd.results15, go_sem]) rfl ⟨v2, rfl, (by rw [show tl = ([] : List Int) from HTL.out.symm.trans (by rw [HA.out]; rfl)]; have h_ := Kd.R_lower H2.out.1 HB1s.out.size; first | exact h_ | (rw [List.append_nil]; exact h_)), below_step HB1s.out H2.out.2⟩
  have HA0 := Aside0.mk ha
  by_cases hn : add < 0
  · have HN := Aside0.mk hn
    have q0 : (add == 0) = false := beq_eq_false_iff_ne.2 (by omega)
    have q1 : (add < 0) = True := eq_true hn
    clear hn
    refine Lib.hid ?_
    go_wp2_with (go_at_call 29; (with_reducible refine (ai_calls HTB.out H2.out.2 H2.out.1 (by omega) (by omega) (by have h_ := HLEN; first | omega | (simp; done) | decide | (simp only [List.length_cons, List.length_nil]; omega) | (simp only [List.length_append, List.length_cons, List.length_nil]; omega))).mono ?_); rintro e w3 ⟨v3, rfl, hR, hB⟩; have H3 := Aside0.mk (And.intro hR hB); clear hR hB)
    exact bodyPost_ret (v := v3) (by simp [results, Tryd.results15, go_sem]) rfl ⟨v3, rfl, (by rw [show tl = dec add from HTL.out.symm.trans (by have h_ := HN.out; unfold tailV; rw [if_neg (show ¬ (add = 0 ∧ _) by omega), if_pos (show add < 0 by omega)])]; exact Kd.R_lower H3.out.1 HB1s.out.size), below_step HB1s.out H3.out.2⟩
  · have HN := Aside0.mk hn
    have q0 : (add == 0) = false := beq_eq_false_iff_ne.2 (by omega)
    have q1 : (add < 0) = False := eq_false hn
    refine Lib.hid ?_
    go_wp2
    have HV2a := Aside0.mk H2.out.1
    have HB2a := Aside0.mk H2.out.2
    refine start_ (n := 7) (S := fun w' => w'.cell? ⟨w.heap.size, 4, none⟩ = some (.int .i64 add)) (ds := []) #[false, false, false, false, false, false, false] (by kernel_rfl) rfl rfl ((blk_cell (blk_below BK1.out (below_drew HB2a.out)) 4).trans rfl) (fun hHeld => ?_)
    have HB0 := Aside0.mk (below_drew HB2a.out)
    have HV0 := Aside0.mk (Kd.R_drew HV2a.out)
    generalize w2.drew = Wc0 at HB0 HV0 hHeld ⊢
    refine pure_ (i := 0) (N := some 63) (v := ?_) (a' := ?_) #[true, false, false, false, false, false, false] rfl rfl (by kernel_rfl) (fun _ _ _ h => h) (Or.inl ⟨by rfl, ?_⟩) ?_ ?_
    rotate_left
    · intro w'
      go_simp
      with_reducible rfl
    rotate_left
    · simp only [Act.put, List.setIfInBounds_toArray, List.set_cons_zero, List.set_cons_succ, i64_w, i32_w]
      rfl
    refine pure_ (i := 3) (N := some 66) (v := ?_) (a' := ?_) #[true, false, false, true, false, false, false] rfl rfl (by kernel_rfl) (fun _ _ _ h => h) (Or.inl ⟨by rfl, ?_⟩) ?_ ?_
    rotate_left
    · intro w'
      go_simp
      with_reducible rfl
    rotate_left
    · simp only [Act.put, List.setIfInBounds_toArray, List.set_cons_zero, List.set_cons_succ, i64_w, i32_w]
      rfl
    refine take_ (i := 4) (N := some 67) (v := ?_) (a' := ?_) #[true, false, false, true, true, false, false] rfl rfl (by kernel_rfl) (fun _ _ _ h => h) (Or.inl ⟨by rfl, ?_⟩) hHeld ?_ ?_
    rotate_left
    · intro w' s0
      go_simp
      with_reducible rfl
    rotate_left
    · simp only [Act.put, List.setIfInBounds_toArray, List.set_cons_zero, List.set_cons_succ, i64_w, i32_w]
      rfl
    refine one_ (i := 1) (N := some 64) #[true, true, false, true, true, false, false] rfl rfl (by kernel_rfl) (by decide) (fun K hK => ?_)
    refine value_ (w1 := ?_) (v := ?_) (by rfl) rfl ?_ ?_
    rotate_left 2
    · go_simp
      constructor
      · rfl
      · rfl
    have HB1 := Aside0.mk (below_alloc HB0.out (.cells #[.int .u8 43] 5))
    have HV1 := Aside0.mk (Kd.R_alloc HV0.out (.cells #[.int .u8 43] 5))
    have HP1 := Aside0.mk (blk_new Wc0 (.cells #[.int .u8 43] 5))
    generalize (Wc0.alloc (.cells #[.int .u8 43] 5)) = Wc1 at HB1 HV1 HP1 ⊢
    refine hK.out _ _ ((blk_cell (blk_below BK1.out HB1.out) 4).trans rfl) (fun hHeld => ?_)
    clear hK K
    refine norm_ (a' := ?_) ?_ ?_
    rotate_left
    · show Act.put _ (some 64) _ = _
      simp only [Act.put, List.setIfInBounds_toArray, List.set_cons_zero, List.set_cons_succ, i64_w, i32_w]
      rfl
    refine one_ (i := 2) (N := some 65) #[true, true, true, true, true, false, false] rfl rfl (by kernel_rfl) (by decide) (fun K hK => ?_)
    refine Kd.R_append_rows_step (Kd.int .u8) (Rr := (Kd.int .u8).K Wc1) (w0 := w1) w1.heap.size (by rfl) (.tmp 63) (.tmp 64) 22 5 (.int .u8 0) 1 rfl Tryd.underlying22 infoB rfl (by decide) (by omega) v2 ([46]) [43] (some ⟨Wc0.heap.size, 0, none⟩) 1 1 (fun _ => True) (fun _ => False) rfl rfl HV1.out (u8_C (xs := [43]) (fr := (0, 0)) HP1.out (by simp)) (fun _ _ h => h) (fun _ h => h.elim) (fun _ _ => trivial) HB1.out HB1.out.size (by have h_ := HLEN; first | omega | (simp only [List.length_cons, List.length_nil]; omega)) ?_
    intro vq Wc2 hR hB _ _
    have HV2 := Aside0.mk hR
    have HB2 := Aside0.mk hB
    clear hR hB
    refine hK.out _ _ ((blk_cell (blk_below BK1.out HB2.out) 4).trans rfl) (fun hHeld => ?_)
    clear hK K
    refine norm_ (a' := ?_) ?_ ?_
    rotate_left
    · show Act.put _ (some 65) _ = _
      simp only [Act.put, List.setIfInBounds_toArray, List.set_cons_zero, List.set_cons_succ, i64_w, i32_w]
      rfl
    refine one_ (i := 5) (N := some 68) #[true, true, true, true, true, true, false] rfl rfl (by kernel_rfl) (by decide) (fun K hK => ?_)
    refine goes_ Tryd.func29 (by kernel_rfl) rfl #[vq, .int .i64 add, .int .i64 10] (by rfl) rfl rfl (by simp only [List.map_toArray, List.map_cons, List.map_nil]; rfl) ?_
    with_reducible refine (ai_calls HTB.out HB2.out HV2.out (by omega) (by omega) (by simp only [List.length_append, List.length_singleton]; omega)).mono ?_
    rintro e Wc3 ⟨vz, rfl, hR, hB⟩
    refine ⟨_, rfl, ?_⟩
    have HZ := Aside0.mk (And.intro hR hB)
    clear hR hB
    refine hK.out _ _ ((blk_cell (blk_below BK1.out HZ.out.2) 4).trans rfl) (fun hHeld => ?_)
    clear hK K
    refine norm_ (a' := ?_) ?_ ?_
    rotate_left
    · show Act.put _ (some 68) _ = _
      simp only [Act.put, List.setIfInBounds_toArray, List.set_cons_zero, List.set_cons_succ, i64_w, i32_w]
      rfl
    refine pure_ (i := 6) (N := some 2) (v := ?_) (a' := ?_) #[true, true, true, true, true, true, true] rfl rfl (by kernel_rfl) (fun _ _ _ h => h) (Or.inl ⟨by rfl, ?_⟩) ?_ ?_
    rotate_left
    · intro w'
      go_simp
      with_reducible rfl
    rotate_left
    · simp only [Act.put, List.setIfInBounds_toArray, List.set_cons_zero, List.set_cons_succ, i64_w, i32_w]
      rfl
    refine done_ (by kernel_rfl) ?_

    go_wp2
    exact bodyPost_ret (v := vz) (by simp [results, Tryd.results15, go_sem]) rfl ⟨vz, rfl, (by rw [show tl = [43] ++ dec add from HTL.out.symm.trans (by have h_ := HN.out; unfold tailV; rw [if_neg (fun h : add = 0 ∧ _ => HA0.out h.1), if_neg (show ¬ add < 0 by omega)])]; have h_ := Kd.R_lower HZ.out.1 HB1s.out.size; first | exact h_ | (rw [← List.append_assoc]; exact h_)), below_step HB1s.out HZ.out.2⟩
set_option maxHeartbeats 8000000 in
set_option maxRecDepth 100000 in
theorem spell_36 {w : World} {A : Option Addr} {c : Nat} {num name add : Int} {text : List Int} {given : Bool} (hr : Kd.C (Kd.int .u8) w A text.length text) (hl : text.length ≤ 1048576) (htab : Tab w) (h1 : -999999999 ≤ add) (h2 : add ≤ 999999999)
    (HS : ∀ W, Below w.heap.size w W → Calls Tryd.prog 28 #[.agg #[.int .u8 36, .int .i64 num, .int .u8 name, .slice A text.length c, .int .i64 add, .bool given]] W fun e w' => e = .returned (.bool true) ∧ Below W.heap.size W w') :
    Calls Tryd.prog 15 #[.agg #[.int .u8 36, .int .i64 num, .int .u8 name, .slice A text.length c, .int .i64 add, .bool given]] w fun e w' => ∃ v, e = .returned v ∧ (Kd.int .u8).R 5 w' w.heap.size (fun _ => True) v (headV 36 num name text ++ tailV 36 add) ∧ Below w.heap.size w w' := by
  have BX := Aside0.mk (blk_new w (.cells #[.int .u8 36, .int .i64 num, .int .u8 name, .slice A text.length c, .int .i64 add, .bool given] 25))
  have HB := Aside0.mk (below_alloc (Below.refl w.heap.size w) (.cells #[.int .u8 36, .int .i64 num, .int .u8 name, .slice A text.length c, .int .i64 add, .bool given] 25))
  have HS0 := Aside0.mk (HS _ HB.out)
  have HLEN : ([36] : List Int).length ≤ 1048600 := by decide
  rw [show headV 36 num name text = ([36] : List Int) from rfl]
  generalize htl : tailV 36 add = tl
  have HTL := Aside0.mk htl
  clear HS htl
  go_enter Tryd.func15, Tryd.ntmps15
  go_wp2_with (first
    | (go_at_call 28; (with_reducible refine HS0.out.mono ?_); rintro e w1 ⟨rfl, hx⟩; have HB1s := Aside0.mk (below_step HB.out hx); have BK1 := Aside0.mk (blk_below BX.out hx); have HTB := Aside0.mk (htab.below HB1s.out); have j0 := (blk_cell BK1.out 0).trans rfl; have j1 := (blk_cell BK1.out 1).trans rfl; have j2 := (blk_cell BK1.out 2).trans rfl; have j3 := (blk_cell BK1.out 3).trans rfl; have j4 := (blk_cell BK1.out 4).trans rfl; clear hx)
    | (at_builtin; refine Kd.R_append (Kd.int .u8) (w0 := w1) w1.heap.size rfl (.tmp 42) (.tmp 45) 22 5 (.int .u8 0) 1 rfl Tryd.underlying22 infoB rfl (by decide) (by decide) (.slice none 0 0) [] 36 [.int .u8 36] (fun _ => True) (fun _ => False) rfl rfl rfl (fun _ hk => hk.elim) (fun _ _ => trivial) (Kd.R_nil _ _ _ _ _) (Below.refl _ _) (Nat.le_refl _) (by simp) ?_; intro v2 w2 hR hB _ _; rw [List.nil_append] at hR; have H2 := Aside0.mk (And.intro hR hB); clear hR hB; have k0 := (blk_cell (blk_below BK1.out H2.out.2) 0).trans rfl; have k4 := (blk_cell (blk_below BK1.out H2.out.2) 4).trans rfl; refine Hid.out ?_))
  by_cases ha : add = 0
  · have HA := Aside0.mk ha
    have q0 : (add == 0) = true := by rw [ha]; rfl
    clear ha
    refine Lib.hid ?_
    go_wp2
    exact bodyPost_ret (v := v2) (by simp [results, Tryd.results15, go_sem]) rfl ⟨v2, rfl, (by rw [show tl = ([] : List Int) from HTL.out.symm.trans (by rw [HA.out]; rfl)]; have h_ := Kd.R_lower H2.out.1 HB1s.out.size; first | exact h_ | (rw [List.append_nil]; exact h_)), below_step HB1s.out H2.out.2⟩
  have HA0 := Aside0.mk ha
  by_cases hn : add < 0
  · have HN := Aside0.mk hn
    have q0 : (add == 0) = false := beq_eq_false_iff_ne.2 (by omega)
    have q1 : (add < 0) = True := eq_true hn
    clear hn
    refine Lib.hid ?_
    go_wp2_with (go_at_call 29; (with_reducible refine (ai_calls HTB.out H2.out.2 H2.out.1 (by omega) (by omega) (by have h_ := HLEN; first | omega | (simp; done) | decide | (simp only [List.length_cons, List.length_nil]; omega) | (simp only [List.length_append, List.length_cons, List.length_nil]; omega))).mono ?_); rintro e w3 ⟨v3, rfl, hR, hB⟩; have H3 := Aside0.mk (And.intro hR hB); clear hR hB)
    exact bodyPost_ret (v := v3) (by simp [results, Tryd.results15, go_sem]) rfl ⟨v3, rfl, (by rw [show tl = dec add from HTL.out.symm.trans (by have h_ := HN.out; unfold tailV; rw [if_neg (show ¬ (add = 0 ∧ _) by omega), if_pos (show add < 0 by omega)])]; exact Kd.R_lower H3.out.1 HB1s.out.size), below_step HB1s.out H3.out.2⟩
  · have HN := Aside0.mk hn
    have q0 : (add == 0) = false := beq_eq_false_iff_ne.2 (by omega)
    have q1 : (add < 0) = False := eq_false hn
    refine Lib.hid ?_
    go_wp2
    have HV2a := Aside0.mk H2.out.1
    have HB2a := Aside0.mk H2.out.2
    refine start_ (n := 7) (S := fun w' => w'.cell? ⟨w.heap.size, 4, none⟩ = some (.int .i64 add)) (ds := []) #[false, false, false, false, false, false, false] (by kernel_rfl) rfl rfl ((blk_cell (blk_below BK1.out (below_drew HB2a.out)) 4).trans rfl) (fun hHeld => ?_)
    have HB0 := Aside0.mk (below_drew HB2a.out)
    have HV0 := Aside0.mk (Kd.R_drew HV2a.out)
    generalize w2.drew = Wc0 at HB0 HV0 hHeld ⊢
    refine pure_ (i := 0) (N := some 63) (v := ?_) (a' := ?_) #[true, false, false, false, false, false, false] rfl rfl (by kernel_rfl) (fun _ _ _ h => h) (Or.inl ⟨by rfl, ?_⟩) ?_ ?_
    rotate_left
    · intro w'
      go_simp
      with_reducible rfl
    rotate_left
    · simp only [Act.put, List.setIfInBounds_toArray, List.set_cons_zero, List.set_cons_succ, i64_w, i32_w]
      rfl
    refine pure_ (i := 3) (N := some 66) (v := ?_) (a' := ?_) #[true, false, false, true, false, false, false] rfl rfl (by kernel_rfl) (fun _ _ _ h => h) (Or.inl ⟨by rfl, ?_⟩) ?_ ?_
    rotate_left
    · intro w'
      go_simp
      with_reducible rfl
    rotate_left
    · simp only [Act.put, List.setIfInBounds_toArray, List.set_cons_zero, List.set_cons_succ, i64_w, i32_w]
      rfl
    refine take_ (i := 4) (N := some 67) (v := ?_) (a' := ?_) #[true, false, false, true, true, false, false] rfl rfl (by kernel_rfl) (fun _ _ _ h => h) (Or.inl ⟨by rfl, ?_⟩) hHeld ?_ ?_
    rotate_left
    · intro w' s0
      go_simp
      with_reducible rfl
    rotate_left
    · simp only [Act.put, List.setIfInBounds_toArray, List.set_cons_zero, List.set_cons_succ, i64_w, i32_w]
      rfl
    refine one_ (i := 1) (N := some 64) #[true, true, false, true, true, false, false] rfl rfl (by kernel_rfl) (by decide) (fun K hK => ?_)
    refine value_ (w1 := ?_) (v := ?_) (by rfl) rfl ?_ ?_
    rotate_left 2
    · go_simp
      constructor
      · rfl
      · rfl
    have HB1 := Aside0.mk (below_alloc HB0.out (.cells #[.int .u8 43] 5))
    have HV1 := Aside0.mk (Kd.R_alloc HV0.out (.cells #[.int .u8 43] 5))
    have HP1 := Aside0.mk (blk_new Wc0 (.cells #[.int .u8 43] 5))
    generalize (Wc0.alloc (.cells #[.int .u8 43] 5)) = Wc1 at HB1 HV1 HP1 ⊢
    refine hK.out _ _ ((blk_cell (blk_below BK1.out HB1.out) 4).trans rfl) (fun hHeld => ?_)
    clear hK K
    refine norm_ (a' := ?_) ?_ ?_
    rotate_left
    · show Act.put _ (some 64) _ = _
      simp only [Act.put, List.setIfInBounds_toArray, List.set_cons_zero, List.set_cons_succ, i64_w, i32_w]
      rfl
    refine one_ (i := 2) (N := some 65) #[true, true, true, true, true, false, false] rfl rfl (by kernel_rfl) (by decide) (fun K hK => ?_)
    refine Kd.R_append_rows_step (Kd.int .u8) (Rr := (Kd.int .u8).K Wc1) (w0 := w1) w1.heap.size (by rfl) (.tmp 63) (.tmp 64) 22 5 (.int .u8 0) 1 rfl Tryd.underlying22 infoB rfl (by decide) (by omega) v2 ([36]) [43] (some ⟨Wc0.heap.size, 0, none⟩) 1 1 (fun _ => True) (fun _ => False) rfl rfl HV1.out (u8_C (xs := [43]) (fr := (0, 0)) HP1.out (by simp)) (fun _ _ h => h) (fun _ h => h.elim) (fun _ _ => trivial) HB1.out HB1.out.size (by have h_ := HLEN; first | omega | (simp only [List.length_cons, List.length_nil]; omega)) ?_
    intro vq Wc2 hR hB _ _
    have HV2 := Aside0.mk hR
    have HB2 := Aside0.mk hB
    clear hR hB
    refine hK.out _ _ ((blk_cell (blk_below BK1.out HB2.out) 4).trans rfl) (fun hHeld => ?_)
    clear hK K
    refine norm_ (a' := ?_) ?_ ?_
    rotate_left
    · show Act.put _ (some 65) _ = _
      simp only [Act.put, List.setIfInBounds_toArray, List.set_cons_zero, List.set_cons_succ, i64_w, i32_w]
      rfl
    refine one_ (i := 5) (N := some 68) #[true, true, true, true, true, true, false] rfl rfl (by kernel_rfl) (by decide) (fun K hK => ?_)
    refine goes_ Tryd.func29 (by kernel_rfl) rfl #[vq, .int .i64 add, .int .i64 10] (by rfl) rfl rfl (by simp only [List.map_toArray, List.map_cons, List.map_nil]; rfl) ?_
    with_reducible refine (ai_calls HTB.out HB2.out HV2.out (by omega) (by omega) (by simp only [List.length_append, List.length_singleton]; omega)).mono ?_
    rintro e Wc3 ⟨vz, rfl, hR, hB⟩
    refine ⟨_, rfl, ?_⟩
    have HZ := Aside0.mk (And.intro hR hB)
    clear hR hB
    refine hK.out _ _ ((blk_cell (blk_below BK1.out HZ.out.2) 4).trans rfl) (fun hHeld => ?_)
    clear hK K
    refine norm_ (a' := ?_) ?_ ?_
    rotate_left
    · show Act.put _ (some 68) _ = _
      simp only [Act.put, List.setIfInBounds_toArray, List.set_cons_zero, List.set_cons_succ, i64_w, i32_w]
      rfl
    refine pure_ (i := 6) (N := some 2) (v := ?_) (a' := ?_) #[true, true, true, true, true, true, true] rfl rfl (by kernel_rfl) (fun _ _ _ h => h) (Or.inl ⟨by rfl, ?_⟩) ?_ ?_
    rotate_left
    · intro w'
      go_simp
      with_reducible rfl
    rotate_left
    · simp only [Act.put, List.setIfInBounds_toArray, List.set_cons_zero, List.set_cons_succ, i64_w, i32_w]
      rfl
    refine done_ (by kernel_rfl) ?_

    go_wp2
    exact bodyPost_ret (v := vz) (by simp [results, Tryd.results15, go_sem]) rfl ⟨vz, rfl, (by rw [show tl = [43] ++ dec add from HTL.out.symm.trans (by have h_ := HN.out; unfold tailV; rw [if_neg (fun h : add = 0 ∧ _ => HA0.out h.1), if_neg (show ¬ add < 0 by omega)])]; have h_ := Kd.R_lower HZ.out.1 HB1s.out.size; first | exact h_ | (rw [← List.append_assoc]; exact h_)), below_step HB1s.out HZ.out.2⟩
set_option maxHeartbeats 8000000 in
set_option maxRecDepth 100000 in
theorem spell_47 {w : World} {A : Option Addr} {c : Nat} {num name add : Int} {text : List Int} {given : Bool} (hr : Kd.C (Kd.int .u8) w A text.length text) (hl : text.length ≤ 1048576) (htab : Tab w) (h1 : -999999999 ≤ add) (h2 : add ≤ 999999999)
    (HS : ∀ W, Below w.heap.size w W → Calls Tryd.prog 28 #[.agg #[.int .u8 47, .int .i64 num, .int .u8 name, .slice A text.length c, .int .i64 add, .bool given]] W fun e w' => e = .returned (.bool true) ∧ Below W.heap.size W w') :
    Calls Tryd.prog 15 #[.agg #[.int .u8 47, .int .i64 num, .int .u8 name, .slice A text.length c, .int .i64 add, .bool given]] w fun e w' => ∃ v, e = .returned v ∧ (Kd.int .u8).R 5 w' w.heap.size (fun _ => True) v (headV 47 num name text ++ tailV 47 add) ∧ Below w.heap.size w w' := by
  have BX := Aside0.mk (blk_new w (.cells #[.int .u8 47, .int .i64 num, .int .u8 name, .slice A text.length c, .int .i64 add, .bool given] 25))
  have HB := Aside0.mk (below_alloc (Below.refl w.heap.size w) (.cells #[.int .u8 47, .int .i64 num, .int .u8 name, .slice A text.length c, .int .i64 add, .bool given] 25))
  have HS0 := Aside0.mk (HS _ HB.out)
  have HLEN : ([47] ++ text ++ [47] : List Int).length ≤ 1048600 := by simp only [List.length_append, List.length_singleton]; omega
  rw [show headV 47 num name text = ([47] ++ text ++ [47] : List Int) from rfl]
  generalize htl : tailV 47 add = tl
  have HTL := Aside0.mk htl
  clear HS htl
  go_enter Tryd.func15, Tryd.ntmps15
  go_wp2_with (go_at_call 28; (with_reducible refine HS0.out.mono ?_); rintro e w1 ⟨rfl, hx⟩; have HB1s := Aside0.mk (below_step HB.out hx); have BK1 := Aside0.mk (blk_below BX.out hx); have HTB := Aside0.mk (htab.below HB1s.out); have j0 := (blk_cell BK1.out 0).trans rfl; have j1 := (blk_cell BK1.out 1).trans rfl; have j2 := (blk_cell BK1.out 2).trans rfl; have j3 := (blk_cell BK1.out 3).trans rfl; have j4 := (blk_cell BK1.out 4).trans rfl; clear hx)
  refine start_ (n := 13) (S := fun w' => w'.cell? ⟨w.heap.size, 0, none⟩ = some (.int .u8 47) ∧ w'.cell? ⟨w.heap.size, 3, none⟩ = some (.slice A text.length c)) (ds := []) #[false, false, false, false, false, false, false, false, false, false, false, false, false] (by kernel_rfl) rfl rfl ⟨(blk_cell (blk_below BK1.out (below_drew (Below.refl w1.heap.size w1))) 0).trans rfl, (blk_cell (blk_below BK1.out (below_drew (Below.refl w1.heap.size w1))) 3).trans rfl⟩ (fun hHeld => ?_)
  have HB0 := Aside0.mk (below_drew (Below.refl w1.heap.size w1))
  generalize w1.drew = Wc0 at HB0 hHeld ⊢
  refine pure_ (i := 0) (N := some 27) (v := ?_) (a' := ?_) #[true, false, false, false, false, false, false, false, false, false, false, false, false] rfl rfl (by kernel_rfl) (fun _ _ _ h => h) (Or.inl ⟨by rfl, ?_⟩) ?_ ?_
  rotate_left
  · intro w'
    go_simp
    with_reducible rfl
  rotate_left
  · simp only [Act.put, List.setIfInBounds_toArray, List.set_cons_zero, List.set_cons_succ, i64_w, i32_w]
    rfl
  refine pure_ (i := 1) (N := some 28) (v := ?_) (a' := ?_) #[true, true, false, false, false, false, false, false, false, false, false, false, false] rfl rfl (by kernel_rfl) (fun _ _ _ h => h) (Or.inl ⟨by rfl, ?_⟩) ?_ ?_
  rotate_left
  · intro w'
    go_simp
    with_reducible rfl
  rotate_left
  · simp only [Act.put, List.setIfInBounds_toArray, List.set_cons_zero, List.set_cons_succ, i64_w, i32_w]
    rfl
  refine pure_ (i := 5) (N := some 32) (v := ?_) (a' := ?_) #[true, true, false, false, false, true, false, false, false, false, false, false, false] rfl rfl (by kernel_rfl) (fun _ _ _ h => h) (Or.inl ⟨by rfl, ?_⟩) ?_ ?_
  rotate_left
  · intro w'
    go_simp
    with_reducible rfl
  rotate_left
  · simp only [Act.put, List.setIfInBounds_toArray, List.set_cons_zero, List.set_cons_succ, i64_w, i32_w]
    rfl
  refine pure_ (i := 8) (N := some 35) (v := ?_) (a' := ?_) #[true, true, false, false, false, true, false, false, true, false, false, false, false] rfl rfl (by kernel_rfl) (fun _ _ _ h => h) (Or.inl ⟨by rfl, ?_⟩) ?_ ?_
  rotate_left
  · intro w'
    go_simp
    with_reducible rfl
  rotate_left
  · simp only [Act.put, List.setIfInBounds_toArray, List.set_cons_zero, List.set_cons_succ, i64_w, i32_w]
    rfl
  refine take_ (i := 2) (N := some 29) (v := ?_) (a' := ?_) #[true, true, true, false, false, true, false, false, true, false, false, false, false] rfl rfl (by kernel_rfl) (fun _ _ _ h => h) (Or.inl ⟨by rfl, ?_⟩) hHeld ?_ ?_
  rotate_left
  · rintro w' ⟨s0, s1⟩
    go_simp
    with_reducible rfl
  rotate_left
  · simp only [Act.put, List.setIfInBounds_toArray, List.set_cons_zero, List.set_cons_succ, i64_w, i32_w]
    rfl
  refine take_ (i := 6) (N := some 33) (v := ?_) (a' := ?_) #[true, true, true, false, false, true, true, false, true, false, false, false, false] rfl rfl (by kernel_rfl) (fun _ _ _ h => h) (Or.inl ⟨by rfl, ?_⟩) hHeld ?_ ?_
  rotate_left
  · rintro w' ⟨s0, s1⟩
    go_simp
    with_reducible rfl
  rotate_left
  · simp only [Act.put, List.setIfInBounds_toArray, List.set_cons_zero, List.set_cons_succ, i64_w, i32_w]
    rfl
  refine take_ (i := 9) (N := some 36) (v := ?_) (a' := ?_) #[true, true, true, false, false, true, true, false, true, true, false, false, false] rfl rfl (by kernel_rfl) (fun _ _ _ h => h) (Or.inl ⟨by rfl, ?_⟩) hHeld ?_ ?_
  rotate_left
  · rintro w' ⟨s0, s1⟩
    go_simp
    with_reducible rfl
  rotate_left
  · simp only [Act.put, List.setIfInBounds_toArray, List.set_cons_zero, List.set_cons_succ, i64_w, i32_w]
    rfl
  refine join_ (σ := Nat × Value × Value × Nat) 2 #[true, true, true, true, true, true, true, true, true, true, true, false, false] (fun s_ => [(30, .slice (some ⟨s_.1, 0, none⟩) 1 1), (31, s_.2.1), (34, s_.2.2.1), (37, .slice (some ⟨s_.2.2.2, 0, none⟩) 1 1)]) (fun s_ w' => (w'.cell? ⟨w.heap.size, 0, none⟩ = some (.int .u8 47) ∧ w'.cell? ⟨w.heap.size, 3, none⟩ = some (.slice A text.length c)) ∧ (Kd.int .u8).R 5 w' w1.heap.size (fun _ => True) s_.2.2.1 ([47] ++ text) ∧ w'.heap[s_.2.2.2]? = some (.cells #[.int .u8 47] 5) ∧ Below w1.heap.size w1 w') ?_ ?_
  rotate_left
  · intro hCont
    refine two_ (i := 3) (j := 10) (Ni := some 30) (Nj := some 37) #[true, true, true, true, false, true, true, false, true, true, false, false, false] #[true, true, true, false, false, true, true, false, true, true, true, false, false] rfl rfl rfl rfl (by kernel_rfl) (by decide) (by decide) (fun K hK => ?_) (fun K hK => ?_)
    · skip
      refine value_ (w1 := ?_) (v := ?_) (by rfl) rfl ?_ ?_
      rotate_left 2
      · go_simp
        constructor
        · rfl
        · rfl
      have HB1 := Aside0.mk (below_alloc HB0.out (.cells #[.int .u8 47] 5))
      have HF1 := Aside0.mk (blk_new Wc0 (.cells #[.int .u8 47] 5))
      generalize (Wc0.alloc (.cells #[.int .u8 47] 5)) = Wc1 at HB1 HF1 ⊢
      refine hK.out _ _ ⟨(blk_cell (blk_below BK1.out HB1.out) 0).trans rfl, (blk_cell (blk_below BK1.out HB1.out) 3).trans rfl⟩ (fun hHeld => ?_)
      clear hK K
      refine norm_ (a' := ?_) ?_ ?_
      rotate_left
      · show Act.put _ (some 30) _ = _
        simp only [Act.put, List.setIfInBounds_toArray, List.set_cons_zero, List.set_cons_succ, i64_w, i32_w]
        rfl
      refine two_ (i := 4) (j := 10) (Ni := some 31) (Nj := some 37) #[true, true, true, true, true, true, true, false, true, true, false, false, false] #[true, true, true, true, false, true, true, false, true, true, true, false, false] rfl rfl rfl rfl (by kernel_rfl) (by decide) (by decide) (fun K hK => ?_) (fun K hK => ?_)
      · skip
        refine Kd.R_append_rows_step (Kd.int .u8) (Rr := (Kd.int .u8).K Wc1) (w0 := w1) w1.heap.size (by rfl) (.tmp 27) (.tmp 30) 22 5 (.int .u8 0) 1 rfl Tryd.underlying22 infoB rfl (by decide) (by omega) (.slice none 0 0) [] [47] (some ⟨Wc0.heap.size, 0, none⟩) 1 1 (fun _ => True) (fun _ => False) rfl rfl (Kd.R_nil _ _ _ _ _) (u8_C (xs := [47]) (fr := (0, 0)) HF1.out (by simp)) (fun _ _ h => h) (fun _ h => h.elim) (fun _ _ => trivial) HB1.out HB1.out.size (by simp) ?_
        intro v31 Wc2 hR hB hG _
        rw [List.nil_append] at hR
        have HV2 := Aside0.mk hR
        have HB2 := Aside0.mk hB
        clear hR hB hG
        refine hK.out _ _ ⟨(blk_cell (blk_below BK1.out HB2.out) 0).trans rfl, (blk_cell (blk_below BK1.out HB2.out) 3).trans rfl⟩ (fun hHeld => ?_)
        clear hK K
        refine norm_ (a' := ?_) ?_ ?_
        rotate_left
        · show Act.put _ (some 31) _ = _
          simp only [Act.put, List.setIfInBounds_toArray, List.set_cons_zero, List.set_cons_succ, i64_w, i32_w]
          rfl
        refine two_ (i := 7) (j := 10) (Ni := some 34) (Nj := some 37) #[true, true, true, true, true, true, true, true, true, true, false, false, false] #[true, true, true, true, true, true, true, false, true, true, true, false, false] rfl rfl rfl rfl (by kernel_rfl) (by decide) (by decide) (fun K hK => ?_) (fun K hK => ?_)
        · skip
          refine Kd.R_append_rows_step (Kd.int .u8) (Rr := (Kd.int .u8).K Wc2) (w0 := w1) w1.heap.size (by rfl) (.tmp 31) (.tmp 33) 22 5 (.int .u8 0) 1 rfl Tryd.underlying22 infoB rfl (by decide) (by omega) v31 [47] text A text.length c (fun _ => True) (fun _ => False) rfl rfl (Kd.R_mono HV2.out (fun _ _ => trivial)) (Kd.C_below hr (below_step HB1s.out HB2.out)) (fun _ _ h => h) (fun _ h => h.elim) (fun _ _ => trivial) HB2.out HB2.out.size (by simp only [List.length_singleton]; omega) ?_
          intro v34 Wc3 hR hB hG _
          have HV3 := Aside0.mk hR
          have HB3 := Aside0.mk hB
          clear hR hB hG
          refine hK.out _ _ ⟨(blk_cell (blk_below BK1.out HB3.out) 0).trans rfl, (blk_cell (blk_below BK1.out HB3.out) 3).trans rfl⟩ (fun hHeld => ?_)
          clear hK K
          refine norm_ (a' := ?_) ?_ ?_
          rotate_left
          · show Act.put _ (some 34) _ = _
            simp only [Act.put, List.setIfInBounds_toArray, List.set_cons_zero, List.set_cons_succ, i64_w, i32_w]
            rfl
          refine one_ (i := 10) (N := some 37) #[true, true, true, true, true, true, true, true, true, true, true, false, false] rfl rfl (by kernel_rfl) (by decide) (fun K hK => ?_)
          refine value_ (w1 := ?_) (v := ?_) (by rfl) rfl ?_ ?_
          rotate_left 2
          · go_simp
            constructor
            · rfl
            · rfl
          have HB4 := Aside0.mk (below_alloc HB3.out (.cells #[.int .u8 47] 5))
          have HP4 := Aside0.mk (blk_new Wc3 (.cells #[.int .u8 47] 5))
          have HV4 := Aside0.mk (Kd.R_alloc HV3.out (.cells #[.int .u8 47] 5))
          generalize (Wc3.alloc (.cells #[.int .u8 47] 5)) = Wc4 at HB4 HP4 HV4 ⊢
          refine hK.out _ _ ⟨(blk_cell (blk_below BK1.out HB4.out) 0).trans rfl, (blk_cell (blk_below BK1.out HB4.out) 3).trans rfl⟩ (fun hHeld => ?_)
          clear hK K
          refine norm_ (a' := ?_) ?_ ?_
          rotate_left
          · show Act.put _ (some 37) _ = _
            simp only [Act.put, List.setIfInBounds_toArray, List.set_cons_zero, List.set_cons_succ, i64_w, i32_w]
            rfl
          exact norm_ (by simp only [putAll, Act.put, List.setIfInBounds_toArray, List.set_cons_zero, List.set_cons_succ]) (hCont (Wc0.heap.size, v31, v34, Wc3.heap.size) _ ⟨hHeld, HV4.out, HP4.out, HB4.out⟩)
        · skip
          refine value_ (w1 := ?_) (v := ?_) (by rfl) rfl ?_ ?_
          rotate_left 2
          · go_simp
            constructor
            · rfl
            · rfl
          have HB3 := Aside0.mk (below_alloc HB2.out (.cells #[.int .u8 47] 5))
          have HP3 := Aside0.mk (blk_new Wc2 (.cells #[.int .u8 47] 5))
          have HV3 := Aside0.mk (Kd.R_alloc (Kd.R_mono (ok' := fun k => k ≠ Wc2.heap.size) (Kd.R_bound HV2.out) (fun k hk => Nat.ne_of_lt hk.2.2.1)) (.cells #[.int .u8 47] 5))
          generalize (Wc2.alloc (.cells #[.int .u8 47] 5)) = Wc3 at HB3 HP3 HV3 ⊢
          refine hK.out _ _ ⟨(blk_cell (blk_below BK1.out HB3.out) 0).trans rfl, (blk_cell (blk_below BK1.out HB3.out) 3).trans rfl⟩ (fun hHeld => ?_)
          clear hK K
          refine norm_ (a' := ?_) ?_ ?_
          rotate_left
          · show Act.put _ (some 37) _ = _
            simp only [Act.put, List.setIfInBounds_toArray, List.set_cons_zero, List.set_cons_succ, i64_w, i32_w]
            rfl
          refine one_ (i := 7) (N := some 34) #[true, true, true, true, true, true, true, true, true, true, true, false, false] rfl rfl (by kernel_rfl) (by decide) (fun K hK => ?_)
          refine Kd.R_append_rows_step (Kd.int .u8) (Rr := (Kd.int .u8).K Wc3) (w0 := w1) w1.heap.size (by rfl) (.tmp 31) (.tmp 33) 22 5 (.int .u8 0) 1 rfl Tryd.underlying22 infoB rfl (by decide) (by omega) v31 [47] text A text.length c (fun _ => True) (fun _ => False) rfl rfl (Kd.R_mono HV3.out (fun _ _ => trivial)) (Kd.C_below hr (below_step HB1s.out HB3.out)) (fun _ _ h => h) (fun _ h => h.elim) (fun _ _ => trivial) HB3.out HB3.out.size (by simp only [List.length_singleton]; omega) ?_
          intro v34 Wc4 hR hB hG _
          have HP4 := Aside0.mk ((hG.block Wc2.heap.size (blk_lt HP3.out) (fun e => HV3.out.1 _ e.symm rfl)).trans HP3.out)
          have HV4 := Aside0.mk hR
          have HB4 := Aside0.mk hB
          clear hR hB hG
          refine hK.out _ _ ⟨(blk_cell (blk_below BK1.out HB4.out) 0).trans rfl, (blk_cell (blk_below BK1.out HB4.out) 3).trans rfl⟩ (fun hHeld => ?_)
          clear hK K
          refine norm_ (a' := ?_) ?_ ?_
          rotate_left
          · show Act.put _ (some 34) _ = _
            simp only [Act.put, List.setIfInBounds_toArray, List.set_cons_zero, List.set_cons_succ, i64_w, i32_w]
            rfl
          exact norm_ (by simp only [putAll, Act.put, List.setIfInBounds_toArray, List.set_cons_zero, List.set_cons_succ]) (hCont (Wc0.heap.size, v31, v34, Wc2.heap.size) _ ⟨hHeld, HV4.out, HP4.out, HB4.out⟩)
      · skip
        refine value_ (w1 := ?_) (v := ?_) (by rfl) rfl ?_ ?_
        rotate_left 2
        · go_simp
          constructor
          · rfl
          · rfl
        have HB2 := Aside0.mk (below_alloc HB1.out (.cells #[.int .u8 47] 5))
        have HP2 := Aside0.mk (blk_new Wc1 (.cells #[.int .u8 47] 5))
        have HF2 := Aside0.mk (blk_alloc HF1.out (.cells #[.int .u8 47] 5))
        generalize (Wc1.alloc (.cells #[.int .u8 47] 5)) = Wc2 at HB2 HP2 HF2 ⊢
        refine hK.out _ _ ⟨(blk_cell (blk_below BK1.out HB2.out) 0).trans rfl, (blk_cell (blk_below BK1.out HB2.out) 3).trans rfl⟩ (fun hHeld => ?_)
        clear hK K
        refine norm_ (a' := ?_) ?_ ?_
        rotate_left
        · show Act.put _ (some 37) _ = _
          simp only [Act.put, List.setIfInBounds_toArray, List.set_cons_zero, List.set_cons_succ, i64_w, i32_w]
          rfl
        refine one_ (i := 4) (N := some 31) #[true, true, true, true, true, true, true, false, true, true, true, false, false] rfl rfl (by kernel_rfl) (by decide) (fun K hK => ?_)
        refine Kd.R_append_rows_step (Kd.int .u8) (Rr := (Kd.int .u8).K Wc2) (w0 := w1) w1.heap.size (by rfl) (.tmp 27) (.tmp 30) 22 5 (.int .u8 0) 1 rfl Tryd.underlying22 infoB rfl (by decide) (by omega) (.slice none 0 0) [] [47] (some ⟨Wc0.heap.size, 0, none⟩) 1 1 (fun k => k ≠ Wc1.heap.size) (fun _ => False) rfl rfl (Kd.R_nil _ _ _ _ _) (u8_C (xs := [47]) (fr := (0, 0)) HF2.out (by simp)) (fun _ _ h => h) (fun _ h => h.elim) (fun k hk => by have h1 := blk_lt HP2.out; omega) HB2.out HB2.out.size (by simp) ?_
        intro v31 Wc3 hR hB hG _
        rw [List.nil_append] at hR
        have HV3 := Aside0.mk hR
        have HB3 := Aside0.mk hB
        have HP3 := Aside0.mk ((hG.block Wc1.heap.size (blk_lt HP2.out) (fun e => nomatch e)).trans HP2.out)
        clear hR hB hG
        refine hK.out _ _ ⟨(blk_cell (blk_below BK1.out HB3.out) 0).trans rfl, (blk_cell (blk_below BK1.out HB3.out) 3).trans rfl⟩ (fun hHeld => ?_)
        clear hK K
        refine norm_ (a' := ?_) ?_ ?_
        rotate_left
        · show Act.put _ (some 31) _ = _
          simp only [Act.put, List.setIfInBounds_toArray, List.set_cons_zero, List.set_cons_succ, i64_w, i32_w]
          rfl
        refine one_ (i := 7) (N := some 34) #[true, true, true, true, true, true, true, true, true, true, true, false, false] rfl rfl (by kernel_rfl) (by decide) (fun K hK => ?_)
        refine Kd.R_append_rows_step (Kd.int .u8) (Rr := (Kd.int .u8).K Wc3) (w0 := w1) w1.heap.size (by rfl) (.tmp 31) (.tmp 33) 22 5 (.int .u8 0) 1 rfl Tryd.underlying22 infoB rfl (by decide) (by omega) v31 [47] text A text.length c (fun _ => True) (fun _ => False) rfl rfl (Kd.R_mono HV3.out (fun _ _ => trivial)) (Kd.C_below hr (below_step HB1s.out HB3.out)) (fun _ _ h => h) (fun _ h => h.elim) (fun _ _ => trivial) HB3.out HB3.out.size (by simp only [List.length_singleton]; omega) ?_
        intro v34 Wc4 hR hB hG _
        have HP4 := Aside0.mk ((hG.block Wc1.heap.size (blk_lt HP3.out) (fun e => HV3.out.1 _ e.symm rfl)).trans HP3.out)
        have HV4 := Aside0.mk hR
        have HB4 := Aside0.mk hB
        clear hR hB hG
        refine hK.out _ _ ⟨(blk_cell (blk_below BK1.out HB4.out) 0).trans rfl, (blk_cell (blk_below BK1.out HB4.out) 3).trans rfl⟩ (fun hHeld => ?_)
        clear hK K
        refine norm_ (a' := ?_) ?_ ?_
        rotate_left
        · show Act.put _ (some 34) _ = _
          simp only [Act.put, List.setIfInBounds_toArray, List.set_cons_zero, List.set_cons_succ, i64_w, i32_w]
          rfl
        exact norm_ (by simp only [putAll, Act.put, List.setIfInBounds_toArray, List.set_cons_zero, List.set_cons_succ]) (hCont (Wc0.heap.size, v31, v34, Wc1.heap.size) _ ⟨hHeld, HV4.out, HP4.out, HB4.out⟩)
    · skip
      refine value_ (w1 := ?_) (v := ?_) (by rfl) rfl ?_ ?_
      rotate_left 2
      · go_simp
        constructor
        · rfl
        · rfl
      have HB1 := Aside0.mk (below_alloc HB0.out (.cells #[.int .u8 47] 5))
      have HP1 := Aside0.mk (blk_new Wc0 (.cells #[.int .u8 47] 5))
      generalize (Wc0.alloc (.cells #[.int .u8 47] 5)) = Wc1 at HB1 HP1 ⊢
      refine hK.out _ _ ⟨(blk_cell (blk_below BK1.out HB1.out) 0).trans rfl, (blk_cell (blk_below BK1.out HB1.out) 3).trans rfl⟩ (fun hHeld => ?_)
      clear hK K
      refine norm_ (a' := ?_) ?_ ?_
      rotate_left
      · show Act.put _ (some 37) _ = _
        simp only [Act.put, List.setIfInBounds_toArray, List.set_cons_zero, List.set_cons_succ, i64_w, i32_w]
        rfl
      refine one_ (i := 3) (N := some 30) #[true, true, true, true, false, true, true, false, true, true, true, false, false] rfl rfl (by kernel_rfl) (by decide) (fun K hK => ?_)
      refine value_ (w1 := ?_) (v := ?_) (by rfl) rfl ?_ ?_
      rotate_left 2
      · go_simp
        constructor
        · rfl
        · rfl
      have HB2 := Aside0.mk (below_alloc HB1.out (.cells #[.int .u8 47] 5))
      have HF2 := Aside0.mk (blk_new Wc1 (.cells #[.int .u8 47] 5))
      have HP2 := Aside0.mk (blk_alloc HP1.out (.cells #[.int .u8 47] 5))
      generalize (Wc1.alloc (.cells #[.int .u8 47] 5)) = Wc2 at HB2 HF2 HP2 ⊢
      refine hK.out _ _ ⟨(blk_cell (blk_below BK1.out HB2.out) 0).trans rfl, (blk_cell (blk_below BK1.out HB2.out) 3).trans rfl⟩ (fun hHeld => ?_)
      clear hK K
      refine norm_ (a' := ?_) ?_ ?_
      rotate_left
      · show Act.put _ (some 30) _ = _
        simp only [Act.put, List.setIfInBounds_toArray, List.set_cons_zero, List.set_cons_succ, i64_w, i32_w]
        rfl
      refine one_ (i := 4) (N := some 31) #[true, true, true, true, true, true, true, false, true, true, true, false, false] rfl rfl (by kernel_rfl) (by decide) (fun K hK => ?_)
      refine Kd.R_append_rows_step (Kd.int .u8) (Rr := (Kd.int .u8).K Wc2) (w0 := w1) w1.heap.size (by rfl) (.tmp 27) (.tmp 30) 22 5 (.int .u8 0) 1 rfl Tryd.underlying22 infoB rfl (by decide) (by omega) (.slice none 0 0) [] [47] (some ⟨Wc1.heap.size, 0, none⟩) 1 1 (fun k => k ≠ Wc0.heap.size) (fun _ => False) rfl rfl (Kd.R_nil _ _ _ _ _) (u8_C (xs := [47]) (fr := (0, 0)) HF2.out (by simp)) (fun _ _ h => h) (fun _ h => h.elim) (fun k hk => by have h1 := blk_lt HP2.out; omega) HB2.out HB2.out.size (by simp) ?_
      intro v31 Wc3 hR hB hG _
      rw [List.nil_append] at hR
      have HV3 := Aside0.mk hR
      have HB3 := Aside0.mk hB
      have HP3 := Aside0.mk ((hG.block Wc0.heap.size (blk_lt HP2.out) (fun e => nomatch e)).trans HP2.out)
      clear hR hB hG
      refine hK.out _ _ ⟨(blk_cell (blk_below BK1.out HB3.out) 0).trans rfl, (blk_cell (blk_below BK1.out HB3.out) 3).trans rfl⟩ (fun hHeld => ?_)
      clear hK K
      refine norm_ (a' := ?_) ?_ ?_
      rotate_left
      · show Act.put _ (some 31) _ = _
        simp only [Act.put, List.setIfInBounds_toArray, List.set_cons_zero, List.set_cons_succ, i64_w, i32_w]
        rfl
      refine one_ (i := 7) (N := some 34) #[true, true, true, true, true, true, true, true, true, true, true, false, false] rfl rfl (by kernel_rfl) (by decide) (fun K hK => ?_)
      refine Kd.R_append_rows_step (Kd.int .u8) (Rr := (Kd.int .u8).K Wc3) (w0 := w1) w1.heap.size (by rfl) (.tmp 31) (.tmp 33) 22 5 (.int .u8 0) 1 rfl Tryd.underlying22 infoB rfl (by decide) (by omega) v31 [47] text A text.length c (fun _ => True) (fun _ => False) rfl rfl (Kd.R_mono HV3.out (fun _ _ => trivial)) (Kd.C_below hr (below_step HB1s.out HB3.out)) (fun _ _ h => h) (fun _ h => h.elim) (fun _ _ => trivial) HB3.out HB3.out.size (by simp only [List.length_singleton]; omega) ?_
      intro v34 Wc4 hR hB hG _
      have HP4 := Aside0.mk ((hG.block Wc0.heap.size (blk_lt HP3.out) (fun e => HV3.out.1 _ e.symm rfl)).trans HP3.out)
      have HV4 := Aside0.mk hR
      have HB4 := Aside0.mk hB
      clear hR hB hG
      refine hK.out _ _ ⟨(blk_cell (blk_below BK1.out HB4.out) 0).trans rfl, (blk_cell (blk_below BK1.out HB4.out) 3).trans rfl⟩ (fun hHeld => ?_)
      clear hK K
      refine norm_ (a' := ?_) ?_ ?_
      rotate_left
      · show Act.put _ (some 34) _ = _
        simp only [Act.put, List.setIfInBounds_toArray, List.set_cons_zero, List.set_cons_succ, i64_w, i32_w]
        rfl
      exact norm_ (by simp only [putAll, Act.put, List.setIfInBounds_toArray, List.set_cons_zero, List.set_cons_succ]) (hCont (Wc1.heap.size, v31, v34, Wc0.heap.size) _ ⟨hHeld, HV4.out, HP4.out, HB4.out⟩)
  rintro ⟨b30, v31, v34, b37⟩ w4 ⟨hHeld, hR4, hP4, hB4⟩
  simp only at hHeld hR4 hP4 hB4
  have HV4 := Aside0.mk hR4
  have HP4 := Aside0.mk hP4
  have HB4 := Aside0.mk hB4
  clear hR4 hP4 hB4
  refine norm_ (a' := ?_) ?_ ?_
  rotate_left
  · simp only [putAll, Act.put, List.setIfInBounds_toArray, List.set_cons_zero, List.set_cons_succ]
    rfl
  refine one_ (i := 11) (N := some 38) #[true, true, true, true, true, true, true, true, true, true, true, true, false] rfl rfl (by kernel_rfl) (by decide) (fun K hK => ?_)
  refine Kd.R_append_rows_step (Kd.int .u8) (Rr := (Kd.int .u8).K w4) (w0 := w1) w1.heap.size (by rfl) (.tmp 34) (.tmp 37) 22 5 (.int .u8 0) 1 rfl Tryd.underlying22 infoB rfl (by decide) (by omega) v34 ([47] ++ text) [47] (some ⟨b37, 0, none⟩) 1 1 (fun _ => True) (fun _ => False) rfl rfl HV4.out (u8_C (xs := [47]) (fr := (0, 0)) HP4.out (by simp)) (fun _ _ h => h) (fun _ h => h.elim) (fun _ _ => trivial) HB4.out HB4.out.size (by simp only [List.length_append, List.length_singleton]; omega) ?_
  intro v2 w2 hR hB _ _
  have H2 := Aside0.mk (And.intro hR hB)
  clear hR hB
  refine hK.out _ _ ⟨(blk_cell (blk_below BK1.out H2.out.2) 0).trans rfl, (blk_cell (blk_below BK1.out H2.out.2) 3).trans rfl⟩ (fun hHeld => ?_)
  clear hK K
  refine norm_ (a' := ?_) ?_ ?_
  rotate_left
  · show Act.put _ (some 38) _ = _
    simp only [Act.put, List.setIfInBounds_toArray, List.set_cons_zero, List.set_cons_succ, i64_w, i32_w]
    rfl
  refine pure_ (i := 12) (N := some 3) (v := ?_) (a' := ?_) #[true, true, true, true, true, true, true, true, true, true, true, true, true] rfl rfl (by kernel_rfl) (fun _ _ _ h => h) (Or.inl ⟨by rfl, ?_⟩) ?_ ?_
  rotate_left
  · intro w'
    go_simp
    with_reducible rfl
  rotate_left
  · simp only [Act.put, List.setIfInBounds_toArray, List.set_cons_zero, List.set_cons_succ, i64_w, i32_w]
    rfl
  refine done_ (by kernel_rfl) ?_

  refine Hid.out ?_
  have k0 := (blk_cell (blk_below BK1.out H2.out.2) 0).trans rfl
  have k4 := (blk_cell (blk_below BK1.out H2.out.2) 4).trans rfl
  clear hHeld
  by_cases ha : add = 0
  · have HA := Aside0.mk ha
    have q0 : (add == 0) = true := by rw [ha]; rfl
    clear ha
    refine Lib.hid ?_
    go_wp2
    exact bodyPost_ret (v := v2) (by simp [results, Tryd.results15, go_sem]) rfl ⟨v2, rfl, (by rw [show tl = ([] : List Int) from HTL.out.symm.trans (by rw [HA.out]; rfl)]; have h_ := Kd.R_lower H2.out.1 HB1s.out.size; first | exact h_ | (rw [List.append_nil]; exact h_)), below_step HB1s.out H2.out.2⟩
  have HA0 := Aside0.mk ha
  by_cases hn : add < 0
  · have HN := Aside0.mk hn
    have q0 : (add == 0) = false := beq_eq_false_iff_ne.2 (by omega)
    have q1 : (add < 0) = True := eq_true hn
    clear hn
    refine Lib.hid ?_
    go_wp2_with (go_at_call 29; (with_reducible refine (ai_calls HTB.out H2.out.2 H2.out.1 (by omega) (by omega) (by have h_ := HLEN; first | omega | (simp; done) | decide | (simp only [List.length_cons, List.length_nil]; omega) | (simp only [List.length_append, List.length_cons, List.length_nil]; omega))).mono ?_); rintro e w3 ⟨v3, rfl, hR, hB⟩; have H3 := Aside0.mk (And.intro hR hB); clear hR hB)
    exact bodyPost_ret (v := v3) (by simp [results, Tryd.results15, go_sem]) rfl ⟨v3, rfl, (by rw [show tl = dec add from HTL.out.symm.trans (by have h_ := HN.out; unfold tailV; rw [if_neg (show ¬ (add = 0 ∧ _) by omega), if_pos (show add < 0 by omega)])]; exact Kd.R_lower H3.out.1 HB1s.out.size), below_step HB1s.out H3.out.2⟩
  · have HN := Aside0.mk hn
    have q0 : (add == 0) = false := beq_eq_false_iff_ne.2 (by omega)
    have q1 : (add < 0) = False := eq_false hn
    refine Lib.hid ?_
    go_wp2
    have HV2a := Aside0.mk H2.out.1
    have HB2a := Aside0.mk H2.out.2
    refine start_ (n := 7) (S := fun w' => w'.cell? ⟨w.heap.size, 4, none⟩ = some (.int .i64 add)) (ds := []) #[false, false, false, false, false, false, false] (by kernel_rfl) rfl rfl ((blk_cell (blk_below BK1.out (below_drew HB2a.out)) 4).trans rfl) (fun hHeld => ?_)
    have HB0 := Aside0.mk (below_drew HB2a.out)
    have HV0 := Aside0.mk (Kd.R_drew HV2a.out)
    generalize w2.drew = Wc0 at HB0 HV0 hHeld ⊢
    refine pure_ (i := 0) (N := some 63) (v := ?_) (a' := ?_) #[true, false, false, false, false, false, false] rfl rfl (by kernel_rfl) (fun _ _ _ h => h) (Or.inl ⟨by rfl, ?_⟩) ?_ ?_
    rotate_left
    · intro w'
      go_simp
      with_reducible rfl
    rotate_left
    · simp only [Act.put, List.setIfInBounds_toArray, List.set_cons_zero, List.set_cons_succ, i64_w, i32_w]
      rfl
    refine pure_ (i := 3) (N := some 66) (v := ?_) (a' := ?_) #[true, false, false, true, false, false, false] rfl rfl (by kernel_rfl) (fun _ _ _ h => h) (Or.inl ⟨by rfl, ?_⟩) ?_ ?_
    rotate_left
    · intro w'
      go_simp
      with_reducible rfl
    rotate_left
    · simp only [Act.put, List.setIfInBounds_toArray, List.set_cons_zero, List.set_cons_succ, i64_w, i32_w]
      rfl
    refine take_ (i := 4) (N := some 67) (v := ?_) (a' := ?_) #[true, false, false, true, true, false, false] rfl rfl (by kernel_rfl) (fun _ _ _ h => h) (Or.inl ⟨by rfl, ?_⟩) hHeld ?_ ?_
    rotate_left
    · intro w' s0
      go_simp
      with_reducible rfl
    rotate_left
    · simp only [Act.put, List.setIfInBounds_toArray, List.set_cons_zero, List.set_cons_succ, i64_w, i32_w]
      rfl
    refine one_ (i := 1) (N := some 64) #[true, true, false, true, true, false, false] rfl rfl (by kernel_rfl) (by decide) (fun K hK => ?_)
    refine value_ (w1 := ?_) (v := ?_) (by rfl) rfl ?_ ?_
    rotate_left 2
    · go_simp
      constructor
      · rfl
      · rfl
    have HB1 := Aside0.mk (below_alloc HB0.out (.cells #[.int .u8 43] 5))
    have HV1 := Aside0.mk (Kd.R_alloc HV0.out (.cells #[.int .u8 43] 5))
    have HP1 := Aside0.mk (blk_new Wc0 (.cells #[.int .u8 43] 5))
    generalize (Wc0.alloc (.cells #[.int .u8 43] 5)) = Wc1 at HB1 HV1 HP1 ⊢
    refine hK.out _ _ ((blk_cell (blk_below BK1.out HB1.out) 4).trans rfl) (fun hHeld => ?_)
    clear hK K
    refine norm_ (a' := ?_) ?_ ?_
    rotate_left
    · show Act.put _ (some 64) _ = _
      simp only [Act.put, List.setIfInBounds_toArray, List.set_cons_zero, List.set_cons_succ, i64_w, i32_w]
      rfl
    refine one_ (i := 2) (N := some 65) #[true, true, true, true, true, false, false] rfl rfl (by kernel_rfl) (by decide) (fun K hK => ?_)
    refine Kd.R_append_rows_step (Kd.int .u8) (Rr := (Kd.int .u8).K Wc1) (w0 := w1) w1.heap.size (by rfl) (.tmp 63) (.tmp 64) 22 5 (.int .u8 0) 1 rfl Tryd.underlying22 infoB rfl (by decide) (by omega) v2 ([47] ++ text ++ [47]) [43] (some ⟨Wc0.heap.size, 0, none⟩) 1 1 (fun _ => True) (fun _ => False) rfl rfl HV1.out (u8_C (xs := [43]) (fr := (0, 0)) HP1.out (by simp)) (fun _ _ h => h) (fun _ h => h.elim) (fun _ _ => trivial) HB1.out HB1.out.size (by have h_ := HLEN; first | omega | (simp only [List.length_cons, List.length_nil]; omega)) ?_
    intro vq Wc2 hR hB _ _
    have HV2 := Aside0.mk hR
    have HB2 := Aside0.mk hB
    clear hR hB
    refine hK.out _ _ ((blk_cell (blk_below BK1.out HB2.out) 4).trans rfl) (fun hHeld => ?_)
    clear hK K
    refine norm_ (a' := ?_) ?_ ?_
    rotate_left
    · show Act.put _ (some 65) _ = _
      simp only [Act.put, List.setIfInBounds_toArray, List.set_cons_zero, List.set_cons_succ, i64_w, i32_w]
      rfl
    refine one_ (i := 5) (N := some 68) #[true, true, true, true, true, true, false] rfl rfl (by kernel_rfl) (by decide) (fun K hK => ?_)
    refine goes_ Tryd.func29 (by kernel_rfl) rfl #[vq, .int .i64 add, .int .i64 10] (by rfl) rfl rfl (by simp only [List.map_toArray, List.map_cons, List.map_nil]; rfl) ?_
    with_reducible refine (ai_calls HTB.out HB2.out HV2.out (by omega) (by omega) (by simp only [List.length_append, List.length_singleton]; omega)).mono ?_
    rintro e Wc3 ⟨vz, rfl, hR, hB⟩
    refine ⟨_, rfl, ?_⟩
    have HZ := Aside0.mk (And.intro hR hB)
    clear hR hB
    refine hK.out _ _ ((blk_cell (blk_below BK1.out HZ.out.2) 4).trans rfl) (fun hHeld => ?_)
    clear hK K
    refine norm_ (a' := ?_) ?_ ?_
    rotate_left
    · show Act.put _ (some 68) _ = _
      simp only [Act.put, List.setIfInBounds_toArray, List.set_cons_zero, List.set_cons_succ, i64_w, i32_w]
      rfl
    refine pure_ (i := 6) (N := some 2) (v := ?_) (a' := ?_) #[true, true, true, true, true, true, true] rfl rfl (by kernel_rfl) (fun _ _ _ h => h) (Or.inl ⟨by rfl, ?_⟩) ?_ ?_
    rotate_left
    · intro w'
      go_simp
      with_reducible rfl
    rotate_left
    · simp only [Act.put, List.setIfInBounds_toArray, List.set_cons_zero, List.set_cons_succ, i64_w, i32_w]
      rfl
    refine done_ (by kernel_rfl) ?_

    go_wp2
    exact bodyPost_ret (v := vz) (by simp [results, Tryd.results15, go_sem]) rfl ⟨vz, rfl, (by rw [show tl = [43] ++ dec add from HTL.out.symm.trans (by have h_ := HN.out; unfold tailV; rw [if_neg (fun h : add = 0 ∧ _ => HA0.out h.1), if_neg (show ¬ add < 0 by omega)])]; have h_ := Kd.R_lower HZ.out.1 HB1s.out.size; first | exact h_ | (rw [← List.append_assoc]; exact h_)), below_step HB1s.out HZ.out.2⟩
set_option maxHeartbeats 8000000 in
set_option maxRecDepth 100000 in
theorem spell_63 {w : World} {A : Option Addr} {c : Nat} {num name add : Int} {text : List Int} {given : Bool} (hr : Kd.C (Kd.int .u8) w A text.length text) (hl : text.length ≤ 1048576) (htab : Tab w) (h1 : -999999999 ≤ add) (h2 : add ≤ 999999999)
    (HS : ∀ W, Below w.heap.size w W → Calls Tryd.prog 28 #[.agg #[.int .u8 63, .int .i64 num, .int .u8 name, .slice A text.length c, .int .i64 add, .bool given]] W fun e w' => e = .returned (.bool true) ∧ Below W.heap.size W w') :
    Calls Tryd.prog 15 #[.agg #[.int .u8 63, .int .i64 num, .int .u8 name, .slice A text.length c, .int .i64 add, .bool given]] w fun e w' => ∃ v, e = .returned v ∧ (Kd.int .u8).R 5 w' w.heap.size (fun _ => True) v (headV 63 num name text ++ tailV 63 add) ∧ Below w.heap.size w w' := by
  have BX := Aside0.mk (blk_new w (.cells #[.int .u8 63, .int .i64 num, .int .u8 name, .slice A text.length c, .int .i64 add, .bool given] 25))
  have HB := Aside0.mk (below_alloc (Below.refl w.heap.size w) (.cells #[.int .u8 63, .int .i64 num, .int .u8 name, .slice A text.length c, .int .i64 add, .bool given] 25))
  have HS0 := Aside0.mk (HS _ HB.out)
  have HLEN : ([63] ++ text ++ [63] : List Int).length ≤ 1048600 := by simp only [List.length_append, List.length_singleton]; omega
  rw [show headV 63 num name text = ([63] ++ text ++ [63] : List Int) from rfl]
  generalize htl : tailV 63 add = tl
  have HTL := Aside0.mk htl
  clear HS htl
  go_enter Tryd.func15, Tryd.ntmps15
  go_wp2_with (go_at_call 28; (with_reducible refine HS0.out.mono ?_); rintro e w1 ⟨rfl, hx⟩; have HB1s := Aside0.mk (below_step HB.out hx); have BK1 := Aside0.mk (blk_below BX.out hx); have HTB := Aside0.mk (htab.below HB1s.out); have j0 := (blk_cell BK1.out 0).trans rfl; have j1 := (blk_cell BK1.out 1).trans rfl; have j2 := (blk_cell BK1.out 2).trans rfl; have j3 := (blk_cell BK1.out 3).trans rfl; have j4 := (blk_cell BK1.out 4).trans rfl; clear hx)
  refine start_ (n := 13) (S := fun w' => w'.cell? ⟨w.heap.size, 0, none⟩ = some (.int .u8 63) ∧ w'.cell? ⟨w.heap.size, 3, none⟩ = some (.slice A text.length c)) (ds := []) #[false, false, false, false, false, false, false, false, false, false, false, false, false] (by kernel_rfl) rfl rfl ⟨(blk_cell (blk_below BK1.out (below_drew (Below.refl w1.heap.size w1))) 0).trans rfl, (blk_cell (blk_below BK1.out (below_drew (Below.refl w1.heap.size w1))) 3).trans rfl⟩ (fun hHeld => ?_)
  have HB0 := Aside0.mk (below_drew (Below.refl w1.heap.size w1))
  generalize w1.drew = Wc0 at HB0 hHeld ⊢
  refine pure_ (i := 0) (N := some 27) (v := ?_) (a' := ?_) #[true, false, false, false, false, false, false, false, false, false, false, false, false] rfl rfl (by kernel_rfl) (fun _ _ _ h => h) (Or.inl ⟨by rfl, ?_⟩) ?_ ?_
  rotate_left
  · intro w'
    go_simp
    with_reducible rfl
  rotate_left
  · simp only [Act.put, List.setIfInBounds_toArray, List.set_cons_zero, List.set_cons_succ, i64_w, i32_w]
    rfl
  refine pure_ (i := 1) (N := some 28) (v := ?_) (a' := ?_) #[true, true, false, false, false, false, false, false, false, false, false, false, false] rfl rfl (by kernel_rfl) (fun _ _ _ h => h) (Or.inl ⟨by rfl, ?_⟩) ?_ ?_
  rotate_left
  · intro w'
    go_simp
    with_reducible rfl
  rotate_left
  · simp only [Act.put, List.setIfInBounds_toArray, List.set_cons_zero, List.set_cons_succ, i64_w, i32_w]
    rfl
  refine pure_ (i := 5) (N := some 32) (v := ?_) (a' := ?_) #[true, true, false, false, false, true, false, false, false, false, false, false, false] rfl rfl (by kernel_rfl) (fun _ _ _ h => h) (Or.inl ⟨by rfl, ?_⟩) ?_ ?_
  rotate_left
  · intro w'
    go_simp
    with_reducible rfl
  rotate_left
  · simp only [Act.put, List.setIfInBounds_toArray, List.set_cons_zero, List.set_cons_succ, i64_w, i32_w]
    rfl
  refine pure_ (i := 8) (N := some 35) (v := ?_) (a' := ?_) #[true, true, false, false, false, true, false, false, true, false, false, false, false] rfl rfl (by kernel_rfl) (fun _ _ _ h => h) (Or.inl ⟨by rfl, ?_⟩) ?_ ?_
  rotate_left
  · intro w'
    go_simp
    with_reducible rfl
  rotate_left
  · simp only [Act.put, List.setIfInBounds_toArray, List.set_cons_zero, List.set_cons_succ, i64_w, i32_w]
    rfl
  refine take_ (i := 2) (N := some 29) (v := ?_) (a' := ?_) #[true, true, true, false, false, true, false, false, true, false, false, false, false] rfl rfl (by kernel_rfl) (fun _ _ _ h => h) (Or.inl ⟨by rfl, ?_⟩) hHeld ?_ ?_
  rotate_left
  · rintro w' ⟨s0, s1⟩
    go_simp
    with_reducible rfl
  rotate_left
  · simp only [Act.put, List.setIfInBounds_toArray, List.set_cons_zero, List.set_cons_succ, i64_w, i32_w]
    rfl
  refine take_ (i := 6) (N := some 33) (v := ?_) (a' := ?_) #[true, true, true, false, false, true, true, false, true, false, false, false, false] rfl rfl (by kernel_rfl) (fun _ _ _ h => h) (Or.inl ⟨by rfl, ?_⟩) hHeld ?_ ?_
  rotate_left
  · rintro w' ⟨s0, s1⟩
    go_simp
    with_reducible rfl
  rotate_left
  · simp only [Act.put, List.setIfInBounds_toArray, List.set_cons_zero, List.set_cons_succ, i64_w, i32_w]
    rfl
  refine take_ (i := 9) (N := some 36) (v := ?_) (a' := ?_) #[true, true, true, false, false, true, true, false, true, true, false, false, false] rfl rfl (by kernel_rfl) (fun _ _ _ h => h) (Or.inl ⟨by rfl, ?_⟩) hHeld ?_ ?_
  rotate_left
  · rintro w' ⟨s0, s1⟩
    go_simp
    with_reducible rfl
  rotate_left
  · simp only [Act.put, List.setIfInBounds_toArray, List.set_cons_zero, List.set_cons_succ, i64_w, i32_w]
    rfl
  refine join_ (σ := Nat × Value × Value × Nat) 2 #[true, true, true, true, true, true, true, true, true, true, true, false, false] (fun s_ => [(30, .slice (some ⟨s_.1, 0, none⟩) 1 1), (31, s_.2.1), (34, s_.2.2.1), (37, .slice (some ⟨s_.2.2.2, 0, none⟩) 1 1)]) (fun s_ w' => (w'.cell? ⟨w.heap.size, 0, none⟩ = some (.int .u8 63) ∧ w'.cell? ⟨w.heap.size, 3, none⟩ = some (.slice A text.length c)) ∧ (Kd.int .u8).R 5 w' w1.heap.size (fun _ => True) s_.2.2.1 ([63] ++ text) ∧ w'.heap[s_.2.2.2]? = some (.cells #[.int .u8 63] 5) ∧ Below w1.heap.size w1 w') ?_ ?_
  rotate_left
  · intro hCont
    refine two_ (i := 3) (j := 10) (Ni := some 30) (Nj := some 37) #[true, true, true, true, false, true, true, false, true, true, false, false, false] #[true, true, true, false, false, true, true, false, true, true, true, false, false] rfl rfl rfl rfl (by kernel_rfl) (by decide) (by decide) (fun K hK => ?_) (fun K hK => ?_)
    · skip
      refine value_ (w1 := ?_) (v := ?_) (by rfl) rfl ?_ ?_
      rotate_left 2
      · go_simp
        constructor
        · rfl
        · rfl
      have HB1 := Aside0.mk (below_alloc HB0.out (.cells #[.int .u8 63] 5))
      have HF1 := Aside0.mk (blk_new Wc0 (.cells #[.int .u8 63] 5))
      generalize (Wc0.alloc (.cells #[.int .u8 63] 5)) = Wc1 at HB1 HF1 ⊢
      refine hK.out _ _ ⟨(blk_cell (blk_below BK1.out HB1.out) 0).trans rfl, (blk_cell (blk_below BK1.out HB1.out) 3).trans rfl⟩ (fun hHeld => ?_)
      clear hK K
      refine norm_ (a' := ?_) ?_ ?_
      rotate_left
      · show Act.put _ (some 30) _ = _
        simp only [Act.put, List.setIfInBounds_toArray, List.set_cons_zero, List.set_cons_succ, i64_w, i32_w]
        rfl
      refine two_ (i := 4) (j := 10) (Ni := some 31) (Nj := some 37) #[true, true, true, true, true, true, true, false, true, true, false, false, false] #[true, true, true, true, false, true, true, false, true, true, true, false, false] rfl rfl rfl rfl (by kernel_rfl) (by decide) (by decide) (fun K hK => ?_) (fun K hK => ?_)
      · skip
        refine Kd.R_append_rows_step (Kd.int .u8) (Rr := (Kd.int .u8).K Wc1) (w0 := w1) w1.heap.size (by rfl) (.tmp 27) (.tmp 30) 22 5 (.int .u8 0) 1 rfl Tryd.underlying22 infoB rfl (by decide) (by omega) (.slice none 0 0) [] [63] (some ⟨Wc0.heap.size, 0, none⟩) 1 1 (fun _ => True) (fun _ => False) rfl rfl (Kd.R_nil _ _ _ _ _) (u8_C (xs := [63]) (fr := (0, 0)) HF1.out (by simp)) (fun _ _ h => h) (fun _ h => h.elim) (fun _ _ => trivial) HB1.out HB1.out.size (by simp) ?_
        intro v31 Wc2 hR hB hG _
        rw [List.nil_append] at hR
        have HV2 := Aside0.mk hR
        have HB2 := Aside0.mk hB
        clear hR hB hG
        refine hK.out _ _ ⟨(blk_cell (blk_below BK1.out HB2.out) 0).trans rfl, (blk_cell (blk_below BK1.out HB2.out) 3).trans rfl⟩ (fun hHeld => ?_)
        clear hK K
        refine norm_ (a' := ?_) ?_ ?_
        rotate_left
        · show Act.put _ (some 31) _ = _
          simp only [Act.put, List.setIfInBounds_toArray, List.set_cons_zero, List.set_cons_succ, i64_w, i32_w]
          rfl
        refine two_ (i := 7) (j := 10) (Ni := some 34) (Nj := some 37) #[true, true, true, true, true, true, true, true, true, true, false, false, false] #[true, true, true, true, true, true, true, false, true, true, true, false, false] rfl rfl rfl rfl (by kernel_rfl) (by decide) (by decide) (fun K hK => ?_) (fun K hK => ?_)
        · skip
          refine Kd.R_append_rows_step (Kd.int .u8) (Rr := (Kd.int .u8).K Wc2) (w0 := w1) w1.heap.size (by rfl) (.tmp 31) (.tmp 33) 22 5 (.int .u8 0) 1 rfl Tryd.underlying22 infoB rfl (by decide) (by omega) v31 [63] text A text.length c (fun _ => True) (fun _ => False) rfl rfl (Kd.R_mono HV2.out (fun _ _ => trivial)) (Kd.C_below hr (below_step HB1s.out HB2.out)) (fun _ _ h => h) (fun _ h => h.elim) (fun _ _ => trivial) HB2.out HB2.out.size (by simp only [List.length_singleton]; omega) ?_
          intro v34 Wc3 hR hB hG _
          have HV3 := Aside0.mk hR
          have HB3 := Aside0.mk hB
          clear hR hB hG
          refine hK.out _ _ ⟨(blk_cell (blk_below BK1.out HB3.out) 0).trans rfl, (blk_cell (blk_below BK1.out HB3.out) 3).trans rfl⟩ (fun hHeld => ?_)
          clear hK K
          refine norm_ (a' := ?_) ?_ ?_
          rotate_left
          · show Act.put _ (some 34) _ = _
            simp only [Act.put, List.setIfInBounds_toArray, List.set_cons_zero, List.set_cons_succ, i64_w, i32_w]
            rfl
          refine one_ (i := 10) (N := some 37) #[true, true, true, true, true, true, true, true, true, true, true, false, false] rfl rfl (by kernel_rfl) (by decide) (fun K hK => ?_)
          refine value_ (w1 := ?_) (v := ?_) (by rfl) rfl ?_ ?_
          rotate_left 2
          · go_simp
            constructor
            · rfl
            · rfl
          have HB4 := Aside0.mk (below_alloc HB3.out (.cells #[.int .u8 63] 5))
          have HP4 := Aside0.mk (blk_new Wc3 (.cells #[.int .u8 63] 5))
          have HV4 := Aside0.mk (Kd.R_alloc HV3.out (.cells #[.int .u8 63] 5))
          generalize (Wc3.alloc (.cells #[.int .u8 63] 5)) = Wc4 at HB4 HP4 HV4 ⊢
          refine hK.out _ _ ⟨(blk_cell (blk_below BK1.out HB4.out) 0).trans rfl, (blk_cell (blk_below BK1.out HB4.out) 3).trans rfl⟩ (fun hHeld => ?_)
          clear hK K
          refine norm_ (a' := ?_) ?_ ?_
          rotate_left
          · show Act.put _ (some 37) _ = _
            simp only [Act.put, List.setIfInBounds_toArray, List.set_cons_zero, List.set_cons_succ, i64_w, i32_w]
            rfl
          exact norm_ (by simp only [putAll, Act.put, List.setIfInBounds_toArray, List.set_cons_zero, List.set_cons_succ]) (hCont (Wc0.heap.size, v31, v34, Wc3.heap.size) _ ⟨hHeld, HV4.out, HP4.out, HB4.out⟩)
        · skip
          refine value_ (w1 := ?_) (v := ?_) (by rfl) rfl ?_ ?_
          rotate_left 2
          · go_simp
            constructor
            · rfl
            · rfl
          have HB3 := Aside0.mk (below_alloc HB2.out (.cells #[.int .u8 63] 5))
          have HP3 := Aside0.mk (blk_new Wc2 (.cells #[.int .u8 63] 5))
          have HV3 := Aside0.mk (Kd.R_alloc (Kd.R_mono (ok' := fun k => k ≠ Wc2.heap.size) (Kd.R_bound HV2.out) (fun k hk => Nat.ne_of_lt hk.2.2.1)) (.cells #[.int .u8 63] 5))
          generalize (Wc2.alloc (.cells #[.int .u8 63] 5)) = Wc3 at HB3 HP3 HV3 ⊢
          refine hK.out _ _ ⟨(blk_cell (blk_below BK1.out HB3.out) 0).trans rfl, (blk_cell (blk_below BK1.out HB3.out) 3).trans rfl⟩ (fun hHeld => ?_)
          clear hK K
          refine norm_ (a' := ?_) ?_ ?_
          rotate_left
          · show Act.put _ (some 37) _ = _
            simp only [Act.put, List.setIfInBounds_toArray, List.set_cons_zero, List.set_cons_succ, i64_w, i32_w]
            rfl
          refine one_ (i := 7) (N := some 34) #[true, true, true, true, true, true, true, true, true, true, true, false, false] rfl rfl (by kernel_rfl) (by decide) (fun K hK => ?_)
          refine Kd.R_append_rows_step (Kd.int .u8) (Rr := (Kd.int .u8).K Wc3) (w0 := w1) w1.heap.size (by rfl) (.tmp 31) (.tmp 33) 22 5 (.int .u8 0) 1 rfl Tryd.underlying22 infoB rfl (by decide) (by omega) v31 [63] text A text.length c (fun _ => True) (fun _ => False) rfl rfl (Kd.R_mono HV3.out (fun _ _ => trivial)) (Kd.C_below hr (below_step HB1s.out HB3.out)) (fun _ _ h => h) (fun _ h => h.elim) (fun _ _ => trivial) HB3.out HB3.out.size (by simp only [List.length_singleton]; omega) ?_
          intro v34 Wc4 hR hB hG _
          have HP4 := Aside0.mk ((hG.block Wc2.heap.size (blk_lt HP3.out) (fun e => HV3.out.1 _ e.symm rfl)).trans HP3.out)
          have HV4 := Aside0.mk hR
          have HB4 := Aside0.mk hB
          clear hR hB hG
          refine hK.out _ _ ⟨(blk_cell (blk_below BK1.out HB4.out) 0).trans rfl, (blk_cell (blk_below BK1.out HB4.out) 3).trans rfl⟩ (fun hHeld => ?_)
          clear hK K
          refine norm_ (a' := ?_) ?_ ?_
          rotate_left
          · show Act.put _ (some 34) _ = _
            simp only [Act.put, List.setIfInBounds_toArray, List.set_cons_zero, List.set_cons_succ, i64_w, i32_w]
            rfl
          exact norm_ (by simp only [putAll, Act.put, List.setIfInBounds_toArray, List.set_cons_zero, List.set_cons_succ]) (hCont (Wc0.heap.size, v31, v34, Wc2.heap.size) _ ⟨hHeld, HV4.out, HP4.out, HB4.out⟩)
      · skip
        refine value_ (w1 := ?_) (v := ?_) (by rfl) rfl ?_ ?_
        rotate_left 2
        · go_simp
          constructor
          · rfl
          · rfl
        have HB2 := Aside0.mk (below_alloc HB1.out (.cells #[.int .u8 63] 5))
        have HP2 := Aside0.mk (blk_new Wc1 (.cells #[.int .u8 63] 5))
        have HF2 := Aside0.mk (blk_alloc HF1.out (.cells #[.int .u8 63] 5))
        generalize (Wc1.alloc (.cells #[.int .u8 63] 5)) = Wc2 at HB2 HP2 HF2 ⊢
        refine hK.out _ _ ⟨(blk_cell (blk_below BK1.out HB2.out) 0).trans rfl, (blk_cell (blk_below BK1.out HB2.out) 3).trans rfl⟩ (fun hHeld => ?_)
        clear hK K
        refine norm_ (a' := ?_) ?_ ?_
        rotate_left
        · show Act.put _ (some 37) _ = _
          simp only [Act.put, List.setIfInBounds_toArray, List.set_cons_zero, List.set_cons_succ, i64_w, i32_w]
          rfl
        refine one_ (i := 4) (N := some 31) #[true, true, true, true, true, true, true, false, true, true, true, false, false] rfl rfl (by kernel_rfl) (by decide) (fun K hK => ?_)
        refine Kd.R_append_rows_step (Kd.int .u8) (Rr := (Kd.int .u8).K Wc2) (w0 := w1) w1.heap.size (by rfl) (.tmp 27) (.tmp 30) 22 5 (.int .u8 0) 1 rfl Tryd.underlying22 infoB rfl (by decide) (by omega) (.slice none 0 0) [] [63] (some ⟨Wc0.heap.size, 0, none⟩) 1 1 (fun k => k ≠ Wc1.heap.size) (fun _ => False) rfl rfl (Kd.R_nil _ _ _ _ _) (u8_C (xs := [63]) (fr := (0, 0)) HF2.out (by simp)) (fun _ _ h => h) (fun _ h => h.elim) (fun k hk => by have h1 := blk_lt HP2.out; omega) HB2.out HB2.out.size (by simp) ?_
        intro v31 Wc3 hR hB hG _
        rw [List.nil_append] at hR
        have HV3 := Aside0.mk hR
        have HB3 := Aside0.mk hB
        have HP3 := Aside0.mk ((hG.block Wc1.heap.size (blk_lt HP2.out) (fun e => nomatch e)).trans HP2.out)
        clear hR hB hG
        refine hK.out _ _ ⟨(blk_cell (blk_below BK1.out HB3.out) 0).trans rfl, (blk_cell (blk_below BK1.out HB3.out) 3).trans rfl⟩ (fun hHeld => ?_)
        clear hK K
        refine norm_ (a' := ?_) ?_ ?_
        rotate_left
        · show Act.put _ (some 31) _ = _
          simp only [Act.put, List.setIfInBounds_toArray, List.set_cons_zero, List.set_cons_succ, i64_w, i32_w]
          rfl
        refine one_ (i := 7) (N := some 34) #[true, true, true, true, true, true, true, true, true, true, true, false, false] rfl rfl (by kernel_rfl) (by decide) (fun K hK => ?_)
        refine Kd.R_append_rows_step (Kd.int .u8) (Rr := (Kd.int .u8).K Wc3) (w0 := w1) w1.heap.size (by rfl) (.tmp 31) (.tmp 33) 22 5 (.int .u8 0) 1 rfl Tryd.underlying22 infoB rfl (by decide) (by omega) v31 [63] text A text.length c (fun _ => True) (fun _ => False) rfl rfl (Kd.R_mono HV3.out (fun _ _ => trivial)) (Kd.C_below hr (below_step HB1s.out HB3.out)) (fun _ _ h => h) (fun _ h => h.elim) (fun _ _ => trivial) HB3.out HB3.out.size (by simp only [List.length_singleton]; omega) ?_
        intro v34 Wc4 hR hB hG _
        have HP4 := Aside0.mk ((hG.block Wc1.heap.size (blk_lt HP3.out) (fun e => HV3.out.1 _ e.symm rfl)).trans HP3.out)
        have HV4 := Aside0.mk hR
        have HB4 := Aside0.mk hB
        clear hR hB hG
        refine hK.out _ _ ⟨(blk_cell (blk_below BK1.out HB4.out) 0).trans rfl, (blk_cell (blk_below BK1.out HB4.out) 3).trans rfl⟩ (fun hHeld => ?_)
        clear hK K
        refine norm_ (a' := ?_) ?_ ?_
        rotate_left
        · show Act.put _ (some 34) _ = _
          simp only [Act.put, List.setIfInBounds_toArray, List.set_cons_zero, List.set_cons_succ, i64_w, i32_w]
          rfl
        exact norm_ (by simp only [putAll, Act.put, List.setIfInBounds_toArray, List.set_cons_zero, List.set_cons_succ]) (hCont (Wc0.heap.size, v31, v34, Wc1.heap.size) _ ⟨hHeld, HV4.out, HP4.out, HB4.out⟩)
    · skip
      refine value_ (w1 := ?_) (v := ?_) (by rfl) rfl ?_ ?_
      rotate_left 2
      · go_simp
        constructor
        · rfl
        · rfl
      have HB1 := Aside0.mk (below_alloc HB0.out (.cells #[.int .u8 63] 5))
      have HP1 := Aside0.mk (blk_new Wc0 (.cells #[.int .u8 63] 5))
      generalize (Wc0.alloc (.cells #[.int .u8 63] 5)) = Wc1 at HB1 HP1 ⊢
      refine hK.out _ _ ⟨(blk_cell (blk_below BK1.out HB1.out) 0).trans rfl, (blk_cell (blk_below BK1.out HB1.out) 3).trans rfl⟩ (fun hHeld => ?_)
      clear hK K
      refine norm_ (a' := ?_) ?_ ?_
      rotate_left
      · show Act.put _ (some 37) _ = _
        simp only [Act.put, List.setIfInBounds_toArray, List.set_cons_zero, List.set_cons_succ, i64_w, i32_w]
        rfl
      refine one_ (i := 3) (N := some 30) #[true, true, true, true, false, true, true, false, true, true, true, false, false] rfl rfl (by kernel_rfl) (by decide) (fun K hK => ?_)
      refine value_ (w1 := ?_) (v := ?_) (by rfl) rfl ?_ ?_
      rotate_left 2
      · go_simp
        constructor
        · rfl
        · rfl
      have HB2 := Aside0.mk (below_alloc HB1.out (.cells #[.int .u8 63] 5))
      have HF2 := Aside0.mk (blk_new Wc1 (.cells #[.int .u8 63] 5))
      have HP2 := Aside0.mk (blk_alloc HP1.out (.cells #[.int .u8 63] 5))
      generalize (Wc1.alloc (.cells #[.int .u8 63] 5)) = Wc2 at HB2 HF2 HP2 ⊢
      refine hK.out _ _ ⟨(blk_cell (blk_below BK1.out HB2.out) 0).trans rfl, (blk_cell (blk_below BK1.out HB2.out) 3).trans rfl⟩ (fun hHeld => ?_)
      clear hK K
      refine norm_ (a' := ?_) ?_ ?_
      rotate_left
      · show Act.put _ (some 30) _ = _
        simp only [Act.put, List.setIfInBounds_toArray, List.set_cons_zero, List.set_cons_succ, i64_w, i32_w]
        rfl
      refine one_ (i := 4) (N := some 31) #[true, true, true, true, true, true, true, false, true, true, true, false, false] rfl rfl (by kernel_rfl) (by decide) (fun K hK => ?_)
      refine Kd.R_append_rows_step (Kd.int .u8) (Rr := (Kd.int .u8).K Wc2) (w0 := w1) w1.heap.size (by rfl) (.tmp 27) (.tmp 30) 22 5 (.int .u8 0) 1 rfl Tryd.underlying22 infoB rfl (by decide) (by omega) (.slice none 0 0) [] [63] (some ⟨Wc1.heap.size, 0, none⟩) 1 1 (fun k => k ≠ Wc0.heap.size) (fun _ => False) rfl rfl (Kd.R_nil _ _ _ _ _) (u8_C (xs := [63]) (fr := (0, 0)) HF2.out (by simp)) (fun _ _ h => h) (fun _ h => h.elim) (fun k hk => by have h1 := blk_lt HP2.out; omega) HB2.out HB2.out.size (by simp) ?_
      intro v31 Wc3 hR hB hG _
      rw [List.nil_append] at hR
      have HV3 := Aside0.mk hR
      have HB3 := Aside0.mk hB
      have HP3 := Aside0.mk ((hG.block Wc0.heap.size (blk_lt HP2.out) (fun e => nomatch e)).trans HP2.out)
      clear hR hB hG
      refine hK.out _ _ ⟨(blk_cell (blk_below BK1.out HB3.out) 0).trans rfl, (blk_cell (blk_below BK1.out HB3.out) 3).trans rfl⟩ (fun hHeld => ?_)
      clear hK K
      refine norm_ (a' := ?_) ?_ ?_
      rotate_left
      · show Act.put _ (some 31) _ = _
        simp only [Act.put, List.setIfInBounds_toArray, List.set_cons_zero, List.set_cons_succ, i64_w, i32_w]
        rfl
      refine one_ (i := 7) (N := some 34) #[true, true, true, true, true, true, true, true, true, true, true, false, false] rfl rfl (by kernel_rfl) (by decide) (fun K hK => ?_)
      refine Kd.R_append_rows_step (Kd.int .u8) (Rr := (Kd.int .u8).K Wc3) (w0 := w1) w1.heap.size (by rfl) (.tmp 31) (.tmp 33) 22 5 (.int .u8 0) 1 rfl Tryd.underlying22 infoB rfl (by decide) (by omega) v31 [63] text A text.length c (fun _ => True) (fun _ => False) rfl rfl (Kd.R_mono HV3.out (fun _ _ => trivial)) (Kd.C_below hr (below_step HB1s.out HB3.out)) (fun _ _ h => h) (fun _ h => h.elim) (fun _ _ => trivial) HB3.out HB3.out.size (by simp only [List.length_singleton]; omega) ?_
      intro v34 Wc4 hR hB hG _
      have HP4 := Aside0.mk ((hG.block Wc0.heap.size (blk_lt HP3.out) (fun e => HV3.out.1 _ e.symm rfl)).trans HP3.out)
      have HV4 := Aside0.mk hR
      have HB4 := Aside0.mk hB
      clear hR hB hG
      refine hK.out _ _ ⟨(blk_cell (blk_below BK1.out HB4.out) 0).trans rfl, (blk_cell (blk_below BK1.out HB4.out) 3).trans rfl⟩ (fun hHeld => ?_)
      clear hK K
      refine norm_ (a' := ?_) ?_ ?_
      rotate_left
      · show Act.put _ (some 34) _ = _
        simp only [Act.put, List.setIfInBounds_toArray, List.set_cons_zero, List.set_cons_succ, i64_w, i32_w]
        rfl
      exact norm_ (by simp only [putAll, Act.put, List.setIfInBounds_toArray, List.set_cons_zero, List.set_cons_succ]) (hCont (Wc1.heap.size, v31, v34, Wc0.heap.size) _ ⟨hHeld, HV4.out, HP4.out, HB4.out⟩)
  rintro ⟨b30, v31, v34, b37⟩ w4 ⟨hHeld, hR4, hP4, hB4⟩
  simp only at hHeld hR4 hP4 hB4
  have HV4 := Aside0.mk hR4
  have HP4 := Aside0.mk hP4
  have HB4 := Aside0.mk hB4
  clear hR4 hP4 hB4
  refine norm_ (a' := ?_) ?_ ?_
  rotate_left
  · simp only [putAll, Act.put, List.setIfInBounds_toArray, List.set_cons_zero, List.set_cons_succ]
    rfl
  refine one_ (i := 11) (N := some 38) #[true, true, true, true, true, true, true, true, true, true, true, true, false] rfl rfl (by kernel_rfl) (by decide) (fun K hK => ?_)
  refine Kd.R_append_rows_step (Kd.int .u8) (Rr := (Kd.int .u8).K w4) (w0 := w1) w1.heap.size (by rfl) (.tmp 34) (.tmp 37) 22 5 (.int .u8 0) 1 rfl Tryd.underlying22 infoB rfl (by decide) (by omega) v34 ([63] ++ text) [63] (some ⟨b37, 0, none⟩) 1 1 (fun _ => True) (fun _ => False) rfl rfl HV4.out (u8_C (xs := [63]) (fr := (0, 0)) HP4.out (by simp)) (fun _ _ h => h) (fun _ h => h.elim) (fun _ _ => trivial) HB4.out HB4.out.size (by simp only [List.length_append, List.length_singleton]; omega) ?_
  intro v2 w2 hR hB _ _
  have H2 := Aside0.mk (And.intro hR hB)
  clear hR hB
  refine hK.out _ _ ⟨(blk_cell (blk_below BK1.out H2.out.2) 0).trans rfl, (blk_cell (blk_below BK1.out H2.out.2) 3).trans rfl⟩ (fun hHeld => ?_)
  clear hK K
  refine norm_ (a' := ?_) ?_ ?_
  rotate_left
  · show Act.put _ (some 38) _ = _
    simp only [Act.put, List.setIfInBounds_toArray, List.set_cons_zero, List.set_cons_succ, i64_w, i32_w]
    rfl
  refine pure_ (i := 12) (N := some 3) (v := ?_) (a' := ?_) #[true, true, true, true, true, true, true, true, true, true, true, true, true] rfl rfl (by kernel_rfl) (fun _ _ _ h => h) (Or.inl ⟨by rfl, ?_⟩) ?_ ?_
  rotate_left
  · intro w'
    go_simp
    with_reducible rfl
  rotate_left
  · simp only [Act.put, List.setIfInBounds_toArray, List.set_cons_zero, List.set_cons_succ, i64_w, i32_w]
    rfl
  refine done_ (by kernel_rfl) ?_

  refine Hid.out ?_
  have k0 := (blk_cell (blk_below BK1.out H2.out.2) 0).trans rfl
  have k4 := (blk_cell (blk_below BK1.out H2.out.2) 4).trans rfl
  clear hHeld
  by_cases ha : add = 0
  · have HA := Aside0.mk ha
    have q0 : (add == 0) = true := by rw [ha]; rfl
    clear ha
    refine Lib.hid ?_
    go_wp2
    exact bodyPost_ret (v := v2) (by simp [results, Tryd.results15, go_sem]) rfl ⟨v2, rfl, (by rw [show tl = ([] : List Int) from HTL.out.symm.trans (by rw [HA.out]; rfl)]; have h_ := Kd.R_lower H2.out.1 HB1s.out.size; first | exact h_ | (rw [List.append_nil]; exact h_)), below_step HB1s.out H2.out.2⟩
  have HA0 := Aside0.mk ha
  by_cases hn : add < 0
  · have HN := Aside0.mk hn
    have q0 : (add == 0) = false := beq_eq_false_iff_ne.2 (by omega)
    have q1 : (add < 0) = True := eq_true hn
    clear hn
    refine Lib.hid ?_
    go_wp2_with (go_at_call 29; (with_reducible refine (ai_calls HTB.out H2.out.2 H2.out.1 (by omega) (by omega) (by have h_ := HLEN; first | omega | (simp; done) | decide | (simp only [List.length_cons, List.length_nil]; omega) | (simp only [List.length_append, List.length_cons, List.length_nil]; omega))).mono ?_); rintro e w3 ⟨v3, rfl, hR, hB⟩; have H3 := Aside0.mk (And.intro hR hB); clear hR hB)
    exact bodyPost_ret (v := v3) (by simp [results, Tryd.results15, go_sem]) rfl ⟨v3, rfl, (by rw [show tl = dec add from HTL.out.symm.trans (by have h_ := HN.out; unfold tailV; rw [if_neg (show ¬ (add = 0 ∧ _) by omega), if_pos (show add < 0 by omega)])]; exact Kd.R_lower H3.out.1 HB1s.out.size), below_step HB1s.out H3.out.2⟩
  · have HN := Aside0.mk hn
    have q0 : (add == 0) = false := beq_eq_false_iff_ne.2 (by omega)
    have q1 : (add < 0) = False := eq_false hn
    refine Lib.hid ?_
    go_wp2
    have HV2a := Aside0.mk H2.out.1
    have HB2a := Aside0.mk H2.out.2
    refine start_ (n := 7) (S := fun w' => w'.cell? ⟨w.heap.size, 4, none⟩ = some (.int .i64 add)) (ds := []) #[false, false, false, false, false, false, false] (by kernel_rfl) rfl rfl ((blk_cell (blk_below BK1.out (below_drew HB2a.out)) 4).trans rfl) (fun hHeld => ?_)
    have HB0 := Aside0.mk (below_drew HB2a.out)
    have HV0 := Aside0.mk (Kd.R_drew HV2a.out)
    generalize w2.drew = Wc0 at HB0 HV0 hHeld ⊢
    refine pure_ (i := 0) (N := some 63) (v := ?_) (a' := ?_) #[true, false, false, false, false, false, false] rfl rfl (by kernel_rfl) (fun _ _ _ h => h) (Or.inl ⟨by rfl, ?_⟩) ?_ ?_
    rotate_left
    · intro w'
      go_simp
      with_reducible rfl
    rotate_left
    · simp only [Act.put, List.setIfInBounds_toArray, List.set_cons_zero, List.set_cons_succ, i64_w, i32_w]
      rfl
    refine pure_ (i := 3) (N := some 66) (v := ?_) (a' := ?_) #[true, false, false, true, false, false, false] rfl rfl (by kernel_rfl) (fun _ _ _ h => h) (Or.inl ⟨by rfl, ?_⟩) ?_ ?_
    rotate_left
    · intro w'
      go_simp
      with_reducible rfl
    rotate_left
    · simp only [Act.put, List.setIfInBounds_toArray, List.set_cons_zero, List.set_cons_succ, i64_w, i32_w]
      rfl
    refine take_ (i := 4) (N := some 67) (v := ?_) (a' := ?_) #[true, false, false, true, true, false, false] rfl rfl (by kernel_rfl) (fun _ _ _ h => h) (Or.inl ⟨by rfl, ?_⟩) hHeld ?_ ?_
    rotate_left
    · intro w' s0
      go_simp
      with_reducible rfl
    rotate_left
    · simp only [Act.put, List.setIfInBounds_toArray, List.set_cons_zero, List.set_cons_succ, i64_w, i32_w]
      rfl
    refine one_ (i := 1) (N := some 64) #[true, true, false, true, true, false, false] rfl rfl (by kernel_rfl) (by decide) (fun K hK => ?_)
    refine value_ (w1 := ?_) (v := ?_) (by rfl) rfl ?_ ?_
    rotate_left 2
    · go_simp
      constructor
      · rfl
      · rfl
    have HB1 := Aside0.mk (below_alloc HB0.out (.cells #[.int .u8 43] 5))
    have HV1 := Aside0.mk (Kd.R_alloc HV0.out (.cells #[.int .u8 43] 5))
    have HP1 := Aside0.mk (blk_new Wc0 (.cells #[.int .u8 43] 5))
    generalize (Wc0.alloc (.cells #[.int .u8 43] 5)) = Wc1 at HB1 HV1 HP1 ⊢
    refine hK.out _ _ ((blk_cell (blk_below BK1.out HB1.out) 4).trans rfl) (fun hHeld => ?_)
    clear hK K
    refine norm_ (a' := ?_) ?_ ?_
    rotate_left
    · show Act.put _ (some 64) _ = _
      simp only [Act.put, List.setIfInBounds_toArray, List.set_cons_zero, List.set_cons_succ, i64_w, i32_w]
      rfl
    refine one_ (i := 2) (N := some 65) #[true, true, true, true, true, false, false] rfl rfl (by kernel_rfl) (by decide) (fun K hK => ?_)
    refine Kd.R_append_rows_step (Kd.int .u8) (Rr := (Kd.int .u8).K Wc1) (w0 := w1) w1.heap.size (by rfl) (.tmp 63) (.tmp 64) 22 5 (.int .u8 0) 1 rfl Tryd.underlying22 infoB rfl (by decide) (by omega) v2 ([63] ++ text ++ [63]) [43] (some ⟨Wc0.heap.size, 0, none⟩) 1 1 (fun _ => True) (fun _ => False) rfl rfl HV1.out (u8_C (xs := [43]) (fr := (0, 0)) HP1.out (by simp)) (fun _ _ h => h) (fun _ h => h.elim) (fun _ _ => trivial) HB1.out HB1.out.size (by have h_ := HLEN; first | omega | (simp only [List.length_cons, List.length_nil]; omega)) ?_
    intro vq Wc2 hR hB _ _
    have HV2 := Aside0.mk hR
    have HB2 := Aside0.mk hB
    clear hR hB
    refine hK.out _ _ ((blk_cell (blk_below BK1.out HB2.out) 4).trans rfl) (fun hHeld => ?_)
    clear hK K
    refine norm_ (a' := ?_) ?_ ?_
    rotate_left
    · show Act.put _ (some 65) _ = _
      simp only [Act.put, List.setIfInBounds_toArray, List.set_cons_zero, List.set_cons_succ, i64_w, i32_w]
      rfl
    refine one_ (i := 5) (N := some 68) #[true, true, true, true, true, true, false] rfl rfl (by kernel_rfl) (by decide) (fun K hK => ?_)
    refine goes_ Tryd.func29 (by kernel_rfl) rfl #[vq, .int .i64 add, .int .i64 10] (by rfl) rfl rfl (by simp only [List.map_toArray, List.map_cons, List.map_nil]; rfl) ?_
    with_reducible refine (ai_calls HTB.out HB2.out HV2.out (by omega) (by omega) (by simp only [List.length_append, List.length_singleton]; omega)).mono ?_
    rintro e Wc3 ⟨vz, rfl, hR, hB⟩
    refine ⟨_, rfl, ?_⟩
    have HZ := Aside0.mk (And.intro hR hB)
    clear hR hB
    refine hK.out _ _ ((blk_cell (blk_below BK1.out HZ.out.2) 4).trans rfl) (fun hHeld => ?_)
    clear hK K
    refine norm_ (a' := ?_) ?_ ?_
    rotate_left
    · show Act.put _ (some 68) _ = _
      simp only [Act.put, List.setIfInBounds_toArray, List.set_cons_zero, List.set_cons_succ, i64_w, i32_w]
      rfl
    refine pure_ (i := 6) (N := some 2) (v := ?_) (a' := ?_) #[true, true, true, true, true, true, true] rfl rfl (by kernel_rfl) (fun _ _ _ h => h) (Or.inl ⟨by rfl, ?_⟩) ?_ ?_
    rotate_left
    · intro w'
      go_simp
      with_reducible rfl
    rotate_left
    · simp only [Act.put, List.setIfInBounds_toArray, List.set_cons_zero, List.set_cons_succ, i64_w, i32_w]
      rfl
    refine done_ (by kernel_rfl) ?_

    go_wp2
    exact bodyPost_ret (v := vz) (by simp [results, Tryd.results15, go_sem]) rfl ⟨vz, rfl, (by rw [show tl = [43] ++ dec add from HTL.out.symm.trans (by have h_ := HN.out; unfold tailV; rw [if_neg (fun h : add = 0 ∧ _ => HA0.out h.1), if_neg (show ¬ add < 0 by omega)])]; have h_ := Kd.R_lower HZ.out.1 HB1s.out.size; first | exact h_ | (rw [← List.append_assoc]; exact h_)), below_step HB1s.out HZ.out.2⟩
set_option maxHeartbeats 8000000 in
set_option maxRecDepth 100000 in
theorem spell_0 {w : World} {A : Option Addr} {c : Nat} {num name add : Int} {text : List Int} {given : Bool} (hr : Kd.C (Kd.int .u8) w A text.length text) (hl : text.length ≤ 1048576) (htab : Tab w) (h1 : -999999999 ≤ add) (h2 : add ≤ 999999999)
    (HS : ∀ W, Below w.heap.size w W → Calls Tryd.prog 28 #[.agg #[.int .u8 0, .int .i64 num, .int .u8 name, .slice A text.length c, .int .i64 add, .bool given]] W fun e w' => e = .returned (.bool true) ∧ Below W.heap.size W w') :
    Calls Tryd.prog 15 #[.agg #[.int .u8 0, .int .i64 num, .int .u8 name, .slice A text.length c, .int .i64 add, .bool given]] w fun e w' => ∃ v, e = .returned v ∧ (Kd.int .u8).R 5 w' w.heap.size (fun _ => True) v (headV 0 num name text ++ tailV 0 add) ∧ Below w.heap.size w w' := by
  have BX := Aside0.mk (blk_new w (.cells #[.int .u8 0, .int .i64 num, .int .u8 name, .slice A text.length c, .int .i64 add, .bool given] 25))
  have HB := Aside0.mk (below_alloc (Below.refl w.heap.size w) (.cells #[.int .u8 0, .int .i64 num, .int .u8 name, .slice A text.length c, .int .i64 add, .bool given] 25))
  have HS0 := Aside0.mk (HS _ HB.out)
  have HLEN : ([] : List Int).length ≤ 1048600 := by decide
  rw [show headV 0 num name text = ([] : List Int) from rfl]
  generalize htl : tailV 0 add = tl
  have HTL := Aside0.mk htl
  clear HS htl
  go_enter Tryd.func15, Tryd.ntmps15
  go_wp2_with (go_at_call 28; (with_reducible refine HS0.out.mono ?_); rintro e w1 ⟨rfl, hx⟩; have HB1s := Aside0.mk (below_step HB.out hx); have BK1 := Aside0.mk (blk_below BX.out hx); have HTB := Aside0.mk (htab.below HB1s.out); have j0 := (blk_cell BK1.out 0).trans rfl; have j1 := (blk_cell BK1.out 1).trans rfl; have j2 := (blk_cell BK1.out 2).trans rfl; have j3 := (blk_cell BK1.out 3).trans rfl; have j4 := (blk_cell BK1.out 4).trans rfl; clear hx; refine Hid.out ?_)
  by_cases hn : add < 0
  · have HN := Aside0.mk hn
    have q0 : (add == 0) = false := beq_eq_false_iff_ne.2 (by omega)
    have q1 : (add < 0) = True := eq_true hn
    clear hn
    refine Lib.hid ?_
    go_wp2_with (go_at_call 29; (with_reducible refine (ai_calls HTB.out (Below.refl _ _) (Kd.R_nil _ _ _ _ _) (by omega) (by omega) (by have h_ := HLEN; first | omega | (simp; done) | decide | (simp only [List.length_cons, List.length_nil]; omega) | (simp only [List.length_append, List.length_cons, List.length_nil]; omega))).mono ?_); rintro e w3 ⟨v3, rfl, hR, hB⟩; have H3 := Aside0.mk (And.intro hR hB); clear hR hB)
    exact bodyPost_ret (v := v3) (by simp [results, Tryd.results15, go_sem]) rfl ⟨v3, rfl, (by rw [show tl = dec add from HTL.out.symm.trans (by have h_ := HN.out; unfold tailV; rw [if_neg (show ¬ (add = 0 ∧ _) by omega), if_pos (show add < 0 by omega)])]; exact Kd.R_lower H3.out.1 HB1s.out.size), below_step HB1s.out H3.out.2⟩
  · have HN := Aside0.mk hn
    by_cases hz : add = 0
    · have q0 : (add == 0) = true := by rw [hz]; rfl
      clear hz
      have q1 : (add < 0) = False := eq_false hn
      refine Lib.hid ?_
      go_wp2
      have HV2 := Aside0.mk (show (Kd.int .u8).R 5 w1 w1.heap.size (fun _ => True) (.slice none 0 0) [] from Kd.R_nil _ _ _ _ _)
      have HB2 := Aside0.mk (Below.refl w1.heap.size w1)
      refine start_ (n := 7) (S := fun w' => w'.cell? ⟨w.heap.size, 4, none⟩ = some (.int .i64 add)) (ds := []) #[false, false, false, false, false, false, false] (by kernel_rfl) rfl rfl ((blk_cell (blk_below BK1.out (below_drew HB2.out)) 4).trans rfl) (fun hHeld => ?_)
      have HB0 := Aside0.mk (below_drew HB2.out)
      have HV0 := Aside0.mk (Kd.R_drew HV2.out)
      generalize w1.drew = Wc0 at HB0 HV0 hHeld ⊢
      refine pure_ (i := 0) (N := some 63) (v := ?_) (a' := ?_) #[true, false, false, false, false, false, false] rfl rfl (by kernel_rfl) (fun _ _ _ h => h) (Or.inl ⟨by rfl, ?_⟩) ?_ ?_
      rotate_left
      · intro w'
        go_simp
        with_reducible rfl
      rotate_left
      · simp only [Act.put, List.setIfInBounds_toArray, List.set_cons_zero, List.set_cons_succ, i64_w, i32_w]
        rfl
      refine pure_ (i := 3) (N := some 66) (v := ?_) (a' := ?_) #[true, false, false, true, false, false, false] rfl rfl (by kernel_rfl) (fun _ _ _ h => h) (Or.inl ⟨by rfl, ?_⟩) ?_ ?_
      rotate_left
      · intro w'
        go_simp
        with_reducible rfl
      rotate_left
      · simp only [Act.put, List.setIfInBounds_toArray, List.set_cons_zero, List.set_cons_succ, i64_w, i32_w]
        rfl
      refine take_ (i := 4) (N := some 67) (v := ?_) (a' := ?_) #[true, false, false, true, true, false, false] rfl rfl (by kernel_rfl) (fun _ _ _ h => h) (Or.inl ⟨by rfl, ?_⟩) hHeld ?_ ?_
      rotate_left
      · intro w' s0
        go_simp
        with_reducible rfl
      rotate_left
      · simp only [Act.put, List.setIfInBounds_toArray, List.set_cons_zero, List.set_cons_succ, i64_w, i32_w]
        rfl
      refine one_ (i := 1) (N := some 64) #[true, true, false, true, true, false, false] rfl rfl (by kernel_rfl) (by decide) (fun K hK => ?_)
      refine value_ (w1 := ?_) (v := ?_) (by rfl) rfl ?_ ?_
      rotate_left 2
      · go_simp
        constructor
        · rfl
        · rfl
      have HB1 := Aside0.mk (below_alloc HB0.out (.cells #[.int .u8 43] 5))
      have HV1 := Aside0.mk (Kd.R_alloc HV0.out (.cells #[.int .u8 43] 5))
      have HP1 := Aside0.mk (blk_new Wc0 (.cells #[.int .u8 43] 5))
      generalize (Wc0.alloc (.cells #[.int .u8 43] 5)) = Wc1 at HB1 HV1 HP1 ⊢
      refine hK.out _ _ ((blk_cell (blk_below BK1.out HB1.out) 4).trans rfl) (fun hHeld => ?_)
      clear hK K
      refine norm_ (a' := ?_) ?_ ?_
      rotate_left
      · show Act.put _ (some 64) _ = _
        simp only [Act.put, List.setIfInBounds_toArray, List.set_cons_zero, List.set_cons_succ, i64_w, i32_w]
        rfl
      refine one_ (i := 2) (N := some 65) #[true, true, true, true, true, false, false] rfl rfl (by kernel_rfl) (by decide) (fun K hK => ?_)
      refine Kd.R_append_rows_step (Kd.int .u8) (Rr := (Kd.int .u8).K Wc1) (w0 := w1) w1.heap.size (by rfl) (.tmp 63) (.tmp 64) 22 5 (.int .u8 0) 1 rfl Tryd.underlying22 infoB rfl (by decide) (by omega) (.slice none 0 0) [] [43] (some ⟨Wc0.heap.size, 0, none⟩) 1 1 (fun _ => True) (fun _ => False) rfl rfl HV1.out (u8_C (xs := [43]) (fr := (0, 0)) HP1.out (by simp)) (fun _ _ h => h) (fun _ h => h.elim) (fun _ _ => trivial) HB1.out HB1.out.size (by simp) ?_
      intro vq Wc2 hR hB _ _
      have HV2 := Aside0.mk hR
      have HB2 := Aside0.mk hB
      clear hR hB
      refine hK.out _ _ ((blk_cell (blk_below BK1.out HB2.out) 4).trans rfl) (fun hHeld => ?_)
      clear hK K
      refine norm_ (a' := ?_) ?_ ?_
      rotate_left
      · show Act.put _ (some 65) _ = _
        simp only [Act.put, List.setIfInBounds_toArray, List.set_cons_zero, List.set_cons_succ, i64_w, i32_w]
        rfl
      refine one_ (i := 5) (N := some 68) #[true, true, true, true, true, true, false] rfl rfl (by kernel_rfl) (by decide) (fun K hK => ?_)
      refine goes_ Tryd.func29 (by kernel_rfl) rfl #[vq, .int .i64 add, .int .i64 10] (by rfl) rfl rfl (by simp only [List.map_toArray, List.map_cons, List.map_nil]; rfl) ?_
      with_reducible refine (ai_calls HTB.out HB2.out HV2.out (by omega) (by omega) (by simp only [List.length_append, List.length_singleton]; omega)).mono ?_
      rintro e Wc3 ⟨vz, rfl, hR, hB⟩
      refine ⟨_, rfl, ?_⟩
      have HZ := Aside0.mk (And.intro hR hB)
      clear hR hB
      refine hK.out _ _ ((blk_cell (blk_below BK1.out HZ.out.2) 4).trans rfl) (fun hHeld => ?_)
      clear hK K
      refine norm_ (a' := ?_) ?_ ?_
      rotate_left
      · show Act.put _ (some 68) _ = _
        simp only [Act.put, List.setIfInBounds_toArray, List.set_cons_zero, List.set_cons_succ, i64_w, i32_w]
        rfl
      refine pure_ (i := 6) (N := some 2) (v := ?_) (a' := ?_) #[true, true, true, true, true, true, true] rfl rfl (by kernel_rfl) (fun _ _ _ h => h) (Or.inl ⟨by rfl, ?_⟩) ?_ ?_
      rotate_left
      · intro w'
        go_simp
        with_reducible rfl
      rotate_left
      · simp only [Act.put, List.setIfInBounds_toArray, List.set_cons_zero, List.set_cons_succ, i64_w, i32_w]
        rfl
      refine done_ (by kernel_rfl) ?_

      go_wp2
      exact bodyPost_ret (v := vz) (by simp [results, Tryd.results15, go_sem]) rfl ⟨vz, rfl, (by rw [show tl = [43] ++ dec add from HTL.out.symm.trans (by have h_ := HN.out; unfold tailV; rw [if_neg (fun h : add = 0 ∧ (0 : Int) ≠ 0 => h.2 rfl), if_neg (show ¬ add < 0 by omega)])]; have h_ := Kd.R_lower HZ.out.1 HB1s.out.size; first | exact h_ | (rw [← List.append_assoc]; exact h_)), below_step HB1s.out HZ.out.2⟩
    · have q0 : (add == 0) = false := beq_eq_false_iff_ne.2 hz
      clear hz
      have q1 : (add < 0) = False := eq_false hn
      refine Lib.hid ?_
      go_wp2
      have HV2 := Aside0.mk (show (Kd.int .u8).R 5 w1 w1.heap.size (fun _ => True) (.slice none 0 0) [] from Kd.R_nil _ _ _ _ _)
      have HB2 := Aside0.mk (Below.refl w1.heap.size w1)
      refine start_ (n := 7) (S := fun w' => w'.cell? ⟨w.heap.size, 4, none⟩ = some (.int .i64 add)) (ds := []) #[false, false, false, false, false, false, false] (by kernel_rfl) rfl rfl ((blk_cell (blk_below BK1.out (below_drew HB2.out)) 4).trans rfl) (fun hHeld => ?_)
      have HB0 := Aside0.mk (below_drew HB2.out)
      have HV0 := Aside0.mk (Kd.R_drew HV2.out)
      generalize w1.drew = Wc0 at HB0 HV0 hHeld ⊢
      refine pure_ (i := 0) (N := some 63) (v := ?_) (a' := ?_) #[true, false, false, false, false, false, false] rfl rfl (by kernel_rfl) (fun _ _ _ h => h) (Or.inl ⟨by rfl, ?_⟩) ?_ ?_
      rotate_left
      · intro w'
        go_simp
        with_reducible rfl
      rotate_left
      · simp only [Act.put, List.setIfInBounds_toArray, List.set_cons_zero, List.set_cons_succ, i64_w, i32_w]
        rfl
      refine pure_ (i := 3) (N := some 66) (v := ?_) (a' := ?_) #[true, false, false, true, false, false, false] rfl rfl (by kernel_rfl) (fun _ _ _ h => h) (Or.inl ⟨by rfl, ?_⟩) ?_ ?_
      rotate_left
      · intro w'
        go_simp
        with_reducible rfl
      rotate_left
      · simp only [Act.put, List.setIfInBounds_toArray, List.set_cons_zero, List.set_cons_succ, i64_w, i32_w]
        rfl
      refine take_ (i := 4) (N := some 67) (v := ?_) (a' := ?_) #[true, false, false, true, true, false, false] rfl rfl (by kernel_rfl) (fun _ _ _ h => h) (Or.inl ⟨by rfl, ?_⟩) hHeld ?_ ?_
      rotate_left
      · intro w' s0
        go_simp
        with_reducible rfl
      rotate_left
      · simp only [Act.put, List.setIfInBounds_toArray, List.set_cons_zero, List.set_cons_succ, i64_w, i32_w]
        rfl
      refine one_ (i := 1) (N := some 64) #[true, true, false, true, true, false, false] rfl rfl (by kernel_rfl) (by decide) (fun K hK => ?_)
      refine value_ (w1 := ?_) (v := ?_) (by rfl) rfl ?_ ?_
      rotate_left 2
      · go_simp
        constructor
        · rfl
        · rfl
      have HB1 := Aside0.mk (below_alloc HB0.out (.cells #[.int .u8 43] 5))
      have HV1 := Aside0.mk (Kd.R_alloc HV0.out (.cells #[.int .u8 43] 5))
      have HP1 := Aside0.mk (blk_new Wc0 (.cells #[.int .u8 43] 5))
      generalize (Wc0.alloc (.cells #[.int .u8 43] 5)) = Wc1 at HB1 HV1 HP1 ⊢
      refine hK.out _ _ ((blk_cell (blk_below BK1.out HB1.out) 4).trans rfl) (fun hHeld => ?_)
      clear hK K
      refine norm_ (a' := ?_) ?_ ?_
      rotate_left
      · show Act.put _ (some 64) _ = _
        simp only [Act.put, List.setIfInBounds_toArray, List.set_cons_zero, List.set_cons_succ, i64_w, i32_w]
        rfl
      refine one_ (i := 2) (N := some 65) #[true, true, true, true, true, false, false] rfl rfl (by kernel_rfl) (by decide) (fun K hK => ?_)
      refine Kd.R_append_rows_step (Kd.int .u8) (Rr := (Kd.int .u8).K Wc1) (w0 := w1) w1.heap.size (by rfl) (.tmp 63) (.tmp 64) 22 5 (.int .u8 0) 1 rfl Tryd.underlying22 infoB rfl (by decide) (by omega) (.slice none 0 0) [] [43] (some ⟨Wc0.heap.size, 0, none⟩) 1 1 (fun _ => True) (fun _ => False) rfl rfl HV1.out (u8_C (xs := [43]) (fr := (0, 0)) HP1.out (by simp)) (fun _ _ h => h) (fun _ h => h.elim) (fun _ _ => trivial) HB1.out HB1.out.size (by simp) ?_
      intro vq Wc2 hR hB _ _
      have HV2 := Aside0.mk hR
      have HB2 := Aside0.mk hB
      clear hR hB
      refine hK.out _ _ ((blk_cell (blk_below BK1.out HB2.out) 4).trans rfl) (fun hHeld => ?_)
      clear hK K
      refine norm_ (a' := ?_) ?_ ?_
      rotate_left
      · show Act.put _ (some 65) _ = _
        simp only [Act.put, List.setIfInBounds_toArray, List.set_cons_zero, List.set_cons_succ, i64_w, i32_w]
        rfl
      refine one_ (i := 5) (N := some 68) #[true, true, true, true, true, true, false] rfl rfl (by kernel_rfl) (by decide) (fun K hK => ?_)
      refine goes_ Tryd.func29 (by kernel_rfl) rfl #[vq, .int .i64 add, .int .i64 10] (by rfl) rfl rfl (by simp only [List.map_toArray, List.map_cons, List.map_nil]; rfl) ?_
      with_reducible refine (ai_calls HTB.out HB2.out HV2.out (by omega) (by omega) (by simp only [List.length_append, List.length_singleton]; omega)).mono ?_
      rintro e Wc3 ⟨vz, rfl, hR, hB⟩
      refine ⟨_, rfl, ?_⟩
      have HZ := Aside0.mk (And.intro hR hB)
      clear hR hB
      refine hK.out _ _ ((blk_cell (blk_below BK1.out HZ.out.2) 4).trans rfl) (fun hHeld => ?_)
      clear hK K
      refine norm_ (a' := ?_) ?_ ?_
      rotate_left
      · show Act.put _ (some 68) _ = _
        simp only [Act.put, List.setIfInBounds_toArray, List.set_cons_zero, List.set_cons_succ, i64_w, i32_w]
        rfl
      refine pure_ (i := 6) (N := some 2) (v := ?_) (a' := ?_) #[true, true, true, true, true, true, true] rfl rfl (by kernel_rfl) (fun _ _ _ h => h) (Or.inl ⟨by rfl, ?_⟩) ?_ ?_
      rotate_left
      · intro w'
        go_simp
        with_reducible rfl
      rotate_left
      · simp only [Act.put, List.setIfInBounds_toArray, List.set_cons_zero, List.set_cons_succ, i64_w, i32_w]
        rfl
      refine done_ (by kernel_rfl) ?_

      go_wp2
      exact bodyPost_ret (v := vz) (by simp [results, Tryd.results15, go_sem]) rfl ⟨vz, rfl, (by rw [show tl = [43] ++ dec add from HTL.out.symm.trans (by have h_ := HN.out; unfold tailV; rw [if_neg (fun h : add = 0 ∧ (0 : Int) ≠ 0 => h.2 rfl), if_neg (show ¬ add < 0 by omega)])]; have h_ := Kd.R_lower HZ.out.1 HB1s.out.size; first | exact h_ | (rw [← List.append_assoc]; exact h_)), below_step HB1s.out HZ.out.2⟩
end Go.Proofs.YtdhdngoeaneanaaDoor.PT
