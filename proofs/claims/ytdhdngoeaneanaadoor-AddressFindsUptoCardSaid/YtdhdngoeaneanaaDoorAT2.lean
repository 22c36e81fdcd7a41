/-
  Address, by hand: the spelling.
-/
import Derived.Test.YtdhdngoeaneanaaDoorAT1
import Derived.Test.YtdhdngoeaneanaaDoorAI
import Derived.Test.YtdhdngoeaneanaaDoorX8
import Derived.Deep.QuietTactic
import Derived.BigQuiet
import Derived.Lib.Hide
import Derived.Lib.ItoaLen
namespace Go.Proofs.YtdhdngoeaneanaaDoor.PT
open Go.RowKit Go.Proofs.YtdhdngoeaneanaaDoorW.PrintWords Go.Proofs.YtdhdngoeaneanaaDoorW.PrintLast Go.Proofs.YtdhdngoeaneanaaDoorW.PrintMore
set_option linter.unusedVariables false
set_option linter.unusedSimpArgs false
theorem infoB : (Tryd.prog.info? 5).map (fun i => (i.zero, i.size, i.bytes)) = some (some (.int .u8 0), 1, 1) := by kernel_rfl
/-- A number's decimal numeral, as bytes. -/
def dec (i : Int) : List Int := (Lib.itoa i).map fun b => (b.toNat : Int)
def Tab (w : World) : Prop := Lib.TabIs Tryd.prog w "internal/strconv.uint64pow10" .u64 Lib.pow10Tab
theorem Tab.below {w w' : World} (h : Tab w) (hb : Below w.heap.size w w') : Tab w' := Lib.tabBelow_of_tabIs h w' hb
theorem ai_calls {w0 w : World} (htab : Tab w0) (hB : Below w0.heap.size w0 w) {v : Value} {xs : List Int} (hR : (Kd.int .u8).R 5 w w0.heap.size (fun _ => True) v xs) {i : Int} (h0 : -9223372036854775808 ≤ i) (h1 : i ≤ 9223372036854775807) (hl : xs.length ≤ 8388608) :
    Calls Tryd.prog 29 #[v, .int .i64 i, .int .i64 10] w fun e w' => ∃ v', e = .returned v' ∧ (Kd.int .u8).R 5 w' w0.heap.size (fun _ => True) v' (xs ++ dec i) ∧ Below w0.heap.size w0 w' := by
  have h := Any.strconv_AppendInt_10 Tryd.lays176 w0.heap.size xs.length i h0 h1 v (xs.map (Value.int .u8)) w (Kd.own_of_R hR) hB.size (by omega) ((Lib.tabBelow_of_tabIs htab).on hB)
  refine Calls.mono h ?_
  rintro e w' ⟨v', rfl, ho, hb, _⟩
  refine ⟨v', rfl, Kd.R_of_own (enc := Value.int .u8) (h1 := fun _ => rfl) ?_ (fun _ _ => trivial), hB.trans hb⟩
  have e1 : (xs ++ dec i).length = xs.length + (Lib.itoa i).length := by unfold dec; rw [List.length_append, List.length_map]
  have e2 : encs (Value.int .u8) (xs ++ dec i) = xs.map (Value.int .u8) ++ Lib.byteCells (Lib.itoa i) := by unfold dec Lib.byteCells encs; rw [List.map_append, List.map_map]; rfl
  rw [e1, e2]
  exact ho
def headV (base num name : Int) (text : List Int) : List Int := if base = 110 then dec num else if base = 39 then [39, name] else if base = 47 ∨ base = 63 then [base] ++ text ++ [base] else if base = 46 ∨ base = 36 then [base] else []
def tailV (base add : Int) : List Int := if add = 0 ∧ base ≠ 0 then [] else if add < 0 then dec add else [43] ++ dec add
set_option maxHeartbeats 8000000 in
set_option maxRecDepth 100000 in
theorem spell_46 {w : World} {A : Option Addr} {c : Nat} {num name add : Int} {text : List Int} {given : Bool} (hr : Kd.C (Kd.int .u8) w A text.length text) (hl : text.length ≤ 1048576) (htab : Tab w) (h1 : -999999999 ≤ add) (h2 : add ≤ 999999999)
    (HS : ∀ W, Below w.heap.size w W → Calls Tryd.prog 28 #[.agg #[.int .u8 46, .int .i64 num, .int .u8 name, .slice A text.length c, .int .i64 add, .bool given]] W fun e w' => e = .returned (.bool true) ∧ Below W.heap.size W w') :
    Calls Tryd.prog 15 #[.agg #[.int .u8 46, .int .i64 num, .int .u8 name, .slice A text.length c, .int .i64 add, .bool given]] w fun e w' => ∃ v, e = .returned v ∧ (Kd.int .u8).R 5 w' w.heap.size (fun _ => True) v (headV 46 num name text ++ tailV 46 add) ∧ Below w.heap.size w w' := by
  have BX := Aside0.mk (blk_new w (.cells #[.int .u8 46, .int .i64 num, .int .u8 name, .slice A text.length c, .int .i64 add, .bool given] 25))
  have HB := Aside0.mk (below_alloc (Below.refl w.heap.size w) (.cells #[.int .u8 46, .int .i64 num, .int .u8 name, .slice A text.length c, .int .i64 add, .bool given] 25))
  have HS0 := Aside0.mk (HS _ HB.out)
  have HLEN : ([46] : List Int).length ≤ 1048600 := by decide
  rw [show headV 46 num name text = ([46] : List Int) from rfl]
  generalize htl : tailV 46 add = tl
  have HTL := Aside0.mk htl
  clear HS htl
  go_enter Tryd.func15, Tryd.ntmps15
  go_wp2_with (first
    | (go_at_call 28; (with_reducible refine HS0.out.mono ?_); rintro e w1 ⟨rfl, hx⟩; have HB1s := Aside0.mk (below_step HB.out hx); have BK1 := Aside0.mk (blk_below BX.out hx); have HTB := Aside0.mk (htab.below HB1s.out); have j0 := (blk_cell BK1.out 0).trans rfl; have j1 := (blk_cell BK1.out 1).trans rfl; have j2 := (blk_cell BK1.out 2).trans rfl; have j3 := (blk_cell BK1.out 3).trans rfl; have j4 := (blk_cell BK1.out 4).trans rfl; clear hx)
    | (at_builtin; refine Kd.R_append (Kd.int .u8) (w0 := w1) w1.heap.size rfl (.tmp 42) (.tmp 45) 22 5 (.int .u8 0) 1 rfl Tryd.underlying22 infoB rfl (by decide) (by decide) (.slice none 0 0) [] 46 [.int .u8 46] (fun _ => True) (fun _ => False) rfl rfl rfl (fun _ hk => hk.elim) (fun _ _ => trivial) (Kd.R_nil _ _ _ _ _) (Below.refl _ _) (Nat.le_refl _) (by simp) ?_; intro v2 w2 hR hB _ _; rw [List.nil_append] at hR; have H2 := Aside0.mk (And.intro hR hB); clear hR hB; have k0 := (blk_cell (blk_below BK1.out H2.out.2) 0).trans rfl; have k4 := (blk_cell (blk_below BK1.out H2.out.2) 4).trans rfl; refine Hid.out ?_))
  by_cases ha : add = 0
  · have HA := Aside0.mk ha
    have q0 : (add == 0) = true := by rw [ha]; rfl
    clear ha
    refine Lib.hid ?_
    go_wp2
    exact bodyPost_ret (v := v2) (by simp [results, Tryd.results15, go_sem]) rfl ⟨v2, rfl, (by rw [show tl = ([] : List Int) from HTL.out.symm.trans (by rw [HA.out]; rfl)]; have h_ := Kd.R_lower H2.out.1 HB1s.out.size; first | exact h_ | (rw [List.append_nil]; exact h_)), below_step HB1s.out H2.out.2⟩
  have HA0 := Aside0.mk ha
  by_cases hn : add < 0
  · have HN := Aside0.mk hn
    have q0 : (add == 0) = false := beq_eq_false_iff_ne.2 (by omega)
    have q1 : (add < 0) = True := eq_true hn
    clear hn
    refine Lib.hid ?_
    go_wp2_with (go_at_call 29; (with_reducible refine (ai_calls HTB.out H2.out.2 H2.out.1 (by omega) (by omega) (by have h_ := HLEN; first | omega | (simp; done) | decide | (simp only [List.length_cons, List.length_nil]; omega) | (simp only [List.length_append, List.length_cons, List.length_nil]; omega))).mono ?_); rintro e w3 ⟨v3, rfl, hR, hB⟩; have H3 := Aside0.mk (And.intro hR hB); clear hR hB)
    exact bodyPost_ret (v := v3) (by simp [results, Tryd.results15, go_sem]) rfl ⟨v3, rfl, (by rw [show tl = dec add from HTL.out.symm.trans (by have h_ := HN.out; unfold tailV; rw [if_neg (show ¬ (add = 0 ∧ _) by omega), if_pos (show add < 0 by omega)])]; exact Kd.R_lower H3.out.1 HB1s.out.size), below_step HB1s.out H3.out.2⟩
  · have HN := Aside0.mk hn
    have q0 : (add == 0) = false := beq_eq_false_iff_ne.2 (by omega)
    have q1 : (add < 0) = False := eq_false hn
    refine Lib.hid ?_
    go_wp2
    have HV2a := Aside0.mk H2.out.1
    have HB2a := Aside0.mk H2.out.2
    refine start_ (n := 7) (S := fun w' => w'.cell? ⟨w.heap.size, 4, none⟩ = some (.int .i64 add)) (ds := []) #[false, false, false, false, false, false, false] (by kernel_rfl) rfl rfl ((blk_cell (blk_below BK1.out (below_drew HB2a.out)) 4).trans rfl) (fun hHeld => ?_)
    have HB0 := Aside0.mk (below_drew HB2a.out)
    have HV0 := Aside0.mk (Kd.R_drew HV2a.out)
    generalize w2.drew = Wc0 at HB0 HV0 hHeld ⊢
    refine pure_ (i := 0) (N := some 63) (v := ?_) (a' := ?_) #[true, false, false, false, false, false, false] rfl rfl (by kernel_rfl) (fun _ _ _ h => h) (Or.inl ⟨by rfl, ?_⟩) ?_ ?_
    rotate_left
    · intro w'
      go_simp
      with_reducible rfl
    rotate_left
    · simp only [Act.put, List.setIfInBounds_toArray, List.set_cons_zero, List.set_cons_succ, i64_w, i32_w]
      rfl
    refine pure_ (i := 3) (N := some 66) (v := ?_) (a' := ?_) #[true, false, false, true, false, false, false] rfl rfl (by kernel_rfl) (fun _ _ _ h => h) (Or.inl ⟨by rfl, ?_⟩) ?_ ?_
    rotate_left
    · intro w'
      go_simp
      with_reducible rfl
    rotate_left
    · simp only [Act.put, List.setIfInBounds_toArray, List.set_cons_zero, List.set_cons_succ, i64_w, i32_w]
      rfl
    refine take_ (i := 4) (N := some 67) (v := ?_) (a' := ?_) #[true, false, false, true, true, false, false] rfl rfl (by kernel_rfl) (fun _ _ _ h => h) (Or.inl ⟨by rfl, ?_⟩) hHeld ?_ ?_
    rotate_left
    · intro w' s0
      go_simp
      with_reducible rfl
    rotate_left
    · simp only [Act.put, List.setIfInBounds_toArray, List.set_cons_zero, List.set_cons_succ, i64_w, i32_w]
      rfl
    refine one_ (i := 1) (N := some 64) #[true, true, false, true, true, false, false] rfl rfl (by kernel_rfl) (by decide) (fun K hK => ?_)
    refine value_ (w1 := ?_) (v := ?_) (by rfl) rfl ?_ ?_
    rotate_left 2
    · go_simp
      constructor
      · rfl
      · rfl
    have HB1 := Aside0.mk (below_alloc HB0.out (.cells #[.int .u8 43] 5))
    have HV1 := Aside0.mk (Kd.R_alloc HV0.out (.cells #[.int .u8 43] 5))
    have HP1 := Aside0.mk (blk_new Wc0 (.cells #[.int .u8 43] 5))
    generalize (Wc0.alloc (.cells #[.int .u8 43] 5)) = Wc1 at HB1 HV1 HP1 ⊢
    refine hK.out _ _ ((blk_cell (blk_below BK1.out HB1.out) 4).trans rfl) (fun hHeld => ?_)
    clear hK K
    refine norm_ (a' := ?_) ?_ ?_
    rotate_left
    · show Act.put _ (some 64) _ = _
      simp only [Act.put, List.setIfInBounds_toArray, List.set_cons_zero, List.set_cons_succ, i64_w, i32_w]
      rfl
    refine one_ (i := 2) (N := some 65) #[true, true, true, true, true, false, false] rfl rfl (by kernel_rfl) (by decide) (fun K hK => ?_)
    refine Kd.R_append_rows_step (Kd.int .u8) (Rr := (Kd.int .u8).K Wc1) (w0 := w1) w1.heap.size (by rfl) (.tmp 63) (.tmp 64) 22 5 (.int .u8 0) 1 rfl Tryd.underlying22 infoB rfl (by decide) (by omega) v2 ([46]) [43] (some ⟨Wc0.heap.size, 0, none⟩) 1 1 (fun _ => True) (fun _ => False) rfl rfl HV1.out (u8_C (xs := [43]) (fr := (0, 0)) HP1.out (by simp)) (fun _ _ h => h) (fun _ h => h.elim) (fun _ _ => trivial) HB1.out HB1.out.size (by have h_ := HLEN; first | omega | (simp only [List.length_cons, List.length_nil]; omega)) ?_
    intro vq Wc2 hR hB _ _
    have HV2 := Aside0.mk hR
    have HB2 := Aside0.mk hB
    clear hR hB
    refine hK.out _ _ ((blk_cell (blk_below BK1.out HB2.out) 4).trans rfl) (fun hHeld => ?_)
    clear hK K
    refine norm_ (a' := ?_) ?_ ?_
    rotate_left
    · show Act.put _ (some 65) _ = _
      simp only [Act.put, List.setIfInBounds_toArray, List.set_cons_zero, List.set_cons_succ, i64_w, i32_w]
      rfl
    refine one_ (i := 5) (N := some 68) #[true, true, true, true, true, true, false] rfl rfl (by kernel_rfl) (by decide) (fun K hK => ?_)
    refine goes_ Tryd.func29 (by kernel_rfl) rfl #[vq, .int .i64 add, .int .i64 10] (by rfl) rfl rfl (by simp only [List.map_toArray, List.map_cons, List.map_nil]; rfl) ?_
    with_reducible refine (ai_calls HTB.out HB2.out HV2.out (by omega) (by omega) (by simp only [List.length_append, List.length_singleton]; omega)).mono ?_
    rintro e Wc3 ⟨vz, rfl, hR, hB⟩
    refine ⟨_, rfl, ?_⟩
    have HZ := Aside0.mk (And.intro hR hB)
    clear hR hB
    refine hK.out _ _ ((blk_cell (blk_below BK1.out HZ.out.2) 4).trans rfl) (fun hHeld => ?_)
    clear hK K
    refine norm_ (a' := ?_) ?_ ?_
    rotate_left
    · show Act.put _ (some 68) _ = _
      simp only [Act.put, List.setIfInBounds_toArray, List.set_cons_zero, List.set_cons_succ, i64_w, i32_w]
      rfl
    refine pure_ (i := 6) (N := some 2) (v := ?_) (a' := ?_) #[true, true, true, true, true, true, true] rfl rfl (by kernel_rfl) (fun _ _ _ h => h) (Or.inl ⟨by rfl, ?_⟩) ?_ ?_
    rotate_left
    · intro w'
      go_simp
      with_reducible rfl
    rotate_left
    · simp only [Act.put, List.setIfInBounds_toArray, List.set_cons_zero, List.set_cons_succ, i64_w, i32_w]
      rfl
    refine done_ (by kernel_rfl) ?_

    go_wp2
    exact bodyPost_ret (v := vz) (by simp [results, Tryd.results15, go_sem]) rfl ⟨vz, rfl, (by rw [show tl = [43] ++ dec add from HTL.out.symm.trans (by have h_ := HN.out; unfold tailV; rw [if_neg (fun h : add = 0 ∧ _ => HA0.out h.1), if_neg (show ¬ add < 0 by omega)])]; have h_ := Kd.R_lower HZ.out.1 HB1s.out.size; first | exact h_ | (rw [← List.append_assoc]; exact h_)), below_step HB1s.out HZ.out.2⟩
end Go.Proofs.YtdhdngoeaneanaaDoor.PT
