-- Written by wip/xprint.py over the kit's print.py: the Lean function of each Go function, and the proof that the Go text comes to it.
import Derived.Test.YtcochbkdgjgaeaaDoorX0
import Derived.Test.YtcochbkdgjgaeaaDoorX34
namespace Go.Proofs.YtcochbkdgjgaeaaDoor.X
open Go.RowKit Go.Proofs.YtcochbkdgjgaeaaDoorW.PrintWords Go.Proofs.YtcochbkdgjgaeaaDoorW.PrintLast Go.Proofs.YtcochbkdgjgaeaaDoorW.PrintMore
attribute [local go_sem] max2_int min2_int max_two min_two max_three min_three max_four min_four   -- for this text's walks alone
set_option linter.unusedVariables false
set_option linter.unusedSimpArgs false

/-! ### quoinref13_words: function 20 -/
def quoinref13_words.l0 : Nat → List Int → Int → Int → Bool → List (S48) → Int → Option ((List (S48)))
 | 0, _, _, _, _, _, _ => none
 | k + 1, x0, x1, x2, x3, x9, x10 => if x10 < x2 then (if 0 ≤ x10 then (if x10 < (x0.length : Int) then ((quoinref06_Of.f k (rd x0 x10) x3).bind fun t266 => (if x10 > x1 then (if 0 ≤ (wrap64 (x10 - 1)) then (if (wrap64 (x10 - 1)) < (x0.length : Int) then ((quoinref06_Of.f k (rd x0 (wrap64 (x10 - 1))) x3).bind fun t268 => (if t268 = t266 then (if 0 ≤ (wrap64 ((x9.length : Int) - 1)) then (if (wrap64 ((x9.length : Int) - 1)) < (x9.length : Int) then (quoinref13_words.l0 k x0 x1 x2 x3 (x9.set ((wrap64 ((x9.length : Int) - 1)) : Int).toNat (⟨(rd_T48 x9 (wrap64 ((x9.length : Int) - 1))).f0, wrap64 (x10 + 1), (rd_T48 x9 (wrap64 ((x9.length : Int) - 1))).f2⟩ : S48)) (wrap64 (x10 + 1))) else (none)) else (none)) else (if x9.length < 5864062014805 then (quoinref13_words.l0 k x0 x1 x2 x3 (x9 ++ [(⟨x10, wrap64 (x10 + 1), (t266 == 0)⟩ : S48)]) (wrap64 (x10 + 1))) else (none)))) else (none)) else (none)) else (if x9.length < 5864062014805 then (quoinref13_words.l0 k x0 x1 x2 x3 (x9 ++ [(⟨x10, wrap64 (x10 + 1), (t266 == 0)⟩ : S48)]) (wrap64 (x10 + 1))) else (none)))) else (none)) else (none)) else (some x9)
def quoinref13_words.f (k : Nat) (l0 : List Int) (a1 : Int) (a2 : Int) (a3 : Bool) : Option ((List (S48))) := quoinref13_words.l0 k l0 a1 a2 a3 ([] : List (S48)) a1
theorem quoinref13_words.mono_l : ∀ k, (∀ y0 y1 y2 y3 y4 y5, LeO (quoinref13_words.l0 k y0 y1 y2 y3 y4 y5) (quoinref13_words.l0 (k + 1) y0 y1 y2 y3 y4 y5))
 | 0 => fun _ _ _ _ _ _ r h => by simp [quoinref13_words.l0] at h
 | k + 1 => by
  have ih0 := quoinref13_words.mono_l k
  ·intro y0 y1 y2 y3 y4 y5
   unfold quoinref13_words.l0
   repeat' first
   | (with_reducible exact ih0 _ _ _ _ _ _)
   | (with_reducible exact quoinref06_Of.mono _ _ _)
   | (with_reducible exact LeO.refl _)
   | (with_reducible exact LeO.none _)
   | (with_reducible refine LeO.ite ?_ ?_)
   | (with_reducible refine LeO.bind ?_ (fun _ => ?_))
   | exact ih0 _ _ _ _ _ _
   | exact quoinref06_Of.mono _ _ _
   | exact LeO.none _
   | refine LeO.ite ?_ ?_
   | refine LeO.bind ?_ (fun _ => ?_)
theorem quoinref13_words.mono : ∀ a0 a1 a2 a3 k, LeO (quoinref13_words.f k a0 a1 a2 a3) (quoinref13_words.f (k + 1) a0 a1 a2 a3) := by
 intro a0 a1 a2 a3 k
 have ih0 := quoinref13_words.mono_l k
 unfold quoinref13_words.f
 repeat' first
   | (with_reducible exact ih0 _ _ _ _ _ _)
   | (with_reducible exact quoinref06_Of.mono _ _ _)
   | (with_reducible exact LeO.refl _)
   | (with_reducible exact LeO.none _)
   | (with_reducible refine LeO.ite ?_ ?_)
   | (with_reducible refine LeO.bind ?_ (fun _ => ?_))
   | exact ih0 _ _ _ _ _ _
   | exact quoinref06_Of.mono _ _ _
   | exact LeO.none _
   | refine LeO.ite ?_ ?_
   | refine LeO.bind ?_ (fun _ => ?_)
set_option maxHeartbeats 8000000 in
set_option maxRecDepth 100000 in
theorem quoinref13_words.calls (k : Nat) (A0 : Option Addr) (c0 : Nat) (l0 : List Int) (a1 : Int) (a2 : Int) (a3 : Bool) (r : List (S48)) (w : World) (hr0 : Kd.C (Kd.int .u8) w A0 l0.length l0) (hc0 : l0.length ≤ c0) (h : quoinref13_words.f k l0 a1 a2 a3 = some r) :
  Calls Tryd.prog 20 #[.slice A0 l0.length c0, .int .i64 a1, .int .i64 a2, .bool a3] w fun e w' => ∃ v0_ : Value, e = .returned (v0_) ∧ Kd.R k48 48 w' w.heap.size (fun _ => True) v0_ r ∧ Below w.heap.size w w' := by
 have hu48 := Tryd.underlying48
 have HR0 := Aside0.mk hr0
 have HC0 := Aside0.mk hc0
 clear hr0 hc0
 have HB := Aside0.mk (Below.refl w.heap.size w)
 have H : (quoinref13_words.l0 k l0 a1 a2 a3 ([] : List (S48)) a1) = some r := h
 clear h
 have H' := Aside0.mk H
 clear H
 go_enter Tryd.func20, Tryd.ntmps20
 go_wp2
 go_loopg [9, 10] k (fun kq v9 v10 w' => ∃ (x9_1 : List (S48)) (x10_1 : Int), v10 = .int .i64 x10_1 ∧ Aside0 (quoinref13_words.l0 kq l0 a1 a2 a3 x9_1 x10_1 = some r) ∧ Aside0 (kq ≤ k) ∧ Aside0 (Kd.R k48 48 w' w.heap.size (fun _ => True) v9 x9_1) ∧ Aside0 (Below w.heap.size w w'))
 case atStart => exact ⟨(([] : List (S48))), (a1), (by first | rfl | (simp; done) | (simp [*]; done)), H', ⟨Nat.le_refl _⟩, ⟨by first | exact Kd.R_nil _ _ _ _ _ | exact Kd.N_nil _ _ _ _ _ | exact Kd.V_nil _ _ _ _ _ | exact Kd.Q_nil _ _ _ _ _ | exact Kd.S_nil _ _ _ _ _⟩, ⟨by repeat (first | (with_reducible first | exact HB.out | apply below_alloc | apply pw_below_drewN | apply below_drew1) | exact HB.out)⟩⟩
 case round =>
  clear H'
  try clear c2
  try clear p2
  obtain ⟨x9_1, x10_1, rfl, HA, HK1, HO_9, HB⟩ := hrel
  cases gk with
  | zero => exact absurd HA.out (by simp [quoinref13_words.l0])
  | succ k1 =>
   have H := HA.out
   clear HA
   simp only [quoinref13_words.l0] at H
   by_cases c5 : x10_1 < a2
   ·rw [if_pos c5] at H
    have c5b0 : decide (x10_1 < a2) = true := decide_eq_true c5
    clear c5
    by_cases c6 : 0 ≤ x10_1
    ·rw [if_pos c6] at H
     have c6b0 : decide (0 ≤ x10_1) = true := decide_eq_true c6
     clear c6
     by_cases c7 : x10_1 < (l0.length : Int)
     ·rw [if_pos c7] at H
      have c7b0 : decide (x10_1 < (l0.length : Int)) = true := decide_eq_true c7
      clear c7
      replace H := Option.bind_eq_some_iff.mp H
      obtain ⟨t266, A80, H⟩ := H
      replace H : (if x10_1 > a1 then (if 0 ≤ (wrap64 (x10_1 - 1)) then (if (wrap64 (x10_1 - 1)) < (l0.length : Int) then ((quoinref06_Of.f k1 (rd l0 (wrap64 (x10_1 - 1))) a3).bind fun t268 => (if t268 = t266 then (if 0 ≤ (wrap64 ((x9_1.length : Int) - 1)) then (if (wrap64 ((x9_1.length : Int) - 1)) < (x9_1.length : Int) then (quoinref13_words.l0 k1 l0 a1 a2 a3 (x9_1.set ((wrap64 ((x9_1.length : Int) - 1)) : Int).toNat (⟨(rd_T48 x9_1 (wrap64 ((x9_1.length : Int) - 1))).f0, wrap64 (x10_1 + 1), (rd_T48 x9_1 (wrap64 ((x9_1.length : Int) - 1))).f2⟩ : S48)) (wrap64 (x10_1 + 1))) else (none)) else (none)) else (if x9_1.length < 5864062014805 then (quoinref13_words.l0 k1 l0 a1 a2 a3 (x9_1 ++ [(⟨x10_1, wrap64 (x10_1 + 1), (t266 == 0)⟩ : S48)]) (wrap64 (x10_1 + 1))) else (none)))) else (none)) else (none)) else (if x9_1.length < 5864062014805 then (quoinref13_words.l0 k1 l0 a1 a2 a3 (x9_1 ++ [(⟨x10_1, wrap64 (x10_1 + 1), (t266 == 0)⟩ : S48)]) (wrap64 (x10_1 + 1))) else (none))) = some r := H
      have A8 := Aside0.mk A80
      clear A80
      by_cases c9 : x10_1 > a1
      ·rw [if_pos c9] at H
       have c9b0 : decide (a1 < x10_1) = true := decide_eq_true c9
       clear c9
       obtain ⟨ji10, hji10⟩ : ∃ j_ : Int, (wrap64 (x10_1 - 1)) = j_ := ⟨_, rfl⟩
       replace H : (if 0 ≤ (ji10) then (if (ji10) < (l0.length : Int) then ((quoinref06_Of.f k1 (rd l0 (ji10)) a3).bind fun t268 => (if t268 = t266 then (if 0 ≤ (wrap64 ((x9_1.length : Int) - 1)) then (if (wrap64 ((x9_1.length : Int) - 1)) < (x9_1.length : Int) then (quoinref13_words.l0 k1 l0 a1 a2 a3 (x9_1.set ((wrap64 ((x9_1.length : Int) - 1)) : Int).toNat (⟨(rd_T48 x9_1 (wrap64 ((x9_1.length : Int) - 1))).f0, wrap64 (x10_1 + 1), (rd_T48 x9_1 (wrap64 ((x9_1.length : Int) - 1))).f2⟩ : S48)) (wrap64 (x10_1 + 1))) else (none)) else (none)) else (if x9_1.length < 5864062014805 then (quoinref13_words.l0 k1 l0 a1 a2 a3 (x9_1 ++ [(⟨x10_1, wrap64 (x10_1 + 1), (t266 == 0)⟩ : S48)]) (wrap64 (x10_1 + 1))) else (none)))) else (none)) else (none)) = some r := by first | (rw [hji10] at H; exact H) | (simp only [hji10] at H ⊢; exact H)
       (try rw [hji10] at A8)
       have hji10w : (IntKind.i64.wrap (x10_1 - 1)) = ji10 := (i64_w _).trans hji10
       by_cases c11 : 0 ≤ (ji10)
       ·rw [if_pos c11] at H
        have c11b0 : decide (0 ≤ (ji10)) = true := decide_eq_true c11
        clear c11
        by_cases c12 : (ji10) < (l0.length : Int)
        ·rw [if_pos c12] at H
         have c12b0 : decide ((ji10) < (l0.length : Int)) = true := decide_eq_true c12
         clear c12
         replace H := Option.bind_eq_some_iff.mp H
         obtain ⟨t268, A130, H⟩ := H
         replace H : (if t268 = t266 then (if 0 ≤ (wrap64 ((x9_1.length : Int) - 1)) then (if (wrap64 ((x9_1.length : Int) - 1)) < (x9_1.length : Int) then (quoinref13_words.l0 k1 l0 a1 a2 a3 (x9_1.set ((wrap64 ((x9_1.length : Int) - 1)) : Int).toNat (⟨(rd_T48 x9_1 (wrap64 ((x9_1.length : Int) - 1))).f0, wrap64 (x10_1 + 1), (rd_T48 x9_1 (wrap64 ((x9_1.length : Int) - 1))).f2⟩ : S48)) (wrap64 (x10_1 + 1))) else (none)) else (none)) else (if x9_1.length < 5864062014805 then (quoinref13_words.l0 k1 l0 a1 a2 a3 (x9_1 ++ [(⟨x10_1, wrap64 (x10_1 + 1), (t266 == 0)⟩ : S48)]) (wrap64 (x10_1 + 1))) else (none))) = some r := H
         have A13 := Aside0.mk A130
         clear A130
         by_cases c14 : t268 = t266
         ·rw [if_pos c14] at H
          have c14b0 : (t268 == t266) = true := beq_iff_eq.mpr c14
          have c14b1 : (t268 != t266) = false := bne_eq_false_iff_eq.mpr c14
          clear c14
          obtain ⟨ji15, hji15⟩ : ∃ j_ : Int, (wrap64 ((x9_1.length : Int) - 1)) = j_ := ⟨_, rfl⟩
          replace H : (if 0 ≤ (ji15) then (if (ji15) < (x9_1.length : Int) then (quoinref13_words.l0 k1 l0 a1 a2 a3 (x9_1.set ((ji15) : Int).toNat (⟨(rd_T48 x9_1 (ji15)).f0, wrap64 (x10_1 + 1), (rd_T48 x9_1 (ji15)).f2⟩ : S48)) (wrap64 (x10_1 + 1))) else (none)) else (none)) = some r := by first | (rw [hji15] at H; exact H) | (simp only [hji15] at H ⊢; exact H)
          (try rw [hji15] at A8)
          (try rw [hji15] at A13)
          have hji15w : (IntKind.i64.wrap ((x9_1.length : Int) - 1)) = ji15 := (i64_w _).trans hji15
          by_cases c16 : 0 ≤ (ji15)
          ·rw [if_pos c16] at H
           have c16b0 : decide (0 ≤ (ji15)) = true := decide_eq_true c16
           clear c16
           by_cases c17 : (ji15) < (x9_1.length : Int)
           ·rw [if_pos c17] at H
            have c17b0 : decide ((ji15) < (x9_1.length : Int)) = true := decide_eq_true c17
            clear c17
            obtain ⟨y269, hy269⟩ : ∃ y_ : List (S48), y_ = (x9_1.set ((ji15) : Int).toNat (⟨(rd_T48 x9_1 (ji15)).f0, wrap64 (x10_1 + 1), (rd_T48 x9_1 (ji15)).f2⟩ : S48)) := ⟨_, rfl⟩
            replace H : (quoinref13_words.l0 k1 l0 a1 a2 a3 y269 (wrap64 (x10_1 + 1))) = some r := by first | (rw [hy269]; with_reducible exact H) | (have H2_ := (Option.bind_some _ _).symm.trans H; rw [hy269]; with_reducible exact H2_) | (have H2_ := (Option.bind_some _ _).symm.trans H; with_reducible exact H2_) | with_reducible exact H | (rw [hy269]; exact H) | exact H
            have Ny269 := Aside0.mk hy269
            clear hy269
            have H' := Aside0.mk H
            clear H
            have p265 : 0 ≤ (x10_1 : Int) := of_decide_eq_true (by first | (with_reducible assumption) | assumption)
            have q265 : x10_1 < (l0.length : Int) := of_decide_eq_true (by first | (with_reducible assumption) | assumption)
            obtain ⟨ad265, e265, hx265_0⟩ := Kd.at_int HR0.out x10_1 p265 q265
            cases e265
            replace hx265_0 := (HB.out.cell (World.block_lt_of_cell? w _ hx265_0)).trans hx265_0
            replace p265 := eq_true p265
            replace q265 := eq_true q265
            go_wp2_with (first | ((with_reducible refine gate_callee (f := 36) rfl ?_); refine goesL_ (some 24) rfl rfl Tryd.func36 (by kernel_rfl) rfl #[.int .u8 (rd l0 x10_1), .bool a3] rfl (by (try simp only [List.map_toArray, List.map_cons, List.map_nil]); first | done | rfl | (simp only [List.length_drop, List.length_take]; rfl)) ?_; (with_reducible refine (quoinref06_Of.calls k1 (rd l0 x10_1) a3 t266 _ A8.out).mono ?_); rintro e w' ⟨rfl, ⟨nd, rfl⟩⟩; refine ⟨_, rfl, ?_⟩; (try (rw [drewN_self wr]; generalize hq_ : World.drewN wr _ = wr; have n0_ : Aside0 (Kd.R k48 48 wr w.heap.size (fun _ => True) u9 x9_1) := ⟨by rw [← hq_]; exact (by (with_reducible repeat (first | apply Kd.R_alloc | apply Kd.R_drewN | apply Kd.R_drew)); exact HO_9.out)⟩; have n1_ : Aside0 (Below w.heap.size w wr) := ⟨by rw [← hq_]; exact (by repeat (first | (with_reducible first | exact HB.out | apply below_alloc | apply pw_below_drewN | apply below_drew1) | exact HB.out))⟩; clear HO_9 HB hq_; have HO_9 := n0_; have HB := n1_; clear n0_ n1_)); obtain ⟨Ao19, co19, eo19⟩ := Kd.R_slice HO_9.out; subst eo19; have p267 : 0 ≤ ((ji10) : Int) := of_decide_eq_true (by first | (with_reducible assumption) | assumption); have q267 : (ji10) < (l0.length : Int) := of_decide_eq_true (by first | (with_reducible assumption) | assumption); obtain ⟨ad267, e267, hx267_0⟩ := Kd.at_int HR0.out (ji10) p267 q267; obtain rfl : ad265 = ad267 := (by injection e267); replace hx267_0 := (HB.out.cell (World.block_lt_of_cell? w _ hx267_0)).trans hx267_0; replace p267 := eq_true p267; replace q267 := eq_true q267) | (go_at_call 36; (with_reducible refine (quoinref06_Of.calls k1 (rd l0 (ji10)) a3 t268 _ A13.out).mono ?_); rintro e w' ⟨rfl, ⟨nd, rfl⟩⟩; (try (rw [drewN_self wr]; generalize hq_ : World.drewN wr _ = wr; have n0_ : Aside0 (Kd.R k48 48 wr w.heap.size (fun _ => True) (.slice Ao19 x9_1.length co19) x9_1) := ⟨by rw [← hq_]; exact (by (with_reducible repeat (first | apply Kd.R_alloc | apply Kd.R_drewN | apply Kd.R_drew)); exact HO_9.out)⟩; have n1_ : Aside0 (Below w.heap.size w wr) := ⟨by rw [← hq_]; exact (by repeat (first | (with_reducible first | exact HB.out | apply below_alloc | apply pw_below_drewN | apply below_drew1) | exact HB.out))⟩; clear HO_9 HB hq_; have HO_9 := n0_; have HB := n1_; clear n0_ n1_)); have p18 : 0 ≤ ((ji15) : Int) := of_decide_eq_true (by first | (with_reducible assumption) | assumption); have q18 : ((ji15) : Int) < ((x9_1.length : Int) : Int) := of_decide_eq_true (by first | (with_reducible assumption) | assumption); obtain ⟨go18, co18, eo18, gb18, gl18, cl18, HG18⟩ := Kd.R_form HO_9.out (by omega); (first | cases eo18 | (injection eo18 with ea_ en_ ec_; (first | subst ea_ | (injection ea_ with ea_; subst ea_)); subst ec_; clear en_)); have GB18 := Aside0.mk gb18; have GG18 := Aside0.mk HG18; clear gb18 gl18 HG18; obtain ⟨ce18, hcl18, hM18, hcc18, hfr18⟩ := Kd.R_elem HO_9.out z48 ((ji15) : Int) p18 q18; obtain rfl := k48_openM hM18; have hx18_0 : wr.cell? ⟨go18, ((ji15) : Int).toNat * 3, none⟩ = some (.int .i64 ((rd_T48 x9_1 (ji15)).f0)) := hcc18 0 _ rfl; have hx18_1 : wr.cell? ⟨go18, ((ji15) : Int).toNat * 3 + 1, none⟩ = some (.int .i64 ((rd_T48 x9_1 (ji15)).f1)) := hcc18 1 _ rfl; have hx18_2 : wr.cell? ⟨go18, ((ji15) : Int).toNat * 3 + 2, none⟩ = some (.bool ((rd_T48 x9_1 (ji15)).f2)) := hcc18 2 _ rfl; have hf18_0 : wr.frozen? ⟨go18, ((ji15) : Int).toNat * 3, none⟩ = false := hfr18 0; have hf18_1 : wr.frozen? ⟨go18, ((ji15) : Int).toNat * 3 + 1, none⟩ = false := hfr18 1; have hf18_2 : wr.frozen? ⟨go18, ((ji15) : Int).toNat * 3 + 2, none⟩ = false := hfr18 2; clear hcl18 hcc18 hfr18 hM18; replace p18 := eq_true p18; replace q18 := eq_true q18; have HX20 := Aside0.mk (show Kd.R k48 48 wr w.heap.size (fun _ => True) (.slice (some ⟨go18, 0, none⟩) x9_1.length co19) x9_1 from (by (with_reducible repeat (first | apply Kd.R_alloc | apply Kd.R_drewN | apply Kd.R_drew)); exact HO_9.out)); obtain ⟨ce20, hcl20, hM20, hcc20, hfr20⟩ := Kd.R_elem HX20.out z48 ((ji15) : Int) (of_decide_eq_true (by first | (with_reducible assumption) | assumption)) (by have h_ : ((ji15) : Int) < ((x9_1.length : Int) : Int) := of_decide_eq_true (by first | (with_reducible assumption) | assumption); first | exact h_ | (have e_ := (Kd.R_reads' HO_9.out).1; omega) | simpa using h_); obtain rfl := k48_openM hM20; have HP20 := Kd.R_seg HX20.out ((ji15) : Int) (of_decide_eq_true (by first | (with_reducible assumption) | assumption)) (by have h_ : ((ji15) : Int) < ((x9_1.length : Int) : Int) := of_decide_eq_true (by first | (with_reducible assumption) | assumption); first | exact h_ | (have e_ := (Kd.R_reads' HO_9.out).1; omega) | simpa using h_) (seg := [.int .i64 (wrap64 (x10_1 + 1))]) (j := 1) hcl20 hcc20 (show 2 ≤ 3 from by decide) (x' := (⟨(rd_T48 x9_1 (ji15)).f0, wrap64 (x10_1 + 1), (rd_T48 x9_1 (ji15)).f2⟩ : S48)) (k48_mkM _ _ _ (⟨(rd_T48 x9_1 (ji15)).f0, wrap64 (x10_1 + 1), (rd_T48 x9_1 (ji15)).f2⟩ : S48) ) (fun _ hk => hk); have hx20_1 := hcc20 1 _ rfl; (try simp only [show (k48).sz = 3 from rfl, Nat.mul_one, Nat.add_zero] at hx20_1); have hf20_1 := hfr20 1; (try simp only [show (k48).sz = 3 from rfl, Nat.mul_one, Nat.add_zero] at hf20_1); clear hcl20 hcc20 hfr20 hM20) | ((with_reducible refine gate_store (t := 3) (p := 47) rfl ?_); refine store_event (t := 3) (p := 47) (v := ?vo_w21) (w1 := (wr.setCell ⟨go18, ((ji15) : Int).toNat * 3 + 1, none⟩ (.int .i64 (wrap64 (x10_1 + 1))))) ?hg ?ho ?hn ?hr ?_; (case ho => rfl); (case hg => rfl); (case hn => rfl); (case hr => first | (go_simp; done) | (go_simp; rfl)); intro w21 hw; have hg : wr.grownBy w21 (some go18) := (by rw [hw]; exact HP20.2); have hp_ : Kd.R k48 48 w21 w.heap.size (fun _ => True) (.slice (some ⟨go18, 0, none⟩) x9_1.length co19) y269 := (by rw [hw, Ny269.out]; exact HP20.1); clear HP20; have n0_ := Aside0.mk (hp_); have n1_ := Aside0.mk ((by rw [hw]; exact below_set (HB.out) GB18.out : Below w.heap.size w w21)); clear HO_9; clear HB; have HO_9 := n0_; have HB := n1_; clear n0_ n1_; clear hg hw hp_))
            go_roundg k1
            case measure => have := HK1.out; omega
            case rel => exact ⟨(y269), (wrap64 (x10_1 + 1)), (by first | rfl | (simp; done) | (simp [*]; done)), H', ⟨by have := HK1.out; omega⟩, ⟨by (with_reducible repeat (first | apply Kd.R_alloc | apply Kd.R_drewN | apply Kd.R_drew)); exact HO_9.out⟩, ⟨by repeat (first | (with_reducible first | exact HB.out | apply below_alloc | apply pw_below_drewN | apply below_drew1) | exact HB.out)⟩⟩
           ·rw [if_neg c17] at H
            exact absurd H (by simp)
          ·rw [if_neg c16] at H
           exact absurd H (by simp)
         ·rw [if_neg c14] at H
          have c14b0 : (t268 == t266) = false := beq_eq_false_iff_ne.mpr c14
          have c14b1 : (t268 != t266) = true := bne_iff_ne.mpr c14
          by_cases c22 : x9_1.length < 5864062014805
          ·rw [if_pos c22] at H
           have LMc22 := Aside0.mk c22
           clear c22
           obtain ⟨y270, hy270⟩ : ∃ y_ : List (S48), y_ = (x9_1 ++ [(⟨x10_1, wrap64 (x10_1 + 1), (t266 == 0)⟩ : S48)]) := ⟨_, rfl⟩
           replace H : (quoinref13_words.l0 k1 l0 a1 a2 a3 y270 (wrap64 (x10_1 + 1))) = some r := by first | (rw [hy270]; with_reducible exact H) | (have H2_ := (Option.bind_some _ _).symm.trans H; rw [hy270]; with_reducible exact H2_) | (have H2_ := (Option.bind_some _ _).symm.trans H; with_reducible exact H2_) | with_reducible exact H | (rw [hy270]; exact H) | exact H
           have Ny270 := Aside0.mk hy270
           clear hy270
           have H' := Aside0.mk H
           clear H
           have p265 : 0 ≤ (x10_1 : Int) := of_decide_eq_true (by first | (with_reducible assumption) | assumption)
           have q265 : x10_1 < (l0.length : Int) := of_decide_eq_true (by first | (with_reducible assumption) | assumption)
           obtain ⟨ad265, e265, hx265_0⟩ := Kd.at_int HR0.out x10_1 p265 q265
           cases e265
           replace hx265_0 := (HB.out.cell (World.block_lt_of_cell? w _ hx265_0)).trans hx265_0
           replace p265 := eq_true p265
           replace q265 := eq_true q265
           go_wp2_with (first | ((with_reducible refine gate_callee (f := 36) rfl ?_); refine goesL_ (some 24) rfl rfl Tryd.func36 (by kernel_rfl) rfl #[.int .u8 (rd l0 x10_1), .bool a3] rfl (by (try simp only [List.map_toArray, List.map_cons, List.map_nil]); first | done | rfl | (simp only [List.length_drop, List.length_take]; rfl)) ?_; (with_reducible refine (quoinref06_Of.calls k1 (rd l0 x10_1) a3 t266 _ A8.out).mono ?_); rintro e w' ⟨rfl, ⟨nd, rfl⟩⟩; refine ⟨_, rfl, ?_⟩; obtain ⟨Ao23, co23, eo23⟩ := Kd.R_slice HO_9.out; subst eo23; have p267 : 0 ≤ ((ji10) : Int) := of_decide_eq_true (by first | (with_reducible assumption) | assumption); have q267 : (ji10) < (l0.length : Int) := of_decide_eq_true (by first | (with_reducible assumption) | assumption); obtain ⟨ad267, e267, hx267_0⟩ := Kd.at_int HR0.out (ji10) p267 q267; obtain rfl : ad265 = ad267 := (by injection e267); replace hx267_0 := (HB.out.cell (World.block_lt_of_cell? w _ hx267_0)).trans hx267_0; replace p267 := eq_true p267; replace q267 := eq_true q267) | (go_at_call 36; (with_reducible refine (quoinref06_Of.calls k1 (rd l0 (ji10)) a3 t268 _ A13.out).mono ?_); rintro e w' ⟨rfl, ⟨nd, rfl⟩⟩) | ((with_reducible refine gate_builtin (b := .append) (xs := #[.tmp 48, .tmp 55]) rfl ?_); at_builtin; refine Kd.R_append k48 (w0 := w) w.heap.size rfl (.tmp 48) (.tmp 55) 49 48 (.agg #[(.int .i64 0), (.int .i64 0), (.bool false)]) 24 rfl Tryd.underlying49 info48 rfl (by decide) (by omega) (.slice Ao23 x9_1.length co23) x9_1 (⟨x10_1, wrap64 (x10_1 + 1), (t266 == 0)⟩ : S48) [.int .i64 x10_1, .int .i64 (wrap64 (x10_1 + 1)), .bool (t266 == 0)] (fun _ => True) (fun _ => False) rfl rfl ?aP (fun _ hk => hk.elim) ?aF ?aO ?aB ?aS ?aL ?_; (case aP => exact k48_mkM _ _ _ (⟨x10_1, wrap64 (x10_1 + 1), (t266 == 0)⟩ : S48)); (case aB => exact (by repeat (first | (with_reducible first | exact HB.out | apply below_alloc | apply pw_below_drewN | apply below_drew1) | exact HB.out))); (case aF => exact (fun _ _ => trivial)); (case aO => exact (by (with_reducible repeat (first | apply Kd.R_alloc | apply Kd.R_drewN | apply Kd.R_drew)); exact HO_9.out)); (case aS => exact (below_size (by repeat (first | (with_reducible first | exact HB.out | apply below_alloc | apply pw_below_drewN | apply below_drew1) | exact HB.out)))); (case aL => have := LMc22.out; omega); intro v271 w24 ho hb hg hat; rw [← Ny270.out] at ho; have n0_ := Aside0.mk (hb); have n1_ := Aside0.mk (ho); clear HB; clear HO_9; have HB := n0_; have HO272 := n1_; clear n0_ n1_; clear ho hb hg hat))
           go_roundg k1
           case measure => have := HK1.out; omega
           case rel => exact ⟨(y270), (wrap64 (x10_1 + 1)), (by first | rfl | (simp; done) | (simp [*]; done)), H', ⟨by have := HK1.out; omega⟩, ⟨by (with_reducible repeat (first | apply Kd.R_alloc | apply Kd.R_drewN | apply Kd.R_drew)); exact HO272.out⟩, ⟨by repeat (first | (with_reducible first | exact HB.out | apply below_alloc | apply pw_below_drewN | apply below_drew1) | exact HB.out)⟩⟩
          ·rw [if_neg c22] at H
           exact absurd H (by simp)
        ·rw [if_neg c12] at H
         exact absurd H (by simp)
       ·rw [if_neg c11] at H
        exact absurd H (by simp)
      ·rw [if_neg c9] at H
       have c9b0 : decide (a1 < x10_1) = false := decide_eq_false c9
       clear c9
       by_cases c25 : x9_1.length < 5864062014805
       ·rw [if_pos c25] at H
        have LMc25 := Aside0.mk c25
        clear c25
        obtain ⟨y273, hy273⟩ : ∃ y_ : List (S48), y_ = (x9_1 ++ [(⟨x10_1, wrap64 (x10_1 + 1), (t266 == 0)⟩ : S48)]) := ⟨_, rfl⟩
        replace H : (quoinref13_words.l0 k1 l0 a1 a2 a3 y273 (wrap64 (x10_1 + 1))) = some r := by first | (rw [hy273]; with_reducible exact H) | (have H2_ := (Option.bind_some _ _).symm.trans H; rw [hy273]; with_reducible exact H2_) | (have H2_ := (Option.bind_some _ _).symm.trans H; with_reducible exact H2_) | with_reducible exact H | (rw [hy273]; exact H) | exact H
        have Ny273 := Aside0.mk hy273
        clear hy273
        have H' := Aside0.mk H
        clear H
        have p265 : 0 ≤ (x10_1 : Int) := of_decide_eq_true (by first | (with_reducible assumption) | assumption)
        have q265 : x10_1 < (l0.length : Int) := of_decide_eq_true (by first | (with_reducible assumption) | assumption)
        obtain ⟨ad265, e265, hx265_0⟩ := Kd.at_int HR0.out x10_1 p265 q265
        cases e265
        replace hx265_0 := (HB.out.cell (World.block_lt_of_cell? w _ hx265_0)).trans hx265_0
        replace p265 := eq_true p265
        replace q265 := eq_true q265
        go_wp2_with (first | ((with_reducible refine gate_callee (f := 36) rfl ?_); refine goesL_ (some 24) rfl rfl Tryd.func36 (by kernel_rfl) rfl #[.int .u8 (rd l0 x10_1), .bool a3] rfl (by (try simp only [List.map_toArray, List.map_cons, List.map_nil]); first | done | rfl | (simp only [List.length_drop, List.length_take]; rfl)) ?_; (with_reducible refine (quoinref06_Of.calls k1 (rd l0 x10_1) a3 t266 _ A8.out).mono ?_); rintro e w' ⟨rfl, ⟨nd, rfl⟩⟩; refine ⟨_, rfl, ?_⟩; obtain ⟨Ao26, co26, eo26⟩ := Kd.R_slice HO_9.out; subst eo26) | ((with_reducible refine gate_builtin (b := .append) (xs := #[.tmp 48, .tmp 55]) rfl ?_); at_builtin; refine Kd.R_append k48 (w0 := w) w.heap.size rfl (.tmp 48) (.tmp 55) 49 48 (.agg #[(.int .i64 0), (.int .i64 0), (.bool false)]) 24 rfl Tryd.underlying49 info48 rfl (by decide) (by omega) (.slice Ao26 x9_1.length co26) x9_1 (⟨x10_1, wrap64 (x10_1 + 1), (t266 == 0)⟩ : S48) [.int .i64 x10_1, .int .i64 (wrap64 (x10_1 + 1)), .bool (t266 == 0)] (fun _ => True) (fun _ => False) rfl rfl ?aP (fun _ hk => hk.elim) ?aF ?aO ?aB ?aS ?aL ?_; (case aP => exact k48_mkM _ _ _ (⟨x10_1, wrap64 (x10_1 + 1), (t266 == 0)⟩ : S48)); (case aB => exact (by repeat (first | (with_reducible first | exact HB.out | apply below_alloc | apply pw_below_drewN | apply below_drew1) | exact HB.out))); (case aF => exact (fun _ _ => trivial)); (case aO => exact (by (with_reducible repeat (first | apply Kd.R_alloc | apply Kd.R_drewN | apply Kd.R_drew)); exact HO_9.out)); (case aS => exact (below_size (by repeat (first | (with_reducible first | exact HB.out | apply below_alloc | apply pw_below_drewN | apply below_drew1) | exact HB.out)))); (case aL => have := LMc25.out; omega); intro v274 w27 ho hb hg hat; rw [← Ny273.out] at ho; have n0_ := Aside0.mk (hb); have n1_ := Aside0.mk (ho); clear HB; clear HO_9; have HB := n0_; have HO275 := n1_; clear n0_ n1_; clear ho hb hg hat))
        go_roundg k1
        case measure => have := HK1.out; omega
        case rel => exact ⟨(y273), (wrap64 (x10_1 + 1)), (by first | rfl | (simp; done) | (simp [*]; done)), H', ⟨by have := HK1.out; omega⟩, ⟨by (with_reducible repeat (first | apply Kd.R_alloc | apply Kd.R_drewN | apply Kd.R_drew)); exact HO275.out⟩, ⟨by repeat (first | (with_reducible first | exact HB.out | apply below_alloc | apply pw_below_drewN | apply below_drew1) | exact HB.out)⟩⟩
       ·rw [if_neg c25] at H
        exact absurd H (by simp)
     ·rw [if_neg c7] at H
      exact absurd H (by simp)
    ·rw [if_neg c6] at H
     exact absurd H (by simp)
   ·rw [if_neg c5] at H
    have c5b0 : decide (x10_1 < a2) = false := decide_eq_false c5
    clear c5
    obtain rfl := Option.some.inj H
    go_wp2
    go_ret
    exact ⟨_, by first | rfl | (simp [errW_none, errW_some] <;> rfl) | (simp [*, errW_none, errW_some] <;> rfl), by (with_reducible repeat (first | apply Kd.R_alloc | apply Kd.R_drewN | apply Kd.R_drew)); exact HO_9.out, by repeat (first | (with_reducible first | exact HB.out | apply below_alloc | apply pw_below_drewN | apply below_drew1) | exact HB.out)⟩

end Go.Proofs.YtcochbkdgjgaeaaDoor.X
