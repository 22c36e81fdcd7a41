/-
  Texts of one proof in one file (wip/bundle.py): X14, OB, X1, X15, X16, X17.
  Conditions: none.
-/
import Derived.Test.YtcochbkdgjgaeaaDoorBRuns1
section
-- Written by wip/xprint.py over the kit's print.py: the Lean function of each Go function, and the proof that the Go text comes to it.
namespace Go.Proofs.YtcochbkdgjgaeaaDoor.X
open Go.RowKit Go.Proofs.YtcochbkdgjgaeaaDoorW.PrintWords Go.Proofs.YtcochbkdgjgaeaaDoorW.PrintLast Go.Proofs.YtcochbkdgjgaeaaDoorW.PrintMore
attribute [local go_sem] max2_int min2_int max_two min_two max_three min_three max_four min_four   -- for this text's walks alone
set_option linter.unusedVariables false
set_option linter.unusedSimpArgs false

/-! ### object_words: function 27 -/
def object_words.l0 : Nat → List Int → Int → Int → Bool → Bool → Int → List (S76) → Int → Int → List Int → Int → Int → Option (Int × Int × Bool)
  | 0, _, _, _, _, _, _, _, _, _, _, _, _ => none
  | k + 1, x0, x2, x3, x4, x5, x15, x19, x20, x21, x46, x47, x48 => if x48 < x47 then (if 0 ≤ x48 then (if x48 < (x46.length : Int) then (if x21 ≤ x2 then (if x2 < (wrap64 (x15 + (rd x46 x48))) then (if 0 ≤ x21 then (if x21 < (x0.length : Int) then ((class_Of.f k (rd x0 x21) x4).bind fun t142 => (if x19.length < 5864062014805 then (object_words.l0 k x0 x2 x3 x4 x5 x15 (x19 ++ [(⟨x21, wrap64 (x15 + (rd x46 x48)), (t142 == 0)⟩ : S76)]) (x19.length : Int) (wrap64 (x15 + (rd x46 x48))) x46 x47 (wrap64 (x48 + 1))) else (none))) else (none)) else (none)) else (if 0 ≤ x21 then (if x21 < (x0.length : Int) then ((class_Of.f k (rd x0 x21) x4).bind fun t147 => (if x19.length < 5864062014805 then (object_words.l0 k x0 x2 x3 x4 x5 x15 (x19 ++ [(⟨x21, wrap64 (x15 + (rd x46 x48)), (t147 == 0)⟩ : S76)]) x20 (wrap64 (x15 + (rd x46 x48))) x46 x47 (wrap64 (x48 + 1))) else (none))) else (none)) else (none))) else (if 0 ≤ x21 then (if x21 < (x0.length : Int) then ((class_Of.f k (rd x0 x21) x4).bind fun t152 => (if x19.length < 5864062014805 then (object_words.l0 k x0 x2 x3 x4 x5 x15 (x19 ++ [(⟨x21, wrap64 (x15 + (rd x46 x48)), (t152 == 0)⟩ : S76)]) x20 (wrap64 (x15 + (rd x46 x48))) x46 x47 (wrap64 (x48 + 1))) else (none))) else (none)) else (none))) else (none)) else (none)) else (if x20 < 0 then (some (0, 0, false)) else ((object_taken.f k x19 x20 x3 x5).bind fun bt156 => (if bt156.2.2 = true then (if 0 ≤ bt156.1 then (if bt156.1 < (x19.length : Int) then (if 0 ≤ (wrap64 (bt156.2.1 - 1)) then (if (wrap64 (bt156.2.1 - 1)) < (x19.length : Int) then (some ((rd_T76 x19 bt156.1).f0, (rd_T76 x19 (wrap64 (bt156.2.1 - 1))).f1, true)) else (none)) else (none)) else (none)) else (none)) else (some (0, 0, false)))))
def object_words.f (k : Nat) (l0 : List Int) (a1 : Int) (a2 : Int) (a3 : Int) (a4 : Bool) (a5 : Bool) : Option (Int × Int × Bool) := (lines_Start.f k l0 a1).bind fun bt132 => ((lines_End.f k l0 a1).bind fun bt134 => (if 0 ≤ bt132.1 then (if bt132.1 ≤ bt134.1 then (if bt134.1 ≤ (l0.length : Int) then ((class_Runs.f k ((l0.take (bt134.1 : Int).toNat).drop (bt132.1 : Int).toNat) a4).bind fun t137 => (object_words.l0 k l0 a2 a3 a4 a5 bt132.1 ([] : List (S76)) (-1) bt132.1 t137 (t137.length : Int) 0)) else (none)) else (none)) else (none)))
theorem object_words.mono_l : ∀ k, (∀ y0 y1 y2 y3 y4 y5 y6 y7 y8 y9 y10 y11, LeO (object_words.l0 k y0 y1 y2 y3 y4 y5 y6 y7 y8 y9 y10 y11) (object_words.l0 (k + 1) y0 y1 y2 y3 y4 y5 y6 y7 y8 y9 y10 y11))
  | 0 => fun _ _ _ _ _ _ _ _ _ _ _ _ r h => by simp [object_words.l0] at h
  | k + 1 => by
    have ih0 := object_words.mono_l k
    · intro y0 y1 y2 y3 y4 y5 y6 y7 y8 y9 y10 y11
      unfold object_words.l0
      repeat' first
      | (with_reducible exact ih0 _ _ _ _ _ _ _ _ _ _ _ _)
      | (with_reducible exact class_Of.mono _ _ _)
      | (with_reducible exact class_Runs.mono _ _ _)
      | (with_reducible exact lines_End.mono _ _ _)
      | (with_reducible exact lines_Start.mono _ _ _)
      | (with_reducible exact object_taken.mono _ _ _ _ _)
      | (with_reducible exact LeO.refl _)
      | (with_reducible exact LeO.none _)
      | (with_reducible refine LeO.ite ?_ ?_)
      | (with_reducible refine LeO.bind ?_ (fun _ => ?_))
      | exact ih0 _ _ _ _ _ _ _ _ _ _ _ _
      | exact class_Of.mono _ _ _
      | exact class_Runs.mono _ _ _
      | exact lines_End.mono _ _ _
      | exact lines_Start.mono _ _ _
      | exact object_taken.mono _ _ _ _ _
      | exact LeO.none _
      | refine LeO.ite ?_ ?_
      | refine LeO.bind ?_ (fun _ => ?_)
theorem object_words.mono : ∀ a0 a1 a2 a3 a4 a5 k, LeO (object_words.f k a0 a1 a2 a3 a4 a5) (object_words.f (k + 1) a0 a1 a2 a3 a4 a5) := by
  intro a0 a1 a2 a3 a4 a5 k
  have ih0 := object_words.mono_l k
  unfold object_words.f
  repeat' first
      | (with_reducible exact ih0 _ _ _ _ _ _ _ _ _ _ _ _)
      | (with_reducible exact class_Of.mono _ _ _)
      | (with_reducible exact class_Runs.mono _ _ _)
      | (with_reducible exact lines_End.mono _ _ _)
      | (with_reducible exact lines_Start.mono _ _ _)
      | (with_reducible exact object_taken.mono _ _ _ _ _)
      | (with_reducible exact LeO.refl _)
      | (with_reducible exact LeO.none _)
      | (with_reducible refine LeO.ite ?_ ?_)
      | (with_reducible refine LeO.bind ?_ (fun _ => ?_))
      | exact ih0 _ _ _ _ _ _ _ _ _ _ _ _
      | exact class_Of.mono _ _ _
      | exact class_Runs.mono _ _ _
      | exact lines_End.mono _ _ _
      | exact lines_Start.mono _ _ _
      | exact object_taken.mono _ _ _ _ _
      | exact LeO.none _
      | refine LeO.ite ?_ ?_
      | refine LeO.bind ?_ (fun _ => ?_)
set_option maxHeartbeats 8000000 in
set_option maxRecDepth 100000 in
theorem object_words.calls (k : Nat) (A0 : Option Addr) (c0 : Nat) (l0 : List Int) (a1 : Int) (a2 : Int) (a3 : Int) (a4 : Bool) (a5 : Bool) (r1 : Int) (r2 : Int) (r3 : Bool) (w : World) (hr0 : Kd.C (Kd.int .u8) w A0 l0.length l0) (hc0 : l0.length ≤ c0) (h : object_words.f k l0 a1 a2 a3 a4 a5 = some (r1, r2, r3)) :
    Calls Tryd.prog 27 #[.slice A0 l0.length c0, .int .i64 a1, .int .i64 a2, .int .i64 a3, .bool a4, .bool a5] w fun e w' => e = .returned (.tuple #[.int .i64 r1, .int .i64 r2, .bool r3]) ∧ Below w.heap.size w w' := by
  have hu76 := Tryd.underlying76
  have HR0 := Aside0.mk hr0
  have HC0 := Aside0.mk hc0
  clear hr0 hc0
  have HB := Aside0.mk (Below.refl w.heap.size w)
  have H : ((lines_Start.f k l0 a1).bind fun bt132 => ((lines_End.f k l0 a1).bind fun bt134 => (if 0 ≤ bt132.1 then (if bt132.1 ≤ bt134.1 then (if bt134.1 ≤ (l0.length : Int) then ((class_Runs.f k ((l0.take (bt134.1 : Int).toNat).drop (bt132.1 : Int).toNat) a4).bind fun t137 => (object_words.l0 k l0 a2 a3 a4 a5 bt132.1 ([] : List (S76)) (-1) bt132.1 t137 (t137.length : Int) 0)) else (none)) else (none)) else (none)))) = some (r1, r2, r3) := h
  clear h
  replace H := Option.bind_eq_some_iff.mp H
  obtain ⟨⟨t132, t133⟩, A70, H⟩ := H
  replace H : ((lines_End.f k l0 a1).bind fun bt134 => (if 0 ≤ t132 then (if t132 ≤ bt134.1 then (if bt134.1 ≤ (l0.length : Int) then ((class_Runs.f k ((l0.take (bt134.1 : Int).toNat).drop (t132 : Int).toNat) a4).bind fun t137 => (object_words.l0 k l0 a2 a3 a4 a5 t132 ([] : List (S76)) (-1) t132 t137 (t137.length : Int) 0)) else (none)) else (none)) else (none))) = some (r1, r2, r3) := H
  have A7 := Aside0.mk A70
  clear A70
  replace H := Option.bind_eq_some_iff.mp H
  obtain ⟨⟨t134, t135⟩, A80, H⟩ := H
  replace H : (if 0 ≤ t132 then (if t132 ≤ t134 then (if t134 ≤ (l0.length : Int) then ((class_Runs.f k ((l0.take (t134 : Int).toNat).drop (t132 : Int).toNat) a4).bind fun t137 => (object_words.l0 k l0 a2 a3 a4 a5 t132 ([] : List (S76)) (-1) t132 t137 (t137.length : Int) 0)) else (none)) else (none)) else (none)) = some (r1, r2, r3) := H
  have A8 := Aside0.mk A80
  clear A80
  by_cases c9 : 0 ≤ t132
  · rw [if_pos c9] at H
    have c9b0 := eq_true c9
    have c9b1 : decide (0 ≤ t132) = true := decide_eq_true c9
    clear c9
    by_cases c10 : t132 ≤ t134
    · rw [if_pos c10] at H
      have c10b0 := eq_true c10
      have c10b1 : decide (t132 ≤ t134) = true := decide_eq_true c10
      clear c10
      by_cases c11 : t134 ≤ (l0.length : Int)
      · rw [if_pos c11] at H
        have c11b0 := eq_true c11
        have c11b1 : decide (t134 ≤ (l0.length : Int)) = true := decide_eq_true c11
        clear c11
        replace H := Option.bind_eq_some_iff.mp H
        obtain ⟨t137, A120, H⟩ := H
        replace H : (object_words.l0 k l0 a2 a3 a4 a5 t132 ([] : List (S76)) (-1) t132 t137 (t137.length : Int) 0) = some (r1, r2, r3) := H
        have A12 := Aside0.mk A120
        clear A120
        have H' := Aside0.mk H
        clear H
        go_enter Tryd.func27, Tryd.ntmps27
        go_wp2_with (first | (go_at_call 44; (with_reducible refine (lines_Start.calls k _ _ l0 a1 t132 t133 _ ?side1 ?side2 A7.out).mono ?_); (case side1 => repeat (first | exact HR0.out | (with_reducible refine Kd.C_alloc ?_ _) | (with_reducible refine Kd.C_drewN ?_ _) | (with_reducible refine Kd.C_drew ?_))); (case side2 => exact HC0.out); rintro e w' ⟨rfl, ⟨nd, rfl⟩⟩; (try first | exact ⟨rfl, _, World.drewN_drewN _ _ _⟩ | exact ⟨rfl, _, Eq.trans (World.drewN_drewN _ _ _) (congrArg (World.drewN _) (Nat.add_assoc _ _ _))⟩)) | (go_at_call 45; (with_reducible refine (lines_End.calls k _ _ l0 a1 t134 t135 _ ?side1 ?side2 A8.out).mono ?_); (case side1 => repeat (first | exact HR0.out | (with_reducible refine Kd.C_alloc ?_ _) | (with_reducible refine Kd.C_drewN ?_ _) | (with_reducible refine Kd.C_drew ?_))); (case side2 => exact HC0.out); rintro e w' ⟨rfl, ⟨nd, rfl⟩⟩; (try first | exact ⟨rfl, _, World.drewN_drewN _ _ _⟩ | exact ⟨rfl, _, Eq.trans (World.drewN_drewN _ _ _) (congrArg (World.drewN _) (Nat.add_assoc _ _ _))⟩); obtain ⟨i013, hi013, _, hsz13, _⟩ := info_parts info5; obtain ⟨A13, hcut13, hA13, hC13⟩ := print_mid_of (P := Tryd.prog) (Value.int .u8) 0 22 5 .i64 .i64 Tryd.underlying22 hi013 hsz13 A0 c0 l0 t132 t134 (of_decide_eq_true (by first | (with_reducible assumption) | assumption)) (by first | omega | exact of_decide_eq_true (by first | (with_reducible assumption) | assumption)) (of_decide_eq_true (by first | (with_reducible assumption) | assumption)) HC0.out; have HR136 := Aside0.mk (Kd.C_of_reads (h1 := fun _ => rfl) (hA13 _ (Kd.reads_of_C HR0.out))); have HC136 := Aside0.mk hC13; clear hA13 hC13 hi013 hsz13) | (go_at_call 46; (try rw [show (t134.toNat - t132.toNat) = ((l0.take (t134 : Int).toNat).drop (t132 : Int).toNat).length from (by rw [List.length_drop, List.length_take]; have h_ : (t134 : Int) ≤ (l0.length : Int) := of_decide_eq_true (by first | (with_reducible assumption) | assumption); omega)]); (with_reducible refine (class_Runs.calls k _ _ ((l0.take (t134 : Int).toNat).drop (t132 : Int).toNat) a4 t137 _ ?side1 ?side2 A12.out).mono ?_); (case side1 => repeat (first | exact HR136.out | (with_reducible refine Kd.C_alloc ?_ _) | (with_reducible refine Kd.C_drewN ?_ _) | (with_reducible refine Kd.C_drew ?_))); (case side2 => exact HC136.out); rintro e w14 ⟨v138, rfl, ho0, hb⟩; have n0_ := Aside0.mk (Kd.R_lower ho0 (below_size (by repeat (first | (with_reducible first | exact HB.out | apply below_alloc | apply pw_below_drewN | apply below_drew1) | exact HB.out)))); have n1_ := Aside0.mk (below_step (by repeat (first | (with_reducible first | exact HB.out | apply below_alloc | apply pw_below_drewN | apply below_drew1) | exact HB.out)) hb); clear HB; have HO139 := n0_; have HB := n1_; clear n0_ n1_; (try clear hb); (try clear hb2); (try clear hk); (try clear hi); (try clear ho0); obtain ⟨Ao15, co15, eo15⟩ := Kd.R_slice HO139.out; subst eo15))
        repeat (go_quiet (first | (go_at_call 44; (with_reducible refine (lines_Start.calls k _ _ l0 a1 t132 t133 _ ?side1 ?side2 A7.out).mono ?_); (case side1 => repeat (first | exact HR0.out | (with_reducible refine Kd.C_alloc ?_ _) | (with_reducible refine Kd.C_drewN ?_ _) | (with_reducible refine Kd.C_drew ?_))); (case side2 => exact HC0.out); rintro e w' ⟨rfl, ⟨nd, rfl⟩⟩; (try first | exact ⟨rfl, _, World.drewN_drewN _ _ _⟩ | exact ⟨rfl, _, Eq.trans (World.drewN_drewN _ _ _) (congrArg (World.drewN _) (Nat.add_assoc _ _ _))⟩)) | (go_at_call 45; (with_reducible refine (lines_End.calls k _ _ l0 a1 t134 t135 _ ?side1 ?side2 A8.out).mono ?_); (case side1 => repeat (first | exact HR0.out | (with_reducible refine Kd.C_alloc ?_ _) | (with_reducible refine Kd.C_drewN ?_ _) | (with_reducible refine Kd.C_drew ?_))); (case side2 => exact HC0.out); rintro e w' ⟨rfl, ⟨nd, rfl⟩⟩; (try first | exact ⟨rfl, _, World.drewN_drewN _ _ _⟩ | exact ⟨rfl, _, Eq.trans (World.drewN_drewN _ _ _) (congrArg (World.drewN _) (Nat.add_assoc _ _ _))⟩); obtain ⟨i013, hi013, _, hsz13, _⟩ := info_parts info5; obtain ⟨A13, hcut13, hA13, hC13⟩ := print_mid_of (P := Tryd.prog) (Value.int .u8) 0 22 5 .i64 .i64 Tryd.underlying22 hi013 hsz13 A0 c0 l0 t132 t134 (of_decide_eq_true (by first | (with_reducible assumption) | assumption)) (by first | omega | exact of_decide_eq_true (by first | (with_reducible assumption) | assumption)) (of_decide_eq_true (by first | (with_reducible assumption) | assumption)) HC0.out; have HR136 := Aside0.mk (Kd.C_of_reads (h1 := fun _ => rfl) (hA13 _ (Kd.reads_of_C HR0.out))); have HC136 := Aside0.mk hC13; clear hA13 hC13 hi013 hsz13) | (go_at_call 46; (try rw [show (t134.toNat - t132.toNat) = ((l0.take (t134 : Int).toNat).drop (t132 : Int).toNat).length from (by rw [List.length_drop, List.length_take]; have h_ : (t134 : Int) ≤ (l0.length : Int) := of_decide_eq_true (by first | (with_reducible assumption) | assumption); omega)]); (with_reducible refine (class_Runs.calls k _ _ ((l0.take (t134 : Int).toNat).drop (t132 : Int).toNat) a4 t137 _ ?side1 ?side2 A12.out).mono ?_); (case side1 => repeat (first | exact HR136.out | (with_reducible refine Kd.C_alloc ?_ _) | (with_reducible refine Kd.C_drewN ?_ _) | (with_reducible refine Kd.C_drew ?_))); (case side2 => exact HC136.out); rintro e w14 ⟨v138, rfl, ho0, hb⟩; have n0_ := Aside0.mk (Kd.R_lower ho0 (below_size (by repeat (first | (with_reducible first | exact HB.out | apply below_alloc | apply pw_below_drewN | apply below_drew1) | exact HB.out)))); have n1_ := Aside0.mk (below_step (by repeat (first | (with_reducible first | exact HB.out | apply below_alloc | apply pw_below_drewN | apply below_drew1) | exact HB.out)) hb); clear HB; have HO139 := n0_; have HB := n1_; clear n0_ n1_; (try clear hb); (try clear hb2); (try clear hk); (try clear hi); (try clear ho0); obtain ⟨Ao15, co15, eo15⟩ := Kd.R_slice HO139.out; subst eo15)); try go_wp2_with (first | (go_at_call 44; (with_reducible refine (lines_Start.calls k _ _ l0 a1 t132 t133 _ ?side1 ?side2 A7.out).mono ?_); (case side1 => repeat (first | exact HR0.out | (with_reducible refine Kd.C_alloc ?_ _) | (with_reducible refine Kd.C_drewN ?_ _) | (with_reducible refine Kd.C_drew ?_))); (case side2 => exact HC0.out); rintro e w' ⟨rfl, ⟨nd, rfl⟩⟩; (try first | exact ⟨rfl, _, World.drewN_drewN _ _ _⟩ | exact ⟨rfl, _, Eq.trans (World.drewN_drewN _ _ _) (congrArg (World.drewN _) (Nat.add_assoc _ _ _))⟩)) | (go_at_call 45; (with_reducible refine (lines_End.calls k _ _ l0 a1 t134 t135 _ ?side1 ?side2 A8.out).mono ?_); (case side1 => repeat (first | exact HR0.out | (with_reducible refine Kd.C_alloc ?_ _) | (with_reducible refine Kd.C_drewN ?_ _) | (with_reducible refine Kd.C_drew ?_))); (case side2 => exact HC0.out); rintro e w' ⟨rfl, ⟨nd, rfl⟩⟩; (try first | exact ⟨rfl, _, World.drewN_drewN _ _ _⟩ | exact ⟨rfl, _, Eq.trans (World.drewN_drewN _ _ _) (congrArg (World.drewN _) (Nat.add_assoc _ _ _))⟩); obtain ⟨i013, hi013, _, hsz13, _⟩ := info_parts info5; obtain ⟨A13, hcut13, hA13, hC13⟩ := print_mid_of (P := Tryd.prog) (Value.int .u8) 0 22 5 .i64 .i64 Tryd.underlying22 hi013 hsz13 A0 c0 l0 t132 t134 (of_decide_eq_true (by first | (with_reducible assumption) | assumption)) (by first | omega | exact of_decide_eq_true (by first | (with_reducible assumption) | assumption)) (of_decide_eq_true (by first | (with_reducible assumption) | assumption)) HC0.out; have HR136 := Aside0.mk (Kd.C_of_reads (h1 := fun _ => rfl) (hA13 _ (Kd.reads_of_C HR0.out))); have HC136 := Aside0.mk hC13; clear hA13 hC13 hi013 hsz13) | (go_at_call 46; (try rw [show (t134.toNat - t132.toNat) = ((l0.take (t134 : Int).toNat).drop (t132 : Int).toNat).length from (by rw [List.length_drop, List.length_take]; have h_ : (t134 : Int) ≤ (l0.length : Int) := of_decide_eq_true (by first | (with_reducible assumption) | assumption); omega)]); (with_reducible refine (class_Runs.calls k _ _ ((l0.take (t134 : Int).toNat).drop (t132 : Int).toNat) a4 t137 _ ?side1 ?side2 A12.out).mono ?_); (case side1 => repeat (first | exact HR136.out | (with_reducible refine Kd.C_alloc ?_ _) | (with_reducible refine Kd.C_drewN ?_ _) | (with_reducible refine Kd.C_drew ?_))); (case side2 => exact HC136.out); rintro e w14 ⟨v138, rfl, ho0, hb⟩; have n0_ := Aside0.mk (Kd.R_lower ho0 (below_size (by repeat (first | (with_reducible first | exact HB.out | apply below_alloc | apply pw_below_drewN | apply below_drew1) | exact HB.out)))); have n1_ := Aside0.mk (below_step (by repeat (first | (with_reducible first | exact HB.out | apply below_alloc | apply pw_below_drewN | apply below_drew1) | exact HB.out)) hb); clear HB; have HO139 := n0_; have HB := n1_; clear n0_ n1_; (try clear hb); (try clear hb2); (try clear hk); (try clear hi); (try clear ho0); obtain ⟨Ao15, co15, eo15⟩ := Kd.R_slice HO139.out; subst eo15)))
        go_loopg [19, 20, 21, 48] k (fun kq v19 v20 v21 v48 w' => ∃ (x19_1 : List (S76)) (x20_1 : Int) (x21_1 : Int) (x48_1 : Int), v20 = .int .i64 x20_1 ∧ v21 = .int .i64 x21_1 ∧ v48 = .int .i64 x48_1 ∧ Aside0 (object_words.l0 kq l0 a2 a3 a4 a5 t132 x19_1 x20_1 x21_1 t137 (t137.length : Int) x48_1 = some (r1, r2, r3)) ∧ Aside0 (kq ≤ k) ∧ Aside0 (Kd.R k76 76 w' w.heap.size (fun _ => True) v19 x19_1) ∧ Aside0 (Kd.R (Kd.int .i64) 3 w' w.heap.size (fun _ => True) (.slice Ao15 t137.length co15) t137) ∧ Aside0 (Below w.heap.size w w'))
        case atStart => exact ⟨(([] : List (S76))), ((-1)), (t132), (0), (by first | rfl | (simp; done) | (simp [*]; done)), (by first | rfl | (simp; done) | (simp [*]; done)), (by first | rfl | (simp; done) | (simp [*]; done)), H', ⟨Nat.le_refl _⟩, ⟨by first | exact Kd.R_nil _ _ _ _ _ | exact Kd.N_nil _ _ _ _ _ | exact Kd.V_nil _ _ _ _ _ | exact Kd.Q_nil _ _ _ _ _ | exact Kd.S_nil _ _ _ _ _⟩, ⟨by (with_reducible repeat (first | apply Kd.R_alloc | apply Kd.R_drewN | apply Kd.R_drew)); exact HO139.out⟩, ⟨by repeat (first | (with_reducible first | exact HB.out | apply below_alloc | apply pw_below_drewN | apply below_drew1) | exact HB.out)⟩⟩
        case round =>
          clear H'
          try clear c1
          try clear c2
          try clear p2
          try clear c9
          try clear c9b0
          try clear c9b1
          try clear c10
          try clear c10b0
          try clear c10b1
          try clear c11
          try clear c11b0
          try clear c11b1
          obtain ⟨x19_1, x20_1, x21_1, x48_1, rfl, rfl, rfl, HA, HK1, HO_19, HO_46, HB⟩ := hrel
          cases gk with
          | zero => exact absurd HA.out (by simp [object_words.l0])
          | succ k1 =>
            have H := HA.out
            clear HA
            simp only [object_words.l0] at H
            by_cases c16 : x48_1 < (t137.length : Int)
            · rw [if_pos c16] at H
              have c16b0 : decide (x48_1 < (t137.length : Int)) = true := decide_eq_true c16
              clear c16
              by_cases c17 : 0 ≤ x48_1
              · rw [if_pos c17] at H
                have c17b0 : decide (0 ≤ x48_1) = true := decide_eq_true c17
                clear c17
                by_cases c18 : x48_1 < (t137.length : Int)
                · rw [if_pos c18] at H
                  have c18b0 : decide (x48_1 < (t137.length : Int)) = true := decide_eq_true c18
                  clear c18
                  by_cases c19 : x21_1 ≤ a2
                  · rw [if_pos c19] at H
                    have c19b0 : decide (x21_1 ≤ a2) = true := decide_eq_true c19
                    clear c19
                    by_cases c20 : a2 < (wrap64 (t132 + (rd t137 x48_1)))
                    · rw [if_pos c20] at H
                      have c20b0 : decide (a2 < (wrap64 (t132 + (rd t137 x48_1)))) = true := decide_eq_true c20
                      clear c20
                      by_cases c21 : 0 ≤ x21_1
                      · rw [if_pos c21] at H
                        have c21b0 : decide (0 ≤ x21_1) = true := decide_eq_true c21
                        clear c21
                        by_cases c22 : x21_1 < (l0.length : Int)
                        · rw [if_pos c22] at H
                          have c22b0 : decide (x21_1 < (l0.length : Int)) = true := decide_eq_true c22
                          clear c22
                          replace H := Option.bind_eq_some_iff.mp H
                          obtain ⟨t142, A230, H⟩ := H
                          replace H : (if x19_1.length < 5864062014805 then (object_words.l0 k1 l0 a2 a3 a4 a5 t132 (x19_1 ++ [(⟨x21_1, wrap64 (t132 + (rd t137 x48_1)), (t142 == 0)⟩ : S76)]) (x19_1.length : Int) (wrap64 (t132 + (rd t137 x48_1))) t137 (t137.length : Int) (wrap64 (x48_1 + 1))) else (none)) = some (r1, r2, r3) := H
                          have A23 := Aside0.mk A230
                          clear A230
                          by_cases c24 : x19_1.length < 5864062014805
                          · rw [if_pos c24] at H
                            have LMc24 := Aside0.mk c24
                            clear c24
                            obtain ⟨y143, hy143⟩ : ∃ y_ : List (S76), y_ = (x19_1 ++ [(⟨x21_1, wrap64 (t132 + (rd t137 x48_1)), (t142 == 0)⟩ : S76)]) := ⟨_, rfl⟩
                            replace H : (object_words.l0 k1 l0 a2 a3 a4 a5 t132 y143 (x19_1.length : Int) (wrap64 (t132 + (rd t137 x48_1))) t137 (t137.length : Int) (wrap64 (x48_1 + 1))) = some (r1, r2, r3) := by first | (rw [hy143]; with_reducible exact H) | (have H2_ := (Option.bind_some _ _).symm.trans H; rw [hy143]; with_reducible exact H2_) | (have H2_ := (Option.bind_some _ _).symm.trans H; with_reducible exact H2_) | with_reducible exact H | (rw [hy143]; exact H) | exact H
                            have Ny143 := Aside0.mk hy143
                            clear hy143
                            have H' := Aside0.mk H
                            clear H
                            have p140 : 0 ≤ (x48_1 : Int) := of_decide_eq_true (by first | (with_reducible assumption) | assumption)
                            have q140 : x48_1 < (t137.length : Int) := of_decide_eq_true (by first | (with_reducible assumption) | assumption)
                            obtain ⟨ad140, e140, hx140_0⟩ := Kd.at_int (Kd.R_reads' HO_46.out).2.2 x48_1 p140 q140
                            cases e140
                            replace p140 := eq_true p140
                            replace q140 := eq_true q140
                            obtain ⟨Ao25, co25, eo25⟩ := Kd.R_slice HO_19.out
                            subst eo25
                            have p141 : 0 ≤ (x21_1 : Int) := of_decide_eq_true (by first | (with_reducible assumption) | assumption)
                            have q141 : x21_1 < (l0.length : Int) := of_decide_eq_true (by first | (with_reducible assumption) | assumption)
                            obtain ⟨ad141, e141, hx141_0⟩ := Kd.at_int HR0.out x21_1 p141 q141
                            cases e141
                            replace hx141_0 := (HB.out.cell (World.block_lt_of_cell? w _ hx141_0)).trans hx141_0
                            replace p141 := eq_true p141
                            replace q141 := eq_true q141
                            go_wp2_with (first | (go_at_call 15; (with_reducible refine (class_Of.calls k1 (rd l0 x21_1) a4 t142 _ A23.out).mono ?_); rintro e w' ⟨rfl, ⟨nd, rfl⟩⟩; (try first | exact ⟨rfl, _, World.drewN_drewN _ _ _⟩ | exact ⟨rfl, _, Eq.trans (World.drewN_drewN _ _ _) (congrArg (World.drewN _) (Nat.add_assoc _ _ _))⟩)) | ((with_reducible refine gate_builtin (b := .append) (xs := #[.tmp 65, .tmp 76]) rfl ?_); at_builtin; refine Kd.R_append k76 (w0 := w) w.heap.size rfl (.tmp 65) (.tmp 76) 73 76 (.agg #[(.int .i64 0), (.int .i64 0), (.bool false)]) 24 rfl Tryd.underlying73 info76 rfl (by decide) (by omega) (.slice Ao25 x19_1.length co25) x19_1 (⟨x21_1, wrap64 (t132 + (rd t137 x48_1)), (t142 == 0)⟩ : S76) [.int .i64 x21_1, .int .i64 (wrap64 (t132 + (rd t137 x48_1))), .bool (t142 == 0)] (fun _ => True) (fun _ => False) rfl rfl ?aP (fun _ hk => hk.elim) ?aF ?aO ?aB ?aS ?aL ?_; (case aP => exact k76_mkM _ _ _ (⟨x21_1, wrap64 (t132 + (rd t137 x48_1)), (t142 == 0)⟩ : S76)); (case aB => exact (by repeat (first | (with_reducible first | exact HB.out | apply below_alloc | apply pw_below_drewN | apply below_drew1) | exact HB.out))); (case aF => exact (fun _ _ => trivial)); (case aO => exact (by (with_reducible repeat (first | apply Kd.R_alloc | apply Kd.R_drewN | apply Kd.R_drew)); exact HO_19.out)); (case aS => exact (below_size (by repeat (first | (with_reducible first | exact HB.out | apply below_alloc | apply pw_below_drewN | apply below_drew1) | exact HB.out)))); (case aL => have := LMc24.out; omega); intro v144 w26 ho hb hg hat; rw [← Ny143.out] at ho; have n0_ := Aside0.mk (Kd.R_over' (by (with_reducible repeat (first | apply Kd.R_alloc | apply Kd.R_drewN | apply Kd.R_drew)); exact HO_46.out) (Kd.R_typed (by (with_reducible repeat (first | apply Kd.R_alloc | apply Kd.R_drewN | apply Kd.R_drew)); exact HO_19.out)) (by decide) hg); have n1_ := Aside0.mk (hb); have n2_ := Aside0.mk (ho); clear HO_46; clear HB; clear HO_19; have HO_46 := n0_; have HB := n1_; have HO145 := n2_; clear n0_ n1_ n2_; clear ho hb hg hat))
                            repeat (go_quiet (first | (go_at_call 15; (with_reducible refine (class_Of.calls k1 (rd l0 x21_1) a4 t142 _ A23.out).mono ?_); rintro e w' ⟨rfl, ⟨nd, rfl⟩⟩; (try first | exact ⟨rfl, _, World.drewN_drewN _ _ _⟩ | exact ⟨rfl, _, Eq.trans (World.drewN_drewN _ _ _) (congrArg (World.drewN _) (Nat.add_assoc _ _ _))⟩)) | ((with_reducible refine gate_builtin (b := .append) (xs := #[.tmp 65, .tmp 76]) rfl ?_); at_builtin; refine Kd.R_append k76 (w0 := w) w.heap.size rfl (.tmp 65) (.tmp 76) 73 76 (.agg #[(.int .i64 0), (.int .i64 0), (.bool false)]) 24 rfl Tryd.underlying73 info76 rfl (by decide) (by omega) (.slice Ao25 x19_1.length co25) x19_1 (⟨x21_1, wrap64 (t132 + (rd t137 x48_1)), (t142 == 0)⟩ : S76) [.int .i64 x21_1, .int .i64 (wrap64 (t132 + (rd t137 x48_1))), .bool (t142 == 0)] (fun _ => True) (fun _ => False) rfl rfl ?aP (fun _ hk => hk.elim) ?aF ?aO ?aB ?aS ?aL ?_; (case aP => exact k76_mkM _ _ _ (⟨x21_1, wrap64 (t132 + (rd t137 x48_1)), (t142 == 0)⟩ : S76)); (case aB => exact (by repeat (first | (with_reducible first | exact HB.out | apply below_alloc | apply pw_below_drewN | apply below_drew1) | exact HB.out))); (case aF => exact (fun _ _ => trivial)); (case aO => exact (by (with_reducible repeat (first | apply Kd.R_alloc | apply Kd.R_drewN | apply Kd.R_drew)); exact HO_19.out)); (case aS => exact (below_size (by repeat (first | (with_reducible first | exact HB.out | apply below_alloc | apply pw_below_drewN | apply below_drew1) | exact HB.out)))); (case aL => have := LMc24.out; omega); intro v144 w26 ho hb hg hat; rw [← Ny143.out] at ho; have n0_ := Aside0.mk (Kd.R_over' (by (with_reducible repeat (first | apply Kd.R_alloc | apply Kd.R_drewN | apply Kd.R_drew)); exact HO_46.out) (Kd.R_typed (by (with_reducible repeat (first | apply Kd.R_alloc | apply Kd.R_drewN | apply Kd.R_drew)); exact HO_19.out)) (by decide) hg); have n1_ := Aside0.mk (hb); have n2_ := Aside0.mk (ho); clear HO_46; clear HB; clear HO_19; have HO_46 := n0_; have HB := n1_; have HO145 := n2_; clear n0_ n1_ n2_; clear ho hb hg hat)); try go_wp2_with (first | (go_at_call 15; (with_reducible refine (class_Of.calls k1 (rd l0 x21_1) a4 t142 _ A23.out).mono ?_); rintro e w' ⟨rfl, ⟨nd, rfl⟩⟩; (try first | exact ⟨rfl, _, World.drewN_drewN _ _ _⟩ | exact ⟨rfl, _, Eq.trans (World.drewN_drewN _ _ _) (congrArg (World.drewN _) (Nat.add_assoc _ _ _))⟩)) | ((with_reducible refine gate_builtin (b := .append) (xs := #[.tmp 65, .tmp 76]) rfl ?_); at_builtin; refine Kd.R_append k76 (w0 := w) w.heap.size rfl (.tmp 65) (.tmp 76) 73 76 (.agg #[(.int .i64 0), (.int .i64 0), (.bool false)]) 24 rfl Tryd.underlying73 info76 rfl (by decide) (by omega) (.slice Ao25 x19_1.length co25) x19_1 (⟨x21_1, wrap64 (t132 + (rd t137 x48_1)), (t142 == 0)⟩ : S76) [.int .i64 x21_1, .int .i64 (wrap64 (t132 + (rd t137 x48_1))), .bool (t142 == 0)] (fun _ => True) (fun _ => False) rfl rfl ?aP (fun _ hk => hk.elim) ?aF ?aO ?aB ?aS ?aL ?_; (case aP => exact k76_mkM _ _ _ (⟨x21_1, wrap64 (t132 + (rd t137 x48_1)), (t142 == 0)⟩ : S76)); (case aB => exact (by repeat (first | (with_reducible first | exact HB.out | apply below_alloc | apply pw_below_drewN | apply below_drew1) | exact HB.out))); (case aF => exact (fun _ _ => trivial)); (case aO => exact (by (with_reducible repeat (first | apply Kd.R_alloc | apply Kd.R_drewN | apply Kd.R_drew)); exact HO_19.out)); (case aS => exact (below_size (by repeat (first | (with_reducible first | exact HB.out | apply below_alloc | apply pw_below_drewN | apply below_drew1) | exact HB.out)))); (case aL => have := LMc24.out; omega); intro v144 w26 ho hb hg hat; rw [← Ny143.out] at ho; have n0_ := Aside0.mk (Kd.R_over' (by (with_reducible repeat (first | apply Kd.R_alloc | apply Kd.R_drewN | apply Kd.R_drew)); exact HO_46.out) (Kd.R_typed (by (with_reducible repeat (first | apply Kd.R_alloc | apply Kd.R_drewN | apply Kd.R_drew)); exact HO_19.out)) (by decide) hg); have n1_ := Aside0.mk (hb); have n2_ := Aside0.mk (ho); clear HO_46; clear HB; clear HO_19; have HO_46 := n0_; have HB := n1_; have HO145 := n2_; clear n0_ n1_ n2_; clear ho hb hg hat)))
                            go_roundg k1
                            case measure => have := HK1.out; omega
                            case rel => exact ⟨(y143), ((x19_1.length : Int)), (wrap64 (t132 + (rd t137 x48_1))), (wrap64 (x48_1 + 1)), (by first | rfl | (simp; done) | (simp [*]; done)), (by first | rfl | (simp; done) | (simp [*]; done)), (by first | rfl | (simp; done) | (simp [*]; done)), H', ⟨by have := HK1.out; omega⟩, ⟨by (with_reducible repeat (first | apply Kd.R_alloc | apply Kd.R_drewN | apply Kd.R_drew)); exact HO145.out⟩, ⟨by (with_reducible repeat (first | apply Kd.R_alloc | apply Kd.R_drewN | apply Kd.R_drew)); exact HO_46.out⟩, ⟨by repeat (first | (with_reducible first | exact HB.out | apply below_alloc | apply pw_below_drewN | apply below_drew1) | exact HB.out)⟩⟩
                          · rw [if_neg c24] at H
                            exact absurd H (by simp)
                        · rw [if_neg c22] at H
                          exact absurd H (by simp)
                      · rw [if_neg c21] at H
                        exact absurd H (by simp)
                    · rw [if_neg c20] at H
                      have c20b0 : decide (a2 < (wrap64 (t132 + (rd t137 x48_1)))) = false := decide_eq_false c20
                      clear c20
                      by_cases c27 : 0 ≤ x21_1
                      · rw [if_pos c27] at H
                        have c27b0 : decide (0 ≤ x21_1) = true := decide_eq_true c27
                        clear c27
                        by_cases c28 : x21_1 < (l0.length : Int)
                        · rw [if_pos c28] at H
                          have c28b0 : decide (x21_1 < (l0.length : Int)) = true := decide_eq_true c28
                          clear c28
                          replace H := Option.bind_eq_some_iff.mp H
                          obtain ⟨t147, A290, H⟩ := H
                          replace H : (if x19_1.length < 5864062014805 then (object_words.l0 k1 l0 a2 a3 a4 a5 t132 (x19_1 ++ [(⟨x21_1, wrap64 (t132 + (rd t137 x48_1)), (t147 == 0)⟩ : S76)]) x20_1 (wrap64 (t132 + (rd t137 x48_1))) t137 (t137.length : Int) (wrap64 (x48_1 + 1))) else (none)) = some (r1, r2, r3) := H
                          have A29 := Aside0.mk A290
                          clear A290
                          by_cases c30 : x19_1.length < 5864062014805
                          · rw [if_pos c30] at H
                            have LMc30 := Aside0.mk c30
                            clear c30
                            obtain ⟨y148, hy148⟩ : ∃ y_ : List (S76), y_ = (x19_1 ++ [(⟨x21_1, wrap64 (t132 + (rd t137 x48_1)), (t147 == 0)⟩ : S76)]) := ⟨_, rfl⟩
                            replace H : (object_words.l0 k1 l0 a2 a3 a4 a5 t132 y148 x20_1 (wrap64 (t132 + (rd t137 x48_1))) t137 (t137.length : Int) (wrap64 (x48_1 + 1))) = some (r1, r2, r3) := by first | (rw [hy148]; with_reducible exact H) | (have H2_ := (Option.bind_some _ _).symm.trans H; rw [hy148]; with_reducible exact H2_) | (have H2_ := (Option.bind_some _ _).symm.trans H; with_reducible exact H2_) | with_reducible exact H | (rw [hy148]; exact H) | exact H
                            have Ny148 := Aside0.mk hy148
                            clear hy148
                            have H' := Aside0.mk H
                            clear H
                            have p140 : 0 ≤ (x48_1 : Int) := of_decide_eq_true (by first | (with_reducible assumption) | assumption)
                            have q140 : x48_1 < (t137.length : Int) := of_decide_eq_true (by first | (with_reducible assumption) | assumption)
                            obtain ⟨ad140, e140, hx140_0⟩ := Kd.at_int (Kd.R_reads' HO_46.out).2.2 x48_1 p140 q140
                            cases e140
                            replace p140 := eq_true p140
                            replace q140 := eq_true q140
                            have p146 : 0 ≤ (x21_1 : Int) := of_decide_eq_true (by first | (with_reducible assumption) | assumption)
                            have q146 : x21_1 < (l0.length : Int) := of_decide_eq_true (by first | (with_reducible assumption) | assumption)
                            obtain ⟨ad146, e146, hx146_0⟩ := Kd.at_int HR0.out x21_1 p146 q146
                            cases e146
                            replace hx146_0 := (HB.out.cell (World.block_lt_of_cell? w _ hx146_0)).trans hx146_0
                            replace p146 := eq_true p146
                            replace q146 := eq_true q146
                            go_wp2_with (first | (go_at_call 15; (with_reducible refine (class_Of.calls k1 (rd l0 x21_1) a4 t147 _ A29.out).mono ?_); rintro e w' ⟨rfl, ⟨nd, rfl⟩⟩; (try first | exact ⟨rfl, _, World.drewN_drewN _ _ _⟩ | exact ⟨rfl, _, Eq.trans (World.drewN_drewN _ _ _) (congrArg (World.drewN _) (Nat.add_assoc _ _ _))⟩)) | ((with_reducible refine gate_builtin (b := .append) (xs := #[.tmp 65, .tmp 76]) rfl ?_); at_builtin; refine Kd.R_append k76 (w0 := w) w.heap.size rfl (.tmp 65) (.tmp 76) 73 76 (.agg #[(.int .i64 0), (.int .i64 0), (.bool false)]) 24 rfl Tryd.underlying73 info76 rfl (by decide) (by omega) u19 x19_1 (⟨x21_1, wrap64 (t132 + (rd t137 x48_1)), (t147 == 0)⟩ : S76) [.int .i64 x21_1, .int .i64 (wrap64 (t132 + (rd t137 x48_1))), .bool (t147 == 0)] (fun _ => True) (fun _ => False) rfl rfl ?aP (fun _ hk => hk.elim) ?aF ?aO ?aB ?aS ?aL ?_; (case aP => exact k76_mkM _ _ _ (⟨x21_1, wrap64 (t132 + (rd t137 x48_1)), (t147 == 0)⟩ : S76)); (case aB => exact (by repeat (first | (with_reducible first | exact HB.out | apply below_alloc | apply pw_below_drewN | apply below_drew1) | exact HB.out))); (case aF => exact (fun _ _ => trivial)); (case aO => exact (by (with_reducible repeat (first | apply Kd.R_alloc | apply Kd.R_drewN | apply Kd.R_drew)); exact HO_19.out)); (case aS => exact (below_size (by repeat (first | (with_reducible first | exact HB.out | apply below_alloc | apply pw_below_drewN | apply below_drew1) | exact HB.out)))); (case aL => have := LMc30.out; omega); intro v149 w31 ho hb hg hat; rw [← Ny148.out] at ho; have n0_ := Aside0.mk (Kd.R_over' (by (with_reducible repeat (first | apply Kd.R_alloc | apply Kd.R_drewN | apply Kd.R_drew)); exact HO_46.out) (Kd.R_typed (by (with_reducible repeat (first | apply Kd.R_alloc | apply Kd.R_drewN | apply Kd.R_drew)); exact HO_19.out)) (by decide) hg); have n1_ := Aside0.mk (hb); have n2_ := Aside0.mk (ho); clear HO_46; clear HB; clear HO_19; have HO_46 := n0_; have HB := n1_; have HO150 := n2_; clear n0_ n1_ n2_; clear ho hb hg hat))
                            repeat (go_quiet (first | (go_at_call 15; (with_reducible refine (class_Of.calls k1 (rd l0 x21_1) a4 t147 _ A29.out).mono ?_); rintro e w' ⟨rfl, ⟨nd, rfl⟩⟩; (try first | exact ⟨rfl, _, World.drewN_drewN _ _ _⟩ | exact ⟨rfl, _, Eq.trans (World.drewN_drewN _ _ _) (congrArg (World.drewN _) (Nat.add_assoc _ _ _))⟩)) | ((with_reducible refine gate_builtin (b := .append) (xs := #[.tmp 65, .tmp 76]) rfl ?_); at_builtin; refine Kd.R_append k76 (w0 := w) w.heap.size rfl (.tmp 65) (.tmp 76) 73 76 (.agg #[(.int .i64 0), (.int .i64 0), (.bool false)]) 24 rfl Tryd.underlying73 info76 rfl (by decide) (by omega) u19 x19_1 (⟨x21_1, wrap64 (t132 + (rd t137 x48_1)), (t147 == 0)⟩ : S76) [.int .i64 x21_1, .int .i64 (wrap64 (t132 + (rd t137 x48_1))), .bool (t147 == 0)] (fun _ => True) (fun _ => False) rfl rfl ?aP (fun _ hk => hk.elim) ?aF ?aO ?aB ?aS ?aL ?_; (case aP => exact k76_mkM _ _ _ (⟨x21_1, wrap64 (t132 + (rd t137 x48_1)), (t147 == 0)⟩ : S76)); (case aB => exact (by repeat (first | (with_reducible first | exact HB.out | apply below_alloc | apply pw_below_drewN | apply below_drew1) | exact HB.out))); (case aF => exact (fun _ _ => trivial)); (case aO => exact (by (with_reducible repeat (first | apply Kd.R_alloc | apply Kd.R_drewN | apply Kd.R_drew)); exact HO_19.out)); (case aS => exact (below_size (by repeat (first | (with_reducible first | exact HB.out | apply below_alloc | apply pw_below_drewN | apply below_drew1) | exact HB.out)))); (case aL => have := LMc30.out; omega); intro v149 w31 ho hb hg hat; rw [← Ny148.out] at ho; have n0_ := Aside0.mk (Kd.R_over' (by (with_reducible repeat (first | apply Kd.R_alloc | apply Kd.R_drewN | apply Kd.R_drew)); exact HO_46.out) (Kd.R_typed (by (with_reducible repeat (first | apply Kd.R_alloc | apply Kd.R_drewN | apply Kd.R_drew)); exact HO_19.out)) (by decide) hg); have n1_ := Aside0.mk (hb); have n2_ := Aside0.mk (ho); clear HO_46; clear HB; clear HO_19; have HO_46 := n0_; have HB := n1_; have HO150 := n2_; clear n0_ n1_ n2_; clear ho hb hg hat)); try go_wp2_with (first | (go_at_call 15; (with_reducible refine (class_Of.calls k1 (rd l0 x21_1) a4 t147 _ A29.out).mono ?_); rintro e w' ⟨rfl, ⟨nd, rfl⟩⟩; (try first | exact ⟨rfl, _, World.drewN_drewN _ _ _⟩ | exact ⟨rfl, _, Eq.trans (World.drewN_drewN _ _ _) (congrArg (World.drewN _) (Nat.add_assoc _ _ _))⟩)) | ((with_reducible refine gate_builtin (b := .append) (xs := #[.tmp 65, .tmp 76]) rfl ?_); at_builtin; refine Kd.R_append k76 (w0 := w) w.heap.size rfl (.tmp 65) (.tmp 76) 73 76 (.agg #[(.int .i64 0), (.int .i64 0), (.bool false)]) 24 rfl Tryd.underlying73 info76 rfl (by decide) (by omega) u19 x19_1 (⟨x21_1, wrap64 (t132 + (rd t137 x48_1)), (t147 == 0)⟩ : S76) [.int .i64 x21_1, .int .i64 (wrap64 (t132 + (rd t137 x48_1))), .bool (t147 == 0)] (fun _ => True) (fun _ => False) rfl rfl ?aP (fun _ hk => hk.elim) ?aF ?aO ?aB ?aS ?aL ?_; (case aP => exact k76_mkM _ _ _ (⟨x21_1, wrap64 (t132 + (rd t137 x48_1)), (t147 == 0)⟩ : S76)); (case aB => exact (by repeat (first | (with_reducible first | exact HB.out | apply below_alloc | apply pw_below_drewN | apply below_drew1) | exact HB.out))); (case aF => exact (fun _ _ => trivial)); (case aO => exact (by (with_reducible repeat (first | apply Kd.R_alloc | apply Kd.R_drewN | apply Kd.R_drew)); exact HO_19.out)); (case aS => exact (below_size (by repeat (first | (with_reducible first | exact HB.out | apply below_alloc | apply pw_below_drewN | apply below_drew1) | exact HB.out)))); (case aL => have := LMc30.out; omega); intro v149 w31 ho hb hg hat; rw [← Ny148.out] at ho; have n0_ := Aside0.mk (Kd.R_over' (by (with_reducible repeat (first | apply Kd.R_alloc | apply Kd.R_drewN | apply Kd.R_drew)); exact HO_46.out) (Kd.R_typed (by (with_reducible repeat (first | apply Kd.R_alloc | apply Kd.R_drewN | apply Kd.R_drew)); exact HO_19.out)) (by decide) hg); have n1_ := Aside0.mk (hb); have n2_ := Aside0.mk (ho); clear HO_46; clear HB; clear HO_19; have HO_46 := n0_; have HB := n1_; have HO150 := n2_; clear n0_ n1_ n2_; clear ho hb hg hat)))
                            go_roundg k1
                            case measure => have := HK1.out; omega
                            case rel => exact ⟨(y148), (x20_1), (wrap64 (t132 + (rd t137 x48_1))), (wrap64 (x48_1 + 1)), (by first | rfl | (simp; done) | (simp [*]; done)), (by first | rfl | (simp; done) | (simp [*]; done)), (by first | rfl | (simp; done) | (simp [*]; done)), H', ⟨by have := HK1.out; omega⟩, ⟨by (with_reducible repeat (first | apply Kd.R_alloc | apply Kd.R_drewN | apply Kd.R_drew)); exact HO150.out⟩, ⟨by (with_reducible repeat (first | apply Kd.R_alloc | apply Kd.R_drewN | apply Kd.R_drew)); exact HO_46.out⟩, ⟨by repeat (first | (with_reducible first | exact HB.out | apply below_alloc | apply pw_below_drewN | apply below_drew1) | exact HB.out)⟩⟩
                          · rw [if_neg c30] at H
                            exact absurd H (by simp)
                        · rw [if_neg c28] at H
                          exact absurd H (by simp)
                      · rw [if_neg c27] at H
                        exact absurd H (by simp)
                  · rw [if_neg c19] at H
                    have c19b0 : decide (x21_1 ≤ a2) = false := decide_eq_false c19
                    clear c19
                    by_cases c32 : 0 ≤ x21_1
                    · rw [if_pos c32] at H
                      have c32b0 : decide (0 ≤ x21_1) = true := decide_eq_true c32
                      clear c32
                      by_cases c33 : x21_1 < (l0.length : Int)
                      · rw [if_pos c33] at H
                        have c33b0 : decide (x21_1 < (l0.length : Int)) = true := decide_eq_true c33
                        clear c33
                        replace H := Option.bind_eq_some_iff.mp H
                        obtain ⟨t152, A340, H⟩ := H
                        replace H : (if x19_1.length < 5864062014805 then (object_words.l0 k1 l0 a2 a3 a4 a5 t132 (x19_1 ++ [(⟨x21_1, wrap64 (t132 + (rd t137 x48_1)), (t152 == 0)⟩ : S76)]) x20_1 (wrap64 (t132 + (rd t137 x48_1))) t137 (t137.length : Int) (wrap64 (x48_1 + 1))) else (none)) = some (r1, r2, r3) := H
                        have A34 := Aside0.mk A340
                        clear A340
                        by_cases c35 : x19_1.length < 5864062014805
                        · rw [if_pos c35] at H
                          have LMc35 := Aside0.mk c35
                          clear c35
                          obtain ⟨y153, hy153⟩ : ∃ y_ : List (S76), y_ = (x19_1 ++ [(⟨x21_1, wrap64 (t132 + (rd t137 x48_1)), (t152 == 0)⟩ : S76)]) := ⟨_, rfl⟩
                          replace H : (object_words.l0 k1 l0 a2 a3 a4 a5 t132 y153 x20_1 (wrap64 (t132 + (rd t137 x48_1))) t137 (t137.length : Int) (wrap64 (x48_1 + 1))) = some (r1, r2, r3) := by first | (rw [hy153]; with_reducible exact H) | (have H2_ := (Option.bind_some _ _).symm.trans H; rw [hy153]; with_reducible exact H2_) | (have H2_ := (Option.bind_some _ _).symm.trans H; with_reducible exact H2_) | with_reducible exact H | (rw [hy153]; exact H) | exact H
                          have Ny153 := Aside0.mk hy153
                          clear hy153
                          have H' := Aside0.mk H
                          clear H
                          have p140 : 0 ≤ (x48_1 : Int) := of_decide_eq_true (by first | (with_reducible assumption) | assumption)
                          have q140 : x48_1 < (t137.length : Int) := of_decide_eq_true (by first | (with_reducible assumption) | assumption)
                          obtain ⟨ad140, e140, hx140_0⟩ := Kd.at_int (Kd.R_reads' HO_46.out).2.2 x48_1 p140 q140
                          cases e140
                          replace p140 := eq_true p140
                          replace q140 := eq_true q140
                          have p151 : 0 ≤ (x21_1 : Int) := of_decide_eq_true (by first | (with_reducible assumption) | assumption)
                          have q151 : x21_1 < (l0.length : Int) := of_decide_eq_true (by first | (with_reducible assumption) | assumption)
                          obtain ⟨ad151, e151, hx151_0⟩ := Kd.at_int HR0.out x21_1 p151 q151
                          cases e151
                          replace hx151_0 := (HB.out.cell (World.block_lt_of_cell? w _ hx151_0)).trans hx151_0
                          replace p151 := eq_true p151
                          replace q151 := eq_true q151
                          go_wp2_with (first | (go_at_call 15; (with_reducible refine (class_Of.calls k1 (rd l0 x21_1) a4 t152 _ A34.out).mono ?_); rintro e w' ⟨rfl, ⟨nd, rfl⟩⟩; (try first | exact ⟨rfl, _, World.drewN_drewN _ _ _⟩ | exact ⟨rfl, _, Eq.trans (World.drewN_drewN _ _ _) (congrArg (World.drewN _) (Nat.add_assoc _ _ _))⟩)) | ((with_reducible refine gate_builtin (b := .append) (xs := #[.tmp 65, .tmp 76]) rfl ?_); at_builtin; refine Kd.R_append k76 (w0 := w) w.heap.size rfl (.tmp 65) (.tmp 76) 73 76 (.agg #[(.int .i64 0), (.int .i64 0), (.bool false)]) 24 rfl Tryd.underlying73 info76 rfl (by decide) (by omega) u19 x19_1 (⟨x21_1, wrap64 (t132 + (rd t137 x48_1)), (t152 == 0)⟩ : S76) [.int .i64 x21_1, .int .i64 (wrap64 (t132 + (rd t137 x48_1))), .bool (t152 == 0)] (fun _ => True) (fun _ => False) rfl rfl ?aP (fun _ hk => hk.elim) ?aF ?aO ?aB ?aS ?aL ?_; (case aP => exact k76_mkM _ _ _ (⟨x21_1, wrap64 (t132 + (rd t137 x48_1)), (t152 == 0)⟩ : S76)); (case aB => exact (by repeat (first | (with_reducible first | exact HB.out | apply below_alloc | apply pw_below_drewN | apply below_drew1) | exact HB.out))); (case aF => exact (fun _ _ => trivial)); (case aO => exact (by (with_reducible repeat (first | apply Kd.R_alloc | apply Kd.R_drewN | apply Kd.R_drew)); exact HO_19.out)); (case aS => exact (below_size (by repeat (first | (with_reducible first | exact HB.out | apply below_alloc | apply pw_below_drewN | apply below_drew1) | exact HB.out)))); (case aL => have := LMc35.out; omega); intro v154 w36 ho hb hg hat; rw [← Ny153.out] at ho; have n0_ := Aside0.mk (Kd.R_over' (by (with_reducible repeat (first | apply Kd.R_alloc | apply Kd.R_drewN | apply Kd.R_drew)); exact HO_46.out) (Kd.R_typed (by (with_reducible repeat (first | apply Kd.R_alloc | apply Kd.R_drewN | apply Kd.R_drew)); exact HO_19.out)) (by decide) hg); have n1_ := Aside0.mk (hb); have n2_ := Aside0.mk (ho); clear HO_46; clear HB; clear HO_19; have HO_46 := n0_; have HB := n1_; have HO155 := n2_; clear n0_ n1_ n2_; clear ho hb hg hat))
                          repeat (go_quiet (first | (go_at_call 15; (with_reducible refine (class_Of.calls k1 (rd l0 x21_1) a4 t152 _ A34.out).mono ?_); rintro e w' ⟨rfl, ⟨nd, rfl⟩⟩; (try first | exact ⟨rfl, _, World.drewN_drewN _ _ _⟩ | exact ⟨rfl, _, Eq.trans (World.drewN_drewN _ _ _) (congrArg (World.drewN _) (Nat.add_assoc _ _ _))⟩)) | ((with_reducible refine gate_builtin (b := .append) (xs := #[.tmp 65, .tmp 76]) rfl ?_); at_builtin; refine Kd.R_append k76 (w0 := w) w.heap.size rfl (.tmp 65) (.tmp 76) 73 76 (.agg #[(.int .i64 0), (.int .i64 0), (.bool false)]) 24 rfl Tryd.underlying73 info76 rfl (by decide) (by omega) u19 x19_1 (⟨x21_1, wrap64 (t132 + (rd t137 x48_1)), (t152 == 0)⟩ : S76) [.int .i64 x21_1, .int .i64 (wrap64 (t132 + (rd t137 x48_1))), .bool (t152 == 0)] (fun _ => True) (fun _ => False) rfl rfl ?aP (fun _ hk => hk.elim) ?aF ?aO ?aB ?aS ?aL ?_; (case aP => exact k76_mkM _ _ _ (⟨x21_1, wrap64 (t132 + (rd t137 x48_1)), (t152 == 0)⟩ : S76)); (case aB => exact (by repeat (first | (with_reducible first | exact HB.out | apply below_alloc | apply pw_below_drewN | apply below_drew1) | exact HB.out))); (case aF => exact (fun _ _ => trivial)); (case aO => exact (by (with_reducible repeat (first | apply Kd.R_alloc | apply Kd.R_drewN | apply Kd.R_drew)); exact HO_19.out)); (case aS => exact (below_size (by repeat (first | (with_reducible first | exact HB.out | apply below_alloc | apply pw_below_drewN | apply below_drew1) | exact HB.out)))); (case aL => have := LMc35.out; omega); intro v154 w36 ho hb hg hat; rw [← Ny153.out] at ho; have n0_ := Aside0.mk (Kd.R_over' (by (with_reducible repeat (first | apply Kd.R_alloc | apply Kd.R_drewN | apply Kd.R_drew)); exact HO_46.out) (Kd.R_typed (by (with_reducible repeat (first | apply Kd.R_alloc | apply Kd.R_drewN | apply Kd.R_drew)); exact HO_19.out)) (by decide) hg); have n1_ := Aside0.mk (hb); have n2_ := Aside0.mk (ho); clear HO_46; clear HB; clear HO_19; have HO_46 := n0_; have HB := n1_; have HO155 := n2_; clear n0_ n1_ n2_; clear ho hb hg hat)); try go_wp2_with (first | (go_at_call 15; (with_reducible refine (class_Of.calls k1 (rd l0 x21_1) a4 t152 _ A34.out).mono ?_); rintro e w' ⟨rfl, ⟨nd, rfl⟩⟩; (try first | exact ⟨rfl, _, World.drewN_drewN _ _ _⟩ | exact ⟨rfl, _, Eq.trans (World.drewN_drewN _ _ _) (congrArg (World.drewN _) (Nat.add_assoc _ _ _))⟩)) | ((with_reducible refine gate_builtin (b := .append) (xs := #[.tmp 65, .tmp 76]) rfl ?_); at_builtin; refine Kd.R_append k76 (w0 := w) w.heap.size rfl (.tmp 65) (.tmp 76) 73 76 (.agg #[(.int .i64 0), (.int .i64 0), (.bool false)]) 24 rfl Tryd.underlying73 info76 rfl (by decide) (by omega) u19 x19_1 (⟨x21_1, wrap64 (t132 + (rd t137 x48_1)), (t152 == 0)⟩ : S76) [.int .i64 x21_1, .int .i64 (wrap64 (t132 + (rd t137 x48_1))), .bool (t152 == 0)] (fun _ => True) (fun _ => False) rfl rfl ?aP (fun _ hk => hk.elim) ?aF ?aO ?aB ?aS ?aL ?_; (case aP => exact k76_mkM _ _ _ (⟨x21_1, wrap64 (t132 + (rd t137 x48_1)), (t152 == 0)⟩ : S76)); (case aB => exact (by repeat (first | (with_reducible first | exact HB.out | apply below_alloc | apply pw_below_drewN | apply below_drew1) | exact HB.out))); (case aF => exact (fun _ _ => trivial)); (case aO => exact (by (with_reducible repeat (first | apply Kd.R_alloc | apply Kd.R_drewN | apply Kd.R_drew)); exact HO_19.out)); (case aS => exact (below_size (by repeat (first | (with_reducible first | exact HB.out | apply below_alloc | apply pw_below_drewN | apply below_drew1) | exact HB.out)))); (case aL => have := LMc35.out; omega); intro v154 w36 ho hb hg hat; rw [← Ny153.out] at ho; have n0_ := Aside0.mk (Kd.R_over' (by (with_reducible repeat (first | apply Kd.R_alloc | apply Kd.R_drewN | apply Kd.R_drew)); exact HO_46.out) (Kd.R_typed (by (with_reducible repeat (first | apply Kd.R_alloc | apply Kd.R_drewN | apply Kd.R_drew)); exact HO_19.out)) (by decide) hg); have n1_ := Aside0.mk (hb); have n2_ := Aside0.mk (ho); clear HO_46; clear HB; clear HO_19; have HO_46 := n0_; have HB := n1_; have HO155 := n2_; clear n0_ n1_ n2_; clear ho hb hg hat)))
                          go_roundg k1
                          case measure => have := HK1.out; omega
                          case rel => exact ⟨(y153), (x20_1), (wrap64 (t132 + (rd t137 x48_1))), (wrap64 (x48_1 + 1)), (by first | rfl | (simp; done) | (simp [*]; done)), (by first | rfl | (simp; done) | (simp [*]; done)), (by first | rfl | (simp; done) | (simp [*]; done)), H', ⟨by have := HK1.out; omega⟩, ⟨by (with_reducible repeat (first | apply Kd.R_alloc | apply Kd.R_drewN | apply Kd.R_drew)); exact HO155.out⟩, ⟨by (with_reducible repeat (first | apply Kd.R_alloc | apply Kd.R_drewN | apply Kd.R_drew)); exact HO_46.out⟩, ⟨by repeat (first | (with_reducible first | exact HB.out | apply below_alloc | apply pw_below_drewN | apply below_drew1) | exact HB.out)⟩⟩
                        · rw [if_neg c35] at H
                          exact absurd H (by simp)
                      · rw [if_neg c33] at H
                        exact absurd H (by simp)
                    · rw [if_neg c32] at H
                      exact absurd H (by simp)
                · rw [if_neg c18] at H
                  exact absurd H (by simp)
              · rw [if_neg c17] at H
                exact absurd H (by simp)
            · rw [if_neg c16] at H
              have c16b0 : decide (x48_1 < (t137.length : Int)) = false := decide_eq_false c16
              clear c16
              by_cases c37 : x20_1 < 0
              · rw [if_pos c37] at H
                have c37b0 : decide (x20_1 < 0) = true := decide_eq_true c37
                clear c37
                simp only [Option.some.injEq, Prod.mk.injEq] at H
                obtain ⟨rfl, rfl, rfl⟩ := H
                go_wp2
                repeat (go_quiet (fail); try go_wp2)
                go_ret3
                exact ⟨by first | rfl | (simp [errW_none, errW_some] <;> rfl) | (simp [*, errW_none, errW_some] <;> rfl), by repeat (first | (with_reducible first | exact HB.out | apply below_alloc | apply pw_below_drewN | apply below_drew1) | exact HB.out)⟩
              · rw [if_neg c37] at H
                have c37b0 : decide (x20_1 < 0) = false := decide_eq_false c37
                clear c37
                replace H := Option.bind_eq_some_iff.mp H
                obtain ⟨⟨t156, t157, t158⟩, A380, H⟩ := H
                replace H : (if t158 = true then (if 0 ≤ t156 then (if t156 < (x19_1.length : Int) then (if 0 ≤ (wrap64 (t157 - 1)) then (if (wrap64 (t157 - 1)) < (x19_1.length : Int) then (some ((rd_T76 x19_1 t156).f0, (rd_T76 x19_1 (wrap64 (t157 - 1))).f1, true)) else (none)) else (none)) else (none)) else (none)) else (some (0, 0, false))) = some (r1, r2, r3) := H
                have A38 := Aside0.mk A380
                clear A380
                by_cases c39 : t158 = true
                · subst c39
                  have H1 : (if 0 ≤ t156 then (if t156 < (x19_1.length : Int) then (if 0 ≤ (wrap64 (t157 - 1)) then (if (wrap64 (t157 - 1)) < (x19_1.length : Int) then (some ((rd_T76 x19_1 t156).f0, (rd_T76 x19_1 (wrap64 (t157 - 1))).f1, true)) else (none)) else (none)) else (none)) else (none)) = some (r1, r2, r3) := by rw [if_pos rfl] at H; exact H
                  clear H
                  have H := H1
                  clear H1
                  by_cases c40 : 0 ≤ t156
                  · rw [if_pos c40] at H
                    have c40b0 : decide (0 ≤ t156) = true := decide_eq_true c40
                    clear c40
                    by_cases c41 : t156 < (x19_1.length : Int)
                    · rw [if_pos c41] at H
                      have c41b0 : decide (t156 < (x19_1.length : Int)) = true := decide_eq_true c41
                      clear c41
                      obtain ⟨ji42, hji42⟩ : ∃ j_ : Int, (wrap64 (t157 - 1)) = j_ := ⟨_, rfl⟩
                      replace H : (if 0 ≤ (ji42) then (if (ji42) < (x19_1.length : Int) then (some ((rd_T76 x19_1 t156).f0, (rd_T76 x19_1 (ji42)).f1, true)) else (none)) else (none)) = some (r1, r2, r3) := by first | (rw [hji42] at H; exact H) | (simp only [hji42] at H ⊢; exact H)
                      (try rw [hji42] at A38)
                      have hji42w : (IntKind.i64.wrap (t157 - 1)) = ji42 := (i64_w _).trans hji42
                      by_cases c43 : 0 ≤ (ji42)
                      · rw [if_pos c43] at H
                        have c43b0 : decide (0 ≤ (ji42)) = true := decide_eq_true c43
                        clear c43
                        by_cases c44 : (ji42) < (x19_1.length : Int)
                        · rw [if_pos c44] at H
                          have c44b0 : decide ((ji42) < (x19_1.length : Int)) = true := decide_eq_true c44
                          clear c44
                          simp only [Option.some.injEq, Prod.mk.injEq] at H
                          obtain ⟨rfl, rfl, rfl⟩ := H
                          obtain ⟨Ao45, co45, eo45⟩ := Kd.R_slice HO_19.out
                          subst eo45
                          go_wp2_with (first | (go_at_call 47; (with_reducible refine (object_taken.calls k1 _ _ x19_1 x20_1 a3 a5 t156 t157 true _ ?side1 ?side2 A38.out).mono ?_); (case side1 => repeat (first | exact (Kd.R_reads' HO_19.out).2.2 | (with_reducible refine Kd.C_alloc ?_ _) | (with_reducible refine Kd.C_drewN ?_ _) | (with_reducible refine Kd.C_drew ?_))); (case side2 => exact (Kd.R_reads' HO_19.out).2.1); rintro e w' ⟨rfl, ⟨nd, rfl⟩⟩; (try first | exact ⟨rfl, _, World.drewN_drewN _ _ _⟩ | exact ⟨rfl, _, Eq.trans (World.drewN_drewN _ _ _) (congrArg (World.drewN _) (Nat.add_assoc _ _ _))⟩); have p159 : 0 ≤ (t156 : Int) := of_decide_eq_true (by first | (with_reducible assumption) | assumption); have q159 : t156 < (x19_1.length : Int) := of_decide_eq_true (by first | (with_reducible assumption) | assumption); obtain ⟨ad159, e159, hx159_0, hx159_1, hx159_2⟩ := at_T76 (Kd.R_reads' HO_19.out).2.2 t156 p159 q159; cases e159; replace p159 := eq_true p159; replace q159 := eq_true q159; have p160 : 0 ≤ ((ji42) : Int) := of_decide_eq_true (by first | (with_reducible assumption) | assumption); have q160 : (ji42) < (x19_1.length : Int) := of_decide_eq_true (by first | (with_reducible assumption) | assumption); obtain ⟨ad160, e160, hx160_0, hx160_1, hx160_2⟩ := at_T76 (Kd.R_reads' HO_19.out).2.2 (ji42) p160 q160; obtain rfl : ad159 = ad160 := (by injection e160); replace p160 := eq_true p160; replace q160 := eq_true q160))
                          repeat (go_quiet (first | (go_at_call 47; (with_reducible refine (object_taken.calls k1 _ _ x19_1 x20_1 a3 a5 t156 t157 true _ ?side1 ?side2 A38.out).mono ?_); (case side1 => repeat (first | exact (Kd.R_reads' HO_19.out).2.2 | (with_reducible refine Kd.C_alloc ?_ _) | (with_reducible refine Kd.C_drewN ?_ _) | (with_reducible refine Kd.C_drew ?_))); (case side2 => exact (Kd.R_reads' HO_19.out).2.1); rintro e w' ⟨rfl, ⟨nd, rfl⟩⟩; (try first | exact ⟨rfl, _, World.drewN_drewN _ _ _⟩ | exact ⟨rfl, _, Eq.trans (World.drewN_drewN _ _ _) (congrArg (World.drewN _) (Nat.add_assoc _ _ _))⟩); have p159 : 0 ≤ (t156 : Int) := of_decide_eq_true (by first | (with_reducible assumption) | assumption); have q159 : t156 < (x19_1.length : Int) := of_decide_eq_true (by first | (with_reducible assumption) | assumption); obtain ⟨ad159, e159, hx159_0, hx159_1, hx159_2⟩ := at_T76 (Kd.R_reads' HO_19.out).2.2 t156 p159 q159; cases e159; replace p159 := eq_true p159; replace q159 := eq_true q159; have p160 : 0 ≤ ((ji42) : Int) := of_decide_eq_true (by first | (with_reducible assumption) | assumption); have q160 : (ji42) < (x19_1.length : Int) := of_decide_eq_true (by first | (with_reducible assumption) | assumption); obtain ⟨ad160, e160, hx160_0, hx160_1, hx160_2⟩ := at_T76 (Kd.R_reads' HO_19.out).2.2 (ji42) p160 q160; obtain rfl : ad159 = ad160 := (by injection e160); replace p160 := eq_true p160; replace q160 := eq_true q160)); try go_wp2_with (first | (go_at_call 47; (with_reducible refine (object_taken.calls k1 _ _ x19_1 x20_1 a3 a5 t156 t157 true _ ?side1 ?side2 A38.out).mono ?_); (case side1 => repeat (first | exact (Kd.R_reads' HO_19.out).2.2 | (with_reducible refine Kd.C_alloc ?_ _) | (with_reducible refine Kd.C_drewN ?_ _) | (with_reducible refine Kd.C_drew ?_))); (case side2 => exact (Kd.R_reads' HO_19.out).2.1); rintro e w' ⟨rfl, ⟨nd, rfl⟩⟩; (try first | exact ⟨rfl, _, World.drewN_drewN _ _ _⟩ | exact ⟨rfl, _, Eq.trans (World.drewN_drewN _ _ _) (congrArg (World.drewN _) (Nat.add_assoc _ _ _))⟩); have p159 : 0 ≤ (t156 : Int) := of_decide_eq_true (by first | (with_reducible assumption) | assumption); have q159 : t156 < (x19_1.length : Int) := of_decide_eq_true (by first | (with_reducible assumption) | assumption); obtain ⟨ad159, e159, hx159_0, hx159_1, hx159_2⟩ := at_T76 (Kd.R_reads' HO_19.out).2.2 t156 p159 q159; cases e159; replace p159 := eq_true p159; replace q159 := eq_true q159; have p160 : 0 ≤ ((ji42) : Int) := of_decide_eq_true (by first | (with_reducible assumption) | assumption); have q160 : (ji42) < (x19_1.length : Int) := of_decide_eq_true (by first | (with_reducible assumption) | assumption); obtain ⟨ad160, e160, hx160_0, hx160_1, hx160_2⟩ := at_T76 (Kd.R_reads' HO_19.out).2.2 (ji42) p160 q160; obtain rfl : ad159 = ad160 := (by injection e160); replace p160 := eq_true p160; replace q160 := eq_true q160)))
                          go_ret3
                          exact ⟨by first | rfl | (simp [errW_none, errW_some] <;> rfl) | (simp only [← hji42]; first | rfl | (simp [errW_none, errW_some] <;> rfl)) | (simp [*, errW_none, errW_some] <;> rfl), by repeat (first | (with_reducible first | exact HB.out | apply below_alloc | apply pw_below_drewN | apply below_drew1) | exact HB.out)⟩
                        · rw [if_neg c44] at H
                          exact absurd H (by simp)
                      · rw [if_neg c43] at H
                        exact absurd H (by simp)
                    · rw [if_neg c41] at H
                      exact absurd H (by simp)
                  · rw [if_neg c40] at H
                    exact absurd H (by simp)
                · replace c39 := Bool.eq_false_iff.mpr c39
                  subst c39
                  have H1 : (some (0, 0, false)) = some (r1, r2, r3) := by rw [if_neg (show ¬ (false = true) by decide)] at H; exact H
                  clear H
                  have H := H1
                  clear H1
                  simp only [Option.some.injEq, Prod.mk.injEq] at H
                  obtain ⟨rfl, rfl, rfl⟩ := H
                  obtain ⟨Ao46, co46, eo46⟩ := Kd.R_slice HO_19.out
                  subst eo46
                  go_wp2_with (first | (go_at_call 47; (with_reducible refine (object_taken.calls k1 _ _ x19_1 x20_1 a3 a5 t156 t157 false _ ?side1 ?side2 A38.out).mono ?_); (case side1 => repeat (first | exact (Kd.R_reads' HO_19.out).2.2 | (with_reducible refine Kd.C_alloc ?_ _) | (with_reducible refine Kd.C_drewN ?_ _) | (with_reducible refine Kd.C_drew ?_))); (case side2 => exact (Kd.R_reads' HO_19.out).2.1); rintro e w' ⟨rfl, ⟨nd, rfl⟩⟩; (try first | exact ⟨rfl, _, World.drewN_drewN _ _ _⟩ | exact ⟨rfl, _, Eq.trans (World.drewN_drewN _ _ _) (congrArg (World.drewN _) (Nat.add_assoc _ _ _))⟩)))
                  repeat (go_quiet (first | (go_at_call 47; (with_reducible refine (object_taken.calls k1 _ _ x19_1 x20_1 a3 a5 t156 t157 false _ ?side1 ?side2 A38.out).mono ?_); (case side1 => repeat (first | exact (Kd.R_reads' HO_19.out).2.2 | (with_reducible refine Kd.C_alloc ?_ _) | (with_reducible refine Kd.C_drewN ?_ _) | (with_reducible refine Kd.C_drew ?_))); (case side2 => exact (Kd.R_reads' HO_19.out).2.1); rintro e w' ⟨rfl, ⟨nd, rfl⟩⟩; (try first | exact ⟨rfl, _, World.drewN_drewN _ _ _⟩ | exact ⟨rfl, _, Eq.trans (World.drewN_drewN _ _ _) (congrArg (World.drewN _) (Nat.add_assoc _ _ _))⟩))); try go_wp2_with (first | (go_at_call 47; (with_reducible refine (object_taken.calls k1 _ _ x19_1 x20_1 a3 a5 t156 t157 false _ ?side1 ?side2 A38.out).mono ?_); (case side1 => repeat (first | exact (Kd.R_reads' HO_19.out).2.2 | (with_reducible refine Kd.C_alloc ?_ _) | (with_reducible refine Kd.C_drewN ?_ _) | (with_reducible refine Kd.C_drew ?_))); (case side2 => exact (Kd.R_reads' HO_19.out).2.1); rintro e w' ⟨rfl, ⟨nd, rfl⟩⟩; (try first | exact ⟨rfl, _, World.drewN_drewN _ _ _⟩ | exact ⟨rfl, _, Eq.trans (World.drewN_drewN _ _ _) (congrArg (World.drewN _) (Nat.add_assoc _ _ _))⟩))))
                  go_ret3
                  exact ⟨by first | rfl | (simp [errW_none, errW_some] <;> rfl) | (simp [*, errW_none, errW_some] <;> rfl), by repeat (first | (with_reducible first | exact HB.out | apply below_alloc | apply pw_below_drewN | apply below_drew1) | exact HB.out)⟩
      · rw [if_neg c11] at H
        exact absurd H (by simp)
    · rw [if_neg c10] at H
      exact absurd H (by simp)
  · rw [if_neg c9] at H
    exact absurd H (by simp)

end Go.Proofs.YtcochbkdgjgaeaaDoor.X
end
section
namespace Go.Proofs.YtcochbkdgjgaeaaDoor.OB
open Go.RowKit Go.Proofs.YtcochbkdgjgaeaaDoorW.PrintWords Go.Proofs.YtcochbkdgjgaeaaDoorW.PrintMore Go.Proofs.YtcochbkdgjgaeaaDoor.X Go.Proofs.YtcochbkdgjgaeaaDoor.XL Go.Proofs.YtcochbkdgjgaeaaDoor.XO Go.Proofs.YtcochbkdgjgaeaaDoor.LN
def cls (b : Int) (big : Bool) : Int :=
  if b = 10 then 3 else if b = 32 ∨ b = 9 then 0 else if big = true ∨ (97 ≤ b ∧ b ≤ 122) ∨ (65 ≤ b ∧ b ≤ 90) ∨ (48 ≤ b ∧ b ≤ 57) ∨ b = 95 ∨ 128 ≤ b then 2 else 1
theorem cls_ten (b : Int) (big : Bool) : cls b big = 3 ↔ b = 10 := by
  unfold cls
  by_cases h : b = 10
  · rw [if_pos h]; exact ⟨fun _ => h, fun _ => rfl⟩
  · rw [if_neg h]
    refine ⟨fun e => ?_, fun e => absurd e h⟩
    split at e
    · exact absurd e (by decide)
    · split at e <;> exact absurd e (by decide)
theorem cls_ev (b : Int) (big : Bool) : Ev (fun k => class_Of.f k b big) (cls b big) := by
  have hj : ∀ f : Bool, (f = true ↔ (b = 32 ∨ b = 9)) → b ≠ 10 → Ev (fun k => class_Of.j0 k b big f) (cls b big) := by
    intro f hf h10
    refine Ev.step (fun _ => class_Of.j0.eq_2 ..) ?_
    rw [show cls b big = if b = 32 ∨ b = 9 then 0 else if big = true ∨ (97 ≤ b ∧ b ≤ 122) ∨ (65 ≤ b ∧ b ≤ 90) ∨ (48 ≤ b ∧ b ≤ 57) ∨ b = 95 ∨ 128 ≤ b then 2 else 1 from if_neg h10]
    cases f with
    | true => exact Ev.eq (Ev.pos rfl (Ev.now 0)) (if_pos (hf.1 rfl)).symm
    | false =>
      have hn : ¬ (b = 32 ∨ b = 9) := fun h => by have := hf.2 h; cases this
      refine Ev.eq (r := if big = true ∨ (97 ≤ b ∧ b ≤ 122) ∨ (65 ≤ b ∧ b ≤ 90) ∨ (48 ≤ b ∧ b ≤ 57) ∨ b = 95 ∨ 128 ≤ b then 2 else 1) (Ev.neg Bool.false_ne_true ?_) (if_neg hn).symm
      by_cases hb : big = true
      · exact Ev.eq (Ev.pos hb (Ev.now 2)) (if_pos (.inl hb)).symm
      refine Ev.neg hb ?_
      by_cases hs : 97 ≤ b ∧ b ≤ 122
      · exact Ev.eq (Ev.cbind (show class_small.f b = some true by unfold class_small.f; rw [if_pos hs.1, decide_eq_true hs.2]) (Ev.pos rfl (Ev.now 2))) (if_pos (.inr (.inl hs))).symm
      have hs' : class_small.f b = some false := by
        unfold class_small.f
        by_cases h1 : b ≥ 97
        · rw [if_pos h1, decide_eq_false (by omega)]
        · rw [if_neg h1]
      refine Ev.cbind hs' (Ev.neg Bool.false_ne_true ?_)
      by_cases hg : 65 ≤ b ∧ b ≤ 90
      · exact Ev.eq (Ev.cbind (show class_great.f b = some true by unfold class_great.f; rw [if_pos hg.1, decide_eq_true hg.2]) (Ev.pos rfl (Ev.now 2))) (if_pos (.inr (.inr (.inl hg)))).symm
      have hg' : class_great.f b = some false := by
        unfold class_great.f
        by_cases h1 : b ≥ 65
        · rw [if_pos h1, decide_eq_false (by omega)]
        · rw [if_neg h1]
      refine Ev.cbind hg' (Ev.neg Bool.false_ne_true ?_)
      by_cases hd : 48 ≤ b ∧ b ≤ 57
      · exact Ev.eq (Ev.pos hd.1 (Ev.pos hd.2 (Ev.now 2))) (if_pos (.inr (.inr (.inr (.inl hd))))).symm
      by_cases hu : b = 95
      · exact Ev.eq (Ev.pos (show b ≥ 48 by omega) (Ev.neg (show ¬ b ≤ 57 by omega) (Ev.pos hu (Ev.now 2)))) (if_pos (.inr (.inr (.inr (.inr (.inl hu)))))).symm
      by_cases h8 : 128 ≤ b
      · exact Ev.eq (Ev.pos (show b ≥ 48 by omega) (Ev.neg (show ¬ b ≤ 57 by omega) (Ev.neg hu (Ev.pos h8 (Ev.now 2))))) (if_pos (.inr (.inr (.inr (.inr (.inr h8)))))).symm
      have hno : ¬ (big = true ∨ (97 ≤ b ∧ b ≤ 122) ∨ (65 ≤ b ∧ b ≤ 90) ∨ (48 ≤ b ∧ b ≤ 57) ∨ b = 95 ∨ 128 ≤ b) := by
        rintro (h | h | h | h | h | h)
        · exact hb h
        · exact hs h
        · exact hg h
        · exact hd h
        · exact hu h
        · exact h8 h
      by_cases h4 : b ≥ 48
      · exact Ev.eq (Ev.pos h4 (Ev.neg (show ¬ b ≤ 57 by omega) (Ev.neg hu (Ev.neg h8 (Ev.now 1))))) (if_neg hno).symm
      · exact Ev.eq (Ev.neg h4 (Ev.neg hu (Ev.neg h8 (Ev.now 1)))) (if_neg hno).symm
  by_cases h10 : b = 10
  · exact Ev.eq (Ev.pos h10 (Ev.now 3)) (if_pos h10).symm
  refine Ev.neg h10 ?_
  by_cases h3 : b = 32
  · exact Ev.pos h3 (hj true ⟨fun _ => .inl h3, fun _ => rfl⟩ h10)
  · refine Ev.neg h3 (hj _ ?_ h10)
    rw [beq_iff_eq]
    exact ⟨.inr, fun h => h.elim (fun h => absurd h h3) id⟩
/-- A chain of stretches from s to e: each of one class, the next one's another. -/
def Ch (C : Nat → Int) (e : Nat) : Nat → List S76 → Prop
  | s, [] => s = e
  | s, x :: xs => ∃ n : Nat, x.f0 = (s : Int) ∧ x.f1 = (n : Int) ∧ s < n ∧ n ≤ e ∧ (∀ j, s ≤ j → j < n → C j = C s) ∧ (n < e → C n ≠ C s) ∧ x.f2 = (C s == 0) ∧ Ch C e n xs
theorem Ch_le {C : Nat → Int} {e : Nat} : ∀ {L : List S76} {s : Nat}, Ch C e s L → s ≤ e
  | [], _, h => Nat.le_of_eq h
  | _ :: _, _, ⟨_, _, _, h1, h2, _⟩ => by omega
theorem Ch_mem {C : Nat → Int} {e : Nat} : ∀ {L : List S76} {s : Nat}, Ch C e s L → ∀ y ∈ L, (s : Int) ≤ y.f0 ∧ y.f0 < y.f1 ∧ y.f1 ≤ e
  | [], _, _, _, hy => by cases hy
  | x :: xs, s, ⟨n, h0, h1, h2, h3, _, _, _, h⟩, y, hy => by
    rcases List.mem_cons.1 hy with rfl | hy
    · omega
    · have := Ch_mem h y hy
      omega
/-- A chain cut in two: where the second part begins. -/
theorem Ch_split {C : Nat → Int} {e : Nat} : ∀ {A B : List S76} {s : Nat}, Ch C e s (A ++ B) → ∃ m : Nat, s ≤ m ∧ m ≤ e ∧ (∀ y ∈ A, (s : Int) ≤ y.f0 ∧ y.f0 < y.f1 ∧ y.f1 ≤ m) ∧ Ch C e m B ∧ ((A = [] ∧ m = s) ∨ (s < m ∧ (m < e → C (m - 1) ≠ C m)))
  | [], B, s, h => ⟨s, Nat.le_refl _, Ch_le h, fun _ hy => by (cases hy), h, .inl ⟨rfl, rfl⟩⟩
  | x :: A, B, s, ⟨n, h0, h1, h2, h3, h4, h5, _, h⟩ => by
    obtain ⟨m, m1, m2, m3, m4, m5⟩ := Ch_split h
    refine ⟨m, by omega, m2, ?_, m4, .inr ⟨by omega, fun hm => ?_⟩⟩
    · intro y hy
      rcases List.mem_cons.1 hy with rfl | hy
      · omega
      · have := m3 y hy; omega
    · rcases m5 with ⟨_, rfl⟩ | ⟨_, m6⟩
      · rw [h4 (m - 1) (by omega) (by omega)]
        exact fun he => h5 hm he.symm
      · exact m6 hm
/-- Every place of the chain's stands in one stretch. -/
theorem Ch_at {C : Nat → Int} {e p : Nat} : ∀ {L : List S76} {s : Nat}, Ch C e s L → s ≤ p → p < e → ∃ A x B, L = A ++ x :: B ∧ x.f0 ≤ (p : Int) ∧ (p : Int) < x.f1
  | [], s, h, h1, h2 => by have h : s = e := h; omega
  | x :: xs, s, ⟨n, h0, h1, h2, h3, _, _, _, h⟩, hp, he => by
    by_cases hn : p < n
    · exact ⟨[], x, xs, rfl, by omega, by omega⟩
    · obtain ⟨A, y, B, e1, e2, e3⟩ := Ch_at h (by omega) he
      exact ⟨x :: A, y, B, by rw [e1]; rfl, e2, e3⟩
/-- The number of the stretch that holds a place. -/
def fk (p : Int) : Int → Nat → List S76 → Int
  | kx, _, [] => kx
  | kx, j, x :: xs => fk p (if x.f0 ≤ p ∧ p < x.f1 then (j : Int) else kx) (j + 1) xs
theorem fk_no {p : Int} : ∀ {L : List S76} {kx : Int} {j : Nat}, (∀ y ∈ L, ¬ (y.f0 ≤ p ∧ p < y.f1)) → fk p kx j L = kx
  | [], _, _, _ => rfl
  | x :: xs, kx, j, h => by
    unfold fk
    rw [if_neg (h x List.mem_cons_self)]
    exact fk_no (fun y hy => h y (List.mem_cons_of_mem _ hy))
theorem fk_append {p : Int} : ∀ {A B : List S76} {kx : Int} {j : Nat}, fk p kx j (A ++ B) = fk p (fk p kx j A) (j + A.length) B
  | [], _, _, _ => rfl
  | x :: A, B, kx, j => by
    rw [List.cons_append]
    unfold fk
    rw [fk_append, List.length_cons, show j + 1 + A.length = j + (A.length + 1) from by omega]
    rw [show fk p kx j (x :: A) = fk p (if x.f0 ≤ p ∧ p < x.f1 then (j : Int) else kx) (j + 1) A from by rw [fk]]
    cases B <;> simp only [fk]
theorem fk_at {C : Nat → Int} {e p : Nat} {A B : List S76} {x : S76} {s : Nat} {kx : Int} (h : Ch C e s (A ++ x :: B)) (h1 : x.f0 ≤ (p : Int)) (h2 : (p : Int) < x.f1) : fk (p : Int) kx 0 (A ++ x :: B) = (A.length : Int) := by
  obtain ⟨m, m1, m2, m3, ⟨n, n0, n1, n2, n3, _, _, _, hB⟩, _⟩ := Ch_split h
  rw [fk_append]
  rw [fk, if_pos ⟨h1, h2⟩, fk_no (fun y hy => by have := Ch_mem hB y hy; omega), Nat.zero_add]
theorem rd_mid {A B : List S76} {x : S76} : rd_T76 (A ++ x :: B) (A.length : Int) = x := by
  unfold rd_T76
  rw [Int.toNat_natCast]
  exact getD_mid _ _ _ _
/-! ### A line's runs of bytes -/
section
variable (t : List Int) (big : Bool)
def cl (j : Nat) : Int := cls (t.getD j 0) big
/-- The runs' ends, from place i on. -/
def ends (e : Nat) : Nat → Nat → List Nat
  | _, 0 => []
  | i, d + 1 => if i + 1 = e ∨ cl t big i ≠ cl t big (i + 1) then (i + 1) :: ends e (i + 1) d else ends e (i + 1) d
def mk : Nat → List Nat → List S76
  | _, [] => []
  | f, n :: ns => ⟨(f : Int), (n : Int), cl t big f == 0⟩ :: mk n ns
end
section
variable {t : List Int} {big : Bool}
theorem mk_chain {e : Nat} : ∀ (d i f : Nat), i + d = e → f ≤ i → (i = e → f = e) → (∀ j, f ≤ j → j ≤ i → j < e → cl t big j = cl t big f) → Ch (cl t big) e f (mk t big f (ends t big e i d)) := by
  intro d
  induction d with
  | zero => intro i f hi hf h1 _; exact h1 (by omega)
  | succ d ih =>
    intro i f hi hf h1 h2
    unfold ends
    by_cases h : i + 1 = e ∨ cl t big i ≠ cl t big (i + 1)
    · rw [if_pos h]
      unfold mk
      have hci := h2 i hf (Nat.le_refl _) (by omega)
      refine ⟨i + 1, rfl, rfl, by omega, by omega, fun j a b => h2 j a (by omega) (by omega), fun hn => ?_, rfl, ?_⟩
      · rcases h with h | h
        · omega
        · rw [← hci]; exact fun e => h e.symm
      · exact ih (i + 1) (i + 1) (by omega) (Nat.le_refl _) (fun e => e) (fun j a b _ => by rw [show j = i + 1 from by omega])
    · rw [if_neg h]
      have hne : i + 1 ≠ e := fun e => h (.inl e)
      have heq : cl t big i = cl t big (i + 1) := by
        by_cases q : cl t big i = cl t big (i + 1)
        · exact q
        · exact absurd (.inr q) h
      refine ih (i + 1) f (by omega) (by omega) (fun e => absurd e hne) (fun j a b c => ?_)
      by_cases hj : j ≤ i
      · exact h2 j a hj c
      · rw [show j = i + 1 from by omega, ← heq]
        exact h2 i hf (Nat.le_refl _) (by omega)
theorem ends_len {e : Nat} : ∀ (d i : Nat), (ends t big e i d).length ≤ d := by
  intro d
  induction d with
  | zero => intro i; exact Nat.le_refl _
  | succ d ih =>
    intro i
    unfold ends
    have := ih (i + 1)
    split
    · rw [List.length_cons]; omega
    · omega
theorem ends_le {e : Nat} : ∀ (d i : Nat), i + d = e → ∀ n ∈ ends t big e i d, i < n ∧ n ≤ e := by
  intro d
  induction d with
  | zero => intro i _ n hn; cases hn
  | succ d ih =>
    intro i hi n hn
    unfold ends at hn
    split at hn
    · rcases List.mem_cons.1 hn with rfl | hn
      · omega
      · have := ih (i + 1) (by omega) n hn; omega
    · have := ih (i + 1) (by omega) n hn; omega
theorem seg_at {s e j : Nat} (hj : s + j < e) : rd ((t.take e).drop s) (j : Int) = t.getD (s + j) 0 := by
  unfold rd
  rw [Int.toNat_natCast, getD_drop, List.getD_eq_getElem?_getD, List.getElem?_take_of_lt (by omega), ← List.getD_eq_getElem?_getD]
theorem Runs_l0 {s e : Nat} (hs : s ≤ e) (he : e ≤ t.length) (hl : t.length ≤ 1048576) : ∀ (d i : Nat) (acc : List Int), s + i + d = e → acc.length ≤ i → Ev (fun k => class_Runs.l0 k ((t.take e).drop s) big acc ((e - s : Nat) : Int) (i : Int)) (acc ++ (ends t big e (s + i) d).map fun n : Nat => (n : Int) - s) := by
  have hlen : ((t.take e).drop s).length = e - s := by rw [List.length_drop, List.length_take]; omega
  intro d
  induction d with
  | zero =>
    intro i acc hi _
    refine Ev.step (fun _ => class_Runs.l0.eq_2 ..) (Ev.neg (by omega) ?_)
    rw [show ends t big e (s + i) 0 = [] from rfl, List.map_nil, List.append_nil]
    exact Ev.now _
  | succ d ih =>
    intro i acc hi ha
    have hw : wrap64 ((i : Int) + 1) = ((i + 1 : Nat) : Int) := by rw [wrap64_id (by omega) (by omega)]; omega
    refine Ev.step (fun _ => class_Runs.l0.eq_2 ..) (Ev.pos (by omega) ?_)
    rw [hw, hlen]
    clear hw
    have push : (s + i + 1 = e ∨ cl t big (s + i) ≠ cl t big (s + i + 1)) → Ev (fun k => if acc.length < 17592186044416 then (class_Runs.l0 k ((t.take e).drop s) big (acc ++ [((i + 1 : Nat) : Int)]) ((e - s : Nat) : Int) ((i + 1 : Nat) : Int)) else none) (acc ++ (ends t big e (s + i) (d + 1)).map fun n : Nat => (n : Int) - s) := by
      intro h
      refine Ev.pos (by omega) ?_
      have h2 := ih (i + 1) (acc ++ [((i + 1 : Nat) : Int)]) (by omega) (by simp; omega)
      unfold ends
      rw [if_pos h, List.map_cons, show ((s + i + 1 : Nat) : Int) - (s : Int) = ((i + 1 : Nat) : Int) from by omega]
      rw [List.append_assoc] at h2
      exact h2
    by_cases h1 : s + i + 1 = e
    · exact Ev.pos (by omega) (push (.inl h1))
    · refine Ev.neg (by omega) (Ev.pos (by omega) (Ev.pos (by omega) ?_))
      have c1 : Ev (fun k => class_Of.f k (rd ((t.take e).drop s) (i : Int)) big) (cl t big (s + i)) := Ev.eq (cls_ev _ _) (by unfold cl; rw [seg_at (by omega)])
      have c2 : Ev (fun k => class_Of.f k (rd ((t.take e).drop s) ((i + 1 : Nat) : Int)) big) (cl t big (s + i + 1)) := Ev.eq (cls_ev _ _) (by unfold cl; rw [seg_at (by omega)]; rfl)
      refine Ev.bind c1 (Ev.pos (by omega) (Ev.pos (by omega) (Ev.bind c2 ?_)))
      by_cases h2 : cl t big (s + i) = cl t big (s + i + 1)
      · refine Ev.pos h2 ?_
        have h3 := ih (i + 1) acc (by omega) (by omega)
        unfold ends
        rw [if_neg (fun h => h.elim h1 (fun h => h h2))]
        exact h3
      · exact Ev.neg h2 (push (.inr h2))
theorem Runs_ev {s e : Nat} (hs : s ≤ e) (he : e ≤ t.length) (hl : t.length ≤ 1048576) : Ev (fun k => class_Runs.f k ((t.take e).drop s) big) ((ends t big e s (e - s)).map fun n : Nat => (n : Int) - s) := by
  have hlen : ((t.take e).drop s).length = e - s := by rw [List.length_drop, List.length_take]; omega
  have h := Runs_l0 (big := big) hs he hl (e - s) 0 [] (by omega) (Nat.le_refl _)
  show Ev (fun k => class_Runs.l0 k ((t.take e).drop s) big [] (((t.take e).drop s).length : Int) 0) _
  rw [hlen]
  exact h
/-- What an object takes of a list. -/
def outW (L : List S76) (r : Int × Int × Bool) : Int × Int × Bool := if r.2.2 = true then ((rd_T76 L r.1).f0, (rd_T76 L (r.2.1 - 1)).f1, true) else (0, 0, false)
/-- words' loop: the stretches are laid, and at's is found; then taken has the word. -/
theorem words_l0 {s e p : Nat} {c : Int} {around : Bool} (he : e ≤ t.length) (hl : t.length ≤ 1048576) {xs : List Int} {L0 : List S76} {r : Int × Int × Bool} {kf : Int}
    (fin0 : kf < 0 → r = (0, 0, false))
    (fin1 : ¬ kf < 0 → ∃ q : Int × Int × Bool, Ev (fun k => object_taken.f k L0 kf c around) q ∧ (q.2.2 = true → (0 ≤ q.1 ∧ q.1 < L0.length) ∧ 1 ≤ q.2.1 ∧ q.2.1 ≤ L0.length) ∧ r = outW L0 q) :
    ∀ (suf : List Nat) (pre : List Int) (L : List S76) (kx : Int) (f : Nat), xs = pre ++ suf.map (fun n : Nat => (n : Int) - s) → xs.length ≤ 1048576 → L.length = pre.length → (∀ n ∈ suf, n ≤ e) → s ≤ e → (suf ≠ [] → f < e) → L ++ mk t big f suf = L0 → fk (p : Int) kx L.length (mk t big f suf) = kf →
      (∀ n ns, suf = n :: ns → f < n) → (∀ a ns, suf = a :: ns → List.Pairwise (· < ·) suf) →
      Ev (fun k => object_words.l0 k t (p : Int) c big around (s : Int) L kx (f : Int) xs (xs.length : Int) (pre.length : Int)) r := by
  intro suf
  induction suf with
  | nil =>
    intro pre L kx f hx hxl hL _ _ _ h0 hk _ _
    have hxl2 : xs.length = pre.length := by rw [hx]; simp
    have e0 : L = L0 := by rw [← h0]; simp [mk]
    have ek : kx = kf := hk
    subst e0
    subst ek
    refine Ev.step (fun _ => object_words.l0.eq_2 ..) (Ev.neg (by omega) ?_)
    by_cases hn : kx < 0
    · rw [fin0 hn]; exact Ev.pos hn (Ev.now _)
    · obtain ⟨q, q1, q2, q3⟩ := fin1 hn
      refine Ev.neg hn (Ev.bind q1 ?_)
      rw [q3]
      by_cases ht : q.2.2 = true
      · obtain ⟨⟨a1, a2⟩, a3, a4⟩ := q2 ht
        rw [show outW L q = _ from if_pos ht]
        have hw : wrap64 (q.2.1 - 1) = q.2.1 - 1 := wrap64_id (by omega) (by omega)
        rw [hw]
        clear hw
        exact Ev.pos ht (Ev.pos a1 (Ev.pos a2 (Ev.pos (by omega) (Ev.pos (by omega) (Ev.now _)))))
      · rw [show outW L q = _ from if_neg ht]; exact Ev.neg ht (Ev.now _)
  | cons n ns ih =>
    intro pre L kx f hx hxl hL hle hse hf h0 hk hfn hpw
    have hn := hle n List.mem_cons_self
    have hfe := hf (by simp)
    have hfn1 := hfn n ns rfl
    have hp1 : xs.length = pre.length + ns.length + 1 := by rw [hx]; simp; omega
    have hrd : rd xs (pre.length : Int) = (n : Int) - s := by
      unfold rd
      rw [Int.toNat_natCast, hx, List.map_cons]
      exact getD_mid _ _ _ _
    have hw1 : wrap64 ((s : Int) + ((n : Int) - s)) = (n : Int) := by rw [show (s : Int) + ((n : Int) - s) = n from by omega]; exact wrap64_id (by omega) (by omega)
    have hw2 : wrap64 ((pre.length : Int) + 1) = ((pre ++ [(n : Int) - s]).length : Int) := by rw [wrap64_id (by omega) (by omega)]; simp
    have c1 := cls_ev (rd t (f : Int)) big
    have hrf : rd t (f : Int) = t.getD f 0 := by unfold rd; rw [Int.toNat_natCast]
    rw [hrf] at c1
    have hpw2 : List.Pairwise (· < ·) (n :: ns) := hpw n ns rfl
    have next : ∀ kx' : Int, kx' = (if (f : Int) ≤ p ∧ (p : Int) < n then (L.length : Int) else kx) → Ev (fun k => object_words.l0 k t (p : Int) c big around (s : Int) (L ++ [(⟨(f : Int), (n : Int), cls (t.getD f 0) big == 0⟩ : S76)]) kx' (n : Int) xs (xs.length : Int) ((pre ++ [(n : Int) - s]).length : Int)) r := by
      intro kx' hk'
      refine ih (pre ++ [(n : Int) - s]) (L ++ [⟨(f : Int), (n : Int), cls (t.getD f 0) big == 0⟩]) kx' n (by rw [hx]; simp) hxl (by simp [hL]) (fun m hm => hle m (List.mem_cons_of_mem _ hm)) hse ?_ ?_ ?_ ?_ ?_
      · intro hne
        cases ns with
        | nil => exact absurd rfl hne
        | cons m ms =>
          have h3 := (List.pairwise_cons.1 hpw2).1 m List.mem_cons_self
          have h4 := hle m (List.mem_cons_of_mem _ List.mem_cons_self)
          omega
      · rw [← h0]; simp [mk, cl]
      · rw [← hk, hk']; simp [mk, fk]
      · intro m ms e
        subst e
        exact (List.pairwise_cons.1 hpw2).1 m List.mem_cons_self
      · intro m ms e
        subst e
        exact (List.pairwise_cons.1 hpw2).2
    refine Ev.step (fun _ => object_words.l0.eq_2 ..) (Ev.pos (by omega) (Ev.pos (by omega) (Ev.pos (by omega) ?_)))
    rw [hrd, hw1, hw2, hrf]
    clear hw1 hw2
    by_cases h1 : (f : Int) ≤ p
    · refine Ev.pos h1 ?_
      by_cases h2 : (p : Int) < n
      · exact Ev.pos h2 (Ev.pos (by omega) (Ev.pos (by omega) (Ev.bind c1 (Ev.pos (by omega) (next _ (by rw [if_pos ⟨h1, h2⟩]))))))
      · exact Ev.neg h2 (Ev.pos (by omega) (Ev.pos (by omega) (Ev.bind c1 (Ev.pos (by omega) (next _ (by rw [if_neg (fun h => h2 h.2)]))))))
    · exact Ev.neg h1 (Ev.pos (by omega) (Ev.pos (by omega) (Ev.bind c1 (Ev.pos (by omega) (next _ (by rw [if_neg (fun h => h1 h.1)]))))))
end
end Go.Proofs.YtcochbkdgjgaeaaDoor.OB
end
section
-- Written by wip/xprint.py over the kit's print.py: the Lean function of each Go function, and the proof that the Go text comes to it.
namespace Go.Proofs.YtcochbkdgjgaeaaDoor.X
open Go.RowKit Go.Proofs.YtcochbkdgjgaeaaDoorW.PrintWords Go.Proofs.YtcochbkdgjgaeaaDoorW.PrintLast Go.Proofs.YtcochbkdgjgaeaaDoorW.PrintMore
attribute [local go_sem] max2_int min2_int max_two min_two max_three min_three max_four min_four   -- for this text's walks alone
set_option linter.unusedVariables false
set_option linter.unusedSimpArgs false

theorem eqA29 (d : Nat) (w : World) (x0 y0 : Int) (x1 y1 : Int) (x2 y2 : Int) :
    (Op.equalIn (d + 2) 29 (.agg #[.int .i64 x0, .int .i64 x1, .int .i64 x2]) (.agg #[.int .i64 y0, .int .i64 y1, .int .i64 y2])).run Tryd.prog w = .ok (x0 == y0 && (x1 == y1 && (x2 == y2))) w := by
  refine eqA_of Tryd.underlying29 (by kernel_rfl) ?_
  refine eqf_cons (by rfl) (by go_simp; rfl) (by go_simp; rfl) (by go_simp) ?_
  refine eqf_cons (by rfl) (by go_simp; rfl) (by go_simp; rfl) (by go_simp) ?_
  exact eqf_last (by rfl) (by go_simp; rfl) (by go_simp; rfl) (by go_simp)
end Go.Proofs.YtcochbkdgjgaeaaDoor.X
end
section
-- Written by wip/xprint.py over the kit's print.py: the Lean function of each Go function, and the proof that the Go text comes to it.
namespace Go.Proofs.YtcochbkdgjgaeaaDoor.X
open Go.RowKit Go.Proofs.YtcochbkdgjgaeaaDoorW.PrintWords Go.Proofs.YtcochbkdgjgaeaaDoorW.PrintLast Go.Proofs.YtcochbkdgjgaeaaDoorW.PrintMore
attribute [local go_sem] max2_int min2_int max_two min_two max_three min_three max_four min_four   -- for this text's walks alone
set_option linter.unusedVariables false
set_option linter.unusedSimpArgs false

/-! ### bytes_Clone: function 60, by hand -/
def bytes_Clone.f (l0 : List Int) : Option (List Int) := if l0.length < 140737488355328 then some l0 else none
set_option maxHeartbeats 2000000 in
set_option maxRecDepth 100000 in
theorem bytes_Clone.calls (A0 : Option Addr) (c0 : Nat) (l0 : List Int) (r : List Int) (w : World) (hr0 : Kd.C (Kd.int .u8) w A0 l0.length l0) (hc0 : l0.length ≤ c0) (h : bytes_Clone.f l0 = some r) :
    Calls Tryd.prog 60 #[.slice A0 l0.length c0] w fun e w' => ∃ v0_ : Value, e = .returned (v0_) ∧ Kd.R (Kd.int .u8) 5 w' w.heap.size (fun _ => True) v0_ r ∧ Below w.heap.size w w' := by
  unfold bytes_Clone.f at h
  by_cases hl : l0.length < 140737488355328
  case neg => rw [if_neg hl] at h; cases h
  rw [if_pos hl] at h
  obtain rfl := Option.some.inj h
  obtain ⟨hb0, hA⟩ := reads_u8 hr0
  clear h hr0
  have qn : ∀ (w : World) (a : Option Addr) (n c n' c' : Nat), (binOp .eql 22 (.slice a n c) (.slice none n' c')).run Tryd.prog w = .ok (.bool a.isNone) w := fun w a n c n' c' => Lib.run_eql_slice_nil w _ _ a n c n' c' Tryd.underlying22
  cases A0 with
  | none =>
    have h0 : l0 = [] := by
      cases l0 with
      | nil => rfl
      | cons x l => obtain ⟨_, h1, _⟩ := hA (by simp); cases h1
    subst h0
    clear hA
    go_enter Tryd.func60, Tryd.ntmps60
    go_wp2
    go_ret
    exact ⟨_, rfl, Kd.R_nil _ _ _ _ _, Below.refl _ _⟩
  | some a =>
    have HA : ∀ j, j < l0.length → w.cell? (a.add j) = some (.int .u8 (l0.getD j 0)) := fun j hj => by
      obtain ⟨a', h1, h2⟩ := hA (by omega)
      obtain rfl := Option.some.inj h1
      exact h2 j hj
    have HR := Aside0.mk HA
    clear hA HA
    have hinf : (Tryd.prog.info? 5).map (fun i => (i.zero, i.size, i.bytes)) = some (some (.int .u8 0), 1, 1) := by kernel_rfl
    obtain ⟨i0, hi, hz0, hz1, hz2⟩ := info_parts hinf
    clear hinf
    go_enter Tryd.func60, Tryd.ntmps60
    go_wp2_with (at_builtin; refine wpList_append_own _ rfl _ _ 22 rfl w.heap.size 5 i0 (.int .u8 0) 1 1 Tryd.underlying22 hi hz0 hz1 hz2 rfl (by decide) _ _ _ rfl (World.ownsRow_made w #[] 0 (Nat.le_refl _) (Nat.zero_le _) rfl) a l0.length c0 (l0.map (Value.int .u8)) rfl ?qc1 ?qc2 ?qc3 ?qc4 ?qc5 ?qc6 ?_)
    case qc1 => simp
    case qc2 =>
      intro j u hj
      have hjn : j < l0.length := by
        have := (List.getElem?_eq_some_iff.1 hj).1
        simpa using this
      refine Lib.cell?_alloc_some _ ?_
      rw [HR.out j hjn]
      have e : (l0.map (Value.int .u8))[j]? = some (Value.int .u8 (l0.getD j 0)) := by simp [List.getD, List.getElem?_eq_getElem hjn]
      rw [e] at hj
      exact hj
    case qc3 => intro u hu; obtain ⟨x, _, rfl⟩ := List.mem_map.1 hu; rfl
    case qc4 => unfold maxLen; omega
    case qc5 => omega
    case qc6 => simp
    intro v' w1 hown hgrow hnil
    clear qn
    go_wp2
    go_ret
    refine ⟨v', rfl, Kd.R_of_own (by simpa [encs] using hown) (fun _ _ => trivial), ?_⟩
    exact ((Below.refl _ w).alloc (Nat.le_refl _) _).grown hgrow (by simp) (by intro k hk; simp [Value.ownBlock] at hk; omega)

end Go.Proofs.YtcochbkdgjgaeaaDoor.X
end
section
-- Written by wip/xprint.py over the kit's print.py: the Lean function of each Go function, and the proof that the Go text comes to it.
namespace Go.Proofs.YtcochbkdgjgaeaaDoor.X
open Go.RowKit Go.Proofs.YtcochbkdgjgaeaaDoorW.PrintWords Go.Proofs.YtcochbkdgjgaeaaDoorW.PrintLast Go.Proofs.YtcochbkdgjgaeaaDoorW.PrintMore
attribute [local go_sem] max2_int min2_int max_two min_two max_three min_three max_four min_four   -- for this text's walks alone
set_option linter.unusedVariables false
set_option linter.unusedSimpArgs false

/-! ### lines_Split: function 48, by hand -/
/-- The lines, without their ends. -/
def splitR : List Int → List (List Int)
  | [] => [[]]
  | x :: l => if x = 10 then [] :: splitR l else match splitR l with
    | [] => [[x]]
    | p :: r => (x :: p) :: r
theorem splitR_ne (l : List Int) : splitR l ≠ [] := by
  cases l with
  | nil => simp [splitR]
  | cons x l =>
    unfold splitR
    by_cases h : x = 10
    · rw [if_pos h]; simp
    · rw [if_neg h]; cases splitR l <;> simp
theorem splitR_len (l : List Int) : ((splitR l).length : Int) = cnt 10 l + 1 := by
  induction l with
  | nil => rfl
  | cons x l ih =>
    unfold splitR cnt
    by_cases h : x = 10
    · rw [if_pos h, if_pos h, List.length_cons]; omega
    · rw [if_neg h, if_neg h]
      have h0 := splitR_ne l
      cases e : splitR l with
      | nil => exact absurd e h0
      | cons p r => rw [e] at ih; simp only [List.length_cons] at ih ⊢; omega
theorem idx_cases (l : List Int) : (idx 10 l = -1 ∧ splitR l = [l] ∧ cnt 10 l = 0) ∨ ∃ i : Nat, idx 10 l = (i : Int) ∧ i < l.length ∧ splitR l = l.take i :: splitR (l.drop (i + 1)) ∧ cnt 10 l = cnt 10 (l.drop (i + 1)) + 1 := by
  induction l with
  | nil => exact .inl ⟨rfl, rfl, rfl⟩
  | cons x l ih =>
    by_cases h : x = 10
    · refine .inr ⟨0, by unfold idx; rw [if_pos h]; rfl, by simp, ?_, ?_⟩
      · conv => lhs; unfold splitR
        rw [if_pos h]; rfl
      · conv => lhs; unfold cnt
        rw [if_pos h]; simp; omega
    · rcases ih with ⟨h1, h2, h3⟩ | ⟨i, h1, h2, h3, h4⟩
      · refine .inl ⟨by unfold idx; rw [if_neg h, h1]; rfl, ?_, ?_⟩
        · unfold splitR; rw [if_neg h, h2]
        · unfold cnt; rw [if_neg h, h3]; rfl
      · refine .inr ⟨i + 1, ?_, by simp; omega, ?_, ?_⟩
        · unfold idx; rw [if_neg h, h1, if_neg (by omega)]; omega
        · conv => lhs; unfold splitR
          rw [if_neg h, h3]; simp
        · conv => lhs; unfold cnt
          rw [if_neg h, h4]; simp
theorem splitR_parts (l : List Int) : ∀ x ∈ splitR l, x.length ≤ l.length := by
  induction l with
  | nil => intro x hx; simp [splitR] at hx; simp [hx]
  | cons y l ih =>
    intro x hx
    unfold splitR at hx
    by_cases h : y = 10
    · rw [if_pos h] at hx
      rcases List.mem_cons.1 hx with e | e
      · simp [e]
      · have := ih x e; simp; omega
    · rw [if_neg h] at hx
      cases e : splitR l with
      | nil => exact absurd e (splitR_ne l)
      | cons p r =>
        rw [e] at hx ih
        rcases List.mem_cons.1 hx with e2 | e2
        · have := ih p (by simp); rw [e2]; simp; omega
        · have := ih x (by simp [e2]); simp; omega
/-- A slice that reads as these bytes. -/
def PieceV (w : World) (v : Value) (l : List Int) : Prop := ∃ A c, v = .slice A l.length c ∧ l.length ≤ c ∧ Kd.C (Kd.int .u8) w A l.length l
def Pcs (w : World) : List Value → List (List Int) → Prop
  | [], [] => True
  | v :: vs, l :: ls => PieceV w v l ∧ Pcs w vs ls
  | _, _ => False
theorem Pcs_len {w : World} : ∀ {vs : List Value} {ls : List (List Int)}, Pcs w vs ls → vs.length = ls.length
  | [], [], _ => rfl
  | _ :: vs, _ :: ls, h => by simp [Pcs_len h.2]
  | [], _ :: _, h => h.elim
  | _ :: _, [], h => h.elim
theorem Pcs_snoc {w : World} : ∀ {vs : List Value} {ls : List (List Int)} {v : Value} {l : List Int}, Pcs w vs ls → PieceV w v l → Pcs w (vs ++ [v]) (ls ++ [l])
  | [], [], _, _, _, h => ⟨h, trivial⟩
  | _ :: _, _ :: _, _, _, h1, h => ⟨h1.1, Pcs_snoc h1.2 h⟩
  | [], _ :: _, _, _, h, _ => h.elim
  | _ :: _, [], _, _, h, _ => h.elim
theorem Pcs_at {w : World} : ∀ {vs : List Value} {ls : List (List Int)} {j : Nat} {l : List Int}, Pcs w vs ls → ls[j]? = some l → ∃ v, vs[j]? = some v ∧ PieceV w v l
  | _ :: _, _ :: _, 0, _, h, e => by
    have e := Option.some.inj e
    subst e
    exact ⟨_, rfl, h.1⟩
  | _ :: _, _ :: _, j + 1, _, h, e => Pcs_at (j := j) h.2 e
  | [], [], _, _, _, e => by simp at e
  | [], _ :: _, _, _, h, _ => h.elim
  | _ :: _, [], _, _, h, _ => h.elim
set_option maxHeartbeats 2000000 in
set_option maxRecDepth 1000000 in
theorem index_calls (A0 : Option Addr) (c0 : Nat) (l0 : List Int) (B0 : Addr) (d0 : Nat) (w : World) (hr0 : Kd.C (Kd.int .u8) w A0 l0.length l0) (hc0 : l0.length ≤ c0) (hu : u8s l0 = true) (hb : w.cell? B0 = some (.int .u8 10)) :
    Calls Tryd.prog 56 #[.slice A0 l0.length c0, .slice (some B0) 1 d0] w fun e w' => e = .returned (.int .i64 (idx 10 l0)) ∧ Drawn0 w w' := by
  have hf : bytes_IndexByte.f l0 10 = some (idx 10 l0) := by unfold bytes_IndexByte.f; rw [hu]; rfl
  have HR := Aside0.mk hr0
  have HC := Aside0.mk hc0
  have HF := Aside0.mk hf
  clear hr0 hc0 hf hu
  go_enter Tryd.func56, Tryd.ntmps56
  go_wp2_with (go_at_call 57; refine (bytes_IndexByte.calls A0 c0 l0 10 _ _ HR.out HC.out HF.out).mono ?_; rintro e w' ⟨rfl, ⟨m1, rfl⟩⟩)
  go_ret
  exact ⟨rfl, ⟨⟨m1, rfl⟩⟩⟩
theorem piece_whole {w : World} {a : Option Addr} {l : List Int} {c : Nat} (hc : l.length ≤ c) (hr : Kd.C (Kd.int .u8) w a l.length l) : PieceV w (.slice a l.length c) l := ⟨a, c, rfl, hc, hr⟩
theorem piece_take {w : World} {a : Addr} {l : List Int} {i : Nat} (hi : i ≤ l.length) (hr : Kd.C (Kd.int .u8) w (some a) l.length l) : PieceV w (.slice (some a) i i) (l.take i) := by
  have hl : (l.take i).length = i := by rw [List.length_take]; omega
  have h := Kd.C_take hr hi
  rw [hl] at h
  exact ⟨some a, i, by rw [hl], by omega, by rw [hl]; exact h⟩
theorem tail_C {w : World} {a : Addr} {l : List Int} {i c : Nat} (hi : i ≤ l.length) (hc : l.length ≤ c) (hr : Kd.C (Kd.int .u8) w (some a) l.length l) : Kd.C (Kd.int .u8) w (some (if c = i then a else a.add i)) (l.drop i).length (l.drop i) := by
  have h := Kd.C_drop hr hi hc
  by_cases e : c = i
  · rw [if_pos e] at h ⊢; exact h
  · rw [if_neg e] at h ⊢
    rw [show i * (Kd.int .u8).sz = i from Nat.mul_one i] at h
    exact h
theorem u8s_drop' {l : List Int} (h : u8s l = true) (n : Nat) : u8s (l.drop n) = true := by
  unfold u8s at h ⊢
  rw [List.all_eq_true] at h ⊢
  exact fun x hx => h x (List.mem_of_mem_drop hx)
set_option maxHeartbeats 1000000 in
set_option maxRecDepth 1000000 in
theorem gen_calls (a1 : Addr) (c1 : Nat) (l0 : List Int) (B0 : Addr) (d0 : Nat) (w : World) (hr0 : Kd.C (Kd.int .u8) w (some a1) l0.length l0) (hc0 : l0.length ≤ c1) (hu : u8s l0 = true) (hb : w.cell? B0 = some (.int .u8 10)) (hcB : Kd.C (Kd.int .u8) w (some B0) 1 [10]) (hd0 : 1 ≤ d0) (hl : l0.length < 5864062014804) :
    Calls Tryd.prog 68 #[.slice (some a1) l0.length c1, .slice (some B0) 1 d0, .int .i64 0, .int .i64 (-1)] w fun e w' => ∃ (vs : List Value) (q : Nat), e = .returned (.slice (some ⟨w.heap.size, 0, none⟩) vs.length vs.length) ∧ Aside0 (Pcs w vs (splitR l0)) ∧ w' = (w.alloc (.cells vs.toArray 22)).drewN q := by
  have hsl := splitR_len l0
  have hcl : cnt 10 l0 ≤ (l0.length : Int) := by
    have : ∀ l : List Int, cnt 10 l ≤ (l.length : Int) := by
      intro l
      induction l with
      | nil => simp [cnt]
      | cons x l ih => unfold cnt; simp only [List.length_cons]; split <;> omega
    exact this l0
  have hcf : bytes_Count.f l0 [10] = some (cnt 10 l0) := by unfold bytes_Count.f; rw [hu]; rfl
  obtain ⟨N, hN⟩ : ∃ N : Nat, (splitR l0).length = N + 1 := ⟨(splitR l0).length - 1, by have := splitR_ne l0; cases h : splitR l0 with | nil => exact absurd h this | cons => simp⟩
  have hcn : cnt 10 l0 = (N : Int) := by omega
  rw [hcn] at hcl hcf
  have eN' : min ((N : Int) + 1) ((l0.length : Int) + 1) = ((N + 1 : Nat) : Int) := by omega
  have hmk := run_make_row' (P := Tryd.prog) 78 22 (.slice none 0 0) 24 Tryd.underlying78 info22 rfl .i64 .i64 (N + 1) (by omega) (by omega)
  rw [show ((N + 1 : Nat) : Int) = (N : Int) + 1 from by omega] at hmk
  have HS := Aside0.mk (⟨hr0, hu, hb, hcB, hcf, hsl, hcn, hN⟩ : Kd.C (Kd.int .u8) w (some a1) l0.length l0 ∧ u8s l0 = true ∧ w.cell? B0 = some (.int .u8 10) ∧ Kd.C (Kd.int .u8) w (some B0) 1 [10] ∧ bytes_Count.f l0 [10] = some (N : Int) ∧ ((splitR l0).length : Int) = cnt 10 l0 + 1 ∧ cnt 10 l0 = (N : Int) ∧ (splitR l0).length = N + 1)
  clear hr0 hu hb hcB hcf hsl hcn hN
  have ad : ∀ (W : World) (j : Nat) (o : Obj), (W.drewN j).alloc o = (W.alloc o).drewN j := fun _ _ _ => rfl
  have sd : ∀ (W : World) (j : Nat) (x : Addr) (v : Value), (W.drewN j).setCell x v = (W.setCell x v).drewN j := fun _ _ _ _ => rfl
  go_enter Tryd.func68, Tryd.ntmps68
  go_wp2_with (go_at_call 43; refine (bytes_Count.calls (some a1) c1 l0 (some B0) d0 [10] (N : Int) _ HS.out.1 hc0 HS.out.2.2.2.1 hd0 HS.out.2.2.2.2.1).mono ?_; rintro e w' ⟨rfl, ⟨q0, rfl⟩⟩)
  go_loopg [0, 10] N (fun g s0 s10 wr => ∃ (done : List Value) (dls : List (List Int)) (a : Addr) (zs : List Int) (ln cap q : Nat), s0 = .slice (some a) ln cap ∧ s10 = .int .i64 done.length ∧ done.length ≤ N ∧ g = N - done.length ∧ zs.length = ln ∧ ln ≤ cap ∧ ln ≤ l0.length ∧
    wr = (w.alloc (.cells (Lib.cellsOfV done (N + 1)) 22)).drewN q ∧
    Aside0 (Pcs w done dls ∧ Kd.C (Kd.int .u8) w (some a) zs.length zs ∧ u8s zs = true ∧ cnt 10 zs = ((N - done.length : Nat) : Int) ∧ dls ++ splitR zs = splitR l0))
  case atStart => exact ⟨[], [], a1, l0, l0.length, c1, q0, rfl, rfl, Nat.zero_le _, rfl, rfl, hc0, Nat.le_refl _, by rw [Lib.cellsOfV_nil], ⟨trivial, HS.out.1, HS.out.2.1, by rw [HS.out.2.2.2.2.2.2.1]; rfl, rfl⟩⟩
  case round =>
    obtain ⟨done, dls, a, zs, ln, cap, q, rfl, rfl, hd, rfl, rfl, hcp, hln, rfl, A⟩ := hrel
    have hnext : (Lib.cellsOfV done (N + 1))[done.length]? = some (.slice none 0 0) := Lib.cellsOfV_next (by omega)
    have fin : splitR zs = [zs] → done.length = N ∧ (Lib.cellsOfV done (N + 1)).setIfInBounds done.length (.slice (some a) zs.length cap) = (done ++ [Value.slice (some a) zs.length cap]).toArray ∧ Pcs w (done ++ [.slice (some a) zs.length cap]) (splitR l0) := fun h => by
      have e := A.out.2.2.2.2
      rw [h] at e
      have e2 := Pcs_len A.out.1
      have e3 := HS.out.2.2.2.2.2.2.2
      rw [← e, List.length_append] at e3
      have e4 : done.length = N := by simp at e3; omega
      refine ⟨e4, ?_, ?_⟩
      · rw [Lib.cellsOfV_set (by omega), ← e4, show done.length + 1 = (done ++ [Value.slice (some a) zs.length cap]).length by simp, Lib.cellsOfV_full]
      · rw [← e]
        exact Pcs_snoc A.out.1 (piece_whole hcp A.out.2.1)
    have hcon : Calls Tryd.prog 56 #[.slice (some a) zs.length cap, .slice (some B0) 1 d0] ((w.alloc (.cells (Lib.cellsOfV done (N + 1)) 22)).drewN q) fun e w' => e = .returned (.int .i64 (idx 10 zs)) ∧ Drawn0 ((w.alloc (.cells (Lib.cellsOfV done (N + 1)) 22)).drewN q) w' :=
      index_calls (some a) cap zs B0 d0 _ (Kd.C_drewN (Kd.C_alloc A.out.2.1 _) _) hcp A.out.2.2.1 (by rw [World.cell?_drewN]; exact Lib.cell?_alloc_some _ HS.out.2.2.1)
    by_cases hlt : done.length < N
    · have hltz : ((done.length : Nat) : Int) < (N : Int) := by omega
      rcases idx_cases zs with ⟨_, _, h3⟩ | ⟨i, hix, hi, hsp, hct⟩
      · have := A.out.2.2.2.1
        omega
      · rw [hix] at hcon
        have c0 : ¬ ((i : Int) < 0) := by omega
        have c1' : (0 : Int) ≤ ↑i := by omega
        have c2' : (↑i : Int) ≤ ↑cap := by omega
        have c3 : (0 : Int) ≤ ↑i + 1 := by omega
        have c4 : (↑i + 1 : Int) ≤ ↑zs.length := by omega
        have B := Aside0.mk (⟨Pcs_snoc A.out.1 (piece_take (i := i) (by omega) A.out.2.1), tail_C (i := i + 1) (by omega) hcp A.out.2.1, u8s_drop' A.out.2.2.1 (i + 1), by have := A.out.2.2.2.1; rw [hct] at this; simp only [List.length_append, List.length_cons, List.length_nil]; omega, by rw [← A.out.2.2.2.2, hsp]; simp⟩ :
          Pcs w (done ++ [.slice (some a) i i]) (dls ++ [zs.take i]) ∧ Kd.C (Kd.int .u8) w (some (if cap = i + 1 then a else a.add (i + 1))) (zs.drop (i + 1)).length (zs.drop (i + 1)) ∧ u8s (zs.drop (i + 1)) = true ∧ cnt 10 (zs.drop (i + 1)) = ((N - (done ++ [Value.slice (some a) i i]).length : Nat) : Int) ∧ (dls ++ [zs.take i]) ++ splitR (zs.drop (i + 1)) = splitR l0)
        clear hix hsp hct fin
        have HC := Aside0.mk hcon
        clear hcon
        by_cases hce : cap = i + 1
        · subst hce
          go_wp2_with (go_at_call 56; refine HC.out.mono ?_; rintro e w' ⟨rfl, ⟨q', rfl⟩⟩)
          go_roundg (N - (done.length + 1))
          case measure => omega
          case rel =>
            have B2 := B.out
            rw [if_pos trivial] at B2
            exact ⟨done ++ [.slice (some a) i i], dls ++ [zs.take i], a, zs.drop (i + 1), zs.length - (i + 1), i + 1 - (i + 1), q + q', by first | rfl | (simp; done) | (simp; omega), by simp, by simp; omega, by simp, by simp, by omega, by omega, by rw [← Lib.cellsOfV_set (by omega)], ⟨B2⟩⟩
        · go_wp2_with (go_at_call 56; refine HC.out.mono ?_; rintro e w' ⟨rfl, ⟨q', rfl⟩⟩)
          go_roundg (N - (done.length + 1))
          case measure => omega
          case rel =>
            have B2 := B.out
            rw [if_neg hce] at B2
            exact ⟨done ++ [.slice (some a) i i], dls ++ [zs.take i], a.add (i + 1), zs.drop (i + 1), zs.length - (i + 1), cap - (i + 1), q + q', by first | rfl | (simp [hce, Addr.add]; done), by simp, by simp; omega, by simp, by simp, by omega, by omega, by rw [← Lib.cellsOfV_set (by omega)], ⟨B2⟩⟩
    · have hltz : ¬ (((done.length : Nat) : Int) < (N : Int)) := by omega
      have hsp : splitR zs = [zs] := by
        rcases idx_cases zs with ⟨_, h2, _⟩ | ⟨i, _, _, _, hct⟩
        · exact h2
        · have h1 := A.out.2.2.2.1
          have h2 : 0 ≤ cnt 10 (zs.drop (i + 1)) := by
            have : ∀ l : List Int, 0 ≤ cnt 10 l := by
              intro l
              induction l with
              | nil => simp [cnt]
              | cons x l ih => unfold cnt; split <;> omega
            exact this _
          omega
      have FF := Aside0.mk (fin hsp)
      clear fin hcon hsp
      go_wp2
      go_ret
      obtain ⟨f1, f2, f3⟩ := FF.out
      exact ⟨done ++ [.slice (some a) zs.length cap], by show Ending.returned (.slice (some ⟨w.heap.size, 0, none⟩) (done.length + 1) (N + 1)) = _; rw [← f1]; simp, ⟨f3⟩, q, by rw [← f2]⟩
set_option maxHeartbeats 2000000 in
set_option maxRecDepth 1000000 in
theorem gen_nil (c1 : Nat) (B0 : Addr) (d0 : Nat) (w : World) (hcB : Kd.C (Kd.int .u8) w (some B0) 1 [10]) (hd0 : 1 ≤ d0) :
    Calls Tryd.prog 68 #[.slice none 0 c1, .slice (some B0) 1 d0, .int .i64 0, .int .i64 (-1)] w fun e w' => ∃ (vs : List Value) (q : Nat), e = .returned (.slice (some ⟨w.heap.size, 0, none⟩) vs.length vs.length) ∧ Aside0 (Pcs w vs (splitR [])) ∧ w' = (w.alloc (.cells vs.toArray 22)).drewN q := by
  have hcf : bytes_Count.f [] [10] = some 0 := by rfl
  have hmk := run_make_row' (P := Tryd.prog) 78 22 (.slice none 0 0) 24 Tryd.underlying78 info22 rfl .i64 .i64 1 (by omega) (by omega)
  rw [← Lib.cellsOfV_nil, show ((1 : Nat) : Int) = 1 from rfl] at hmk
  have hnext : (Lib.cellsOfV [] 1)[0]? = some (.slice none 0 0) := Lib.cellsOfV_next (by simp)
  have hset : (Lib.cellsOfV [] 1).setIfInBounds 0 (.slice none 0 c1) = #[.slice none 0 c1] := by
    rw [show (0 : Nat) = ([] : List Value).length from rfl, Lib.cellsOfV_set (by simp)]
    exact Lib.cellsOfV_full [Value.slice none 0 c1]
  have HT := Aside0.mk hset
  clear hset
  have HS := Aside0.mk hcB
  clear hcB
  have ad : ∀ (W : World) (j : Nat) (o : Obj), (W.drewN j).alloc o = (W.alloc o).drewN j := fun _ _ _ => rfl
  have sd : ∀ (W : World) (j : Nat) (x : Addr) (v : Value), (W.drewN j).setCell x v = (W.setCell x v).drewN j := fun _ _ _ _ => rfl
  go_enter Tryd.func68, Tryd.ntmps68
  go_wp2_with (go_at_call 43; refine (bytes_Count.calls none c1 [] (some B0) d0 [10] 0 _ (Kd.C_of_reads (d := (0 : Int)) (h1 := fun _ => rfl) ⟨rfl, by simp, fun h => absurd h (by simp)⟩) (Nat.zero_le _) HS.out hd0 hcf).mono ?_; rintro e w' ⟨rfl, ⟨q0, rfl⟩⟩)
  go_loopg [0, 10] 0 (fun g s0 s10 wr => s0 = .slice none 0 c1 ∧ s10 = .int .i64 0 ∧ wr = (w.alloc (.cells (Lib.cellsOfV [] 1) 22)).drewN q0)
  case atStart => exact ⟨rfl, rfl, rfl⟩
  case round =>
    obtain ⟨rfl, rfl, rfl⟩ := hrel
    go_wp2
    go_ret
    exact ⟨[.slice none 0 c1], _, rfl, ⟨⟨none, c1, rfl, Nat.zero_le _, Kd.C_of_reads (d := (0 : Int)) (h1 := fun _ => rfl) ⟨rfl, by simp, fun h => absurd h (by simp)⟩⟩, trivial⟩, by rw [HT.out]⟩
set_option maxHeartbeats 1000000 in
set_option maxRecDepth 1000000 in
/-- bytes.Split at a line end: the pieces lie in the text's own memory. -/
theorem bsplit_calls (A0 : Option Addr) (c0 : Nat) (l0 : List Int) (B0 : Addr) (d0 : Nat) (w : World) (hr0 : Kd.C (Kd.int .u8) w A0 l0.length l0) (hc0 : l0.length ≤ c0) (hu : u8s l0 = true) (hb : w.cell? B0 = some (.int .u8 10)) (hcB : Kd.C (Kd.int .u8) w (some B0) 1 [10]) (hd0 : 1 ≤ d0) (hl : l0.length < 5864062014804) :
    Calls Tryd.prog 59 #[.slice A0 l0.length c0, .slice (some B0) 1 d0] w fun e w' => ∃ (vs : List Value) (q : Nat), e = .returned (.slice (some ⟨w.heap.size, 0, none⟩) vs.length vs.length) ∧ Aside0 (Pcs w vs (splitR l0)) ∧ w' = (w.alloc (.cells vs.toArray 22)).drewN q := by
  have hg : Calls Tryd.prog 68 #[.slice A0 l0.length c0, .slice (some B0) 1 d0, .int .i64 0, .int .i64 (-1)] w fun e w' => ∃ (vs : List Value) (q : Nat), e = .returned (.slice (some ⟨w.heap.size, 0, none⟩) vs.length vs.length) ∧ Aside0 (Pcs w vs (splitR l0)) ∧ w' = (w.alloc (.cells vs.toArray 22)).drewN q := by
    cases A0 with
    | some a => exact gen_calls a c0 l0 B0 d0 w hr0 hc0 hu hb hcB hd0 hl
    | none =>
      have h0 : l0 = [] := by
        cases l0 with
        | nil => rfl
        | cons x l => obtain ⟨_, h1, _⟩ := (reads_u8 hr0).2 (by simp); cases h1
      subst h0
      exact gen_nil c0 B0 d0 w hcB hd0
  have HG := Aside0.mk hg
  clear hg hr0 hu hb hcB hc0 hd0 hl
  go_enter Tryd.func59, Tryd.ntmps59
  go_wp2_with fail
  refine HG.out.mono ?_
  rintro e w' ⟨vs, q, rfl, hp, rfl⟩
  go_wp2
  go_ret
  exact ⟨vs, q, rfl, hp, rfl⟩
theorem PieceV_below {w w' : World} {v : Value} {l : List Int} (h : PieceV w v l) (hb : Below w.heap.size w w') : PieceV w' v l := by
  obtain ⟨A, c, h1, h2, h3⟩ := h
  exact ⟨A, c, h1, h2, Kd.C_below h3 hb⟩
theorem Pcs_imp {w w' : World} (hi : ∀ v l, PieceV w v l → PieceV w' v l) : ∀ {vs : List Value} {ls : List (List Int)}, Pcs w vs ls → Pcs w' vs ls
  | [], [], _ => trivial
  | _ :: _, _ :: _, h => ⟨hi _ _ h.1, Pcs_imp hi h.2⟩
  | [], _ :: _, h => h.elim
  | _ :: _, [], h => h.elim
def lines_Split.f (l0 : List Int) : Option (List (List Int)) := if u8s l0 = true then (if l0.length < 5864062014804 then some (splitR l0) else none) else none
set_option maxHeartbeats 1000000 in
set_option maxRecDepth 1000000 in
theorem lines_Split.calls (A0 : Option Addr) (c0 : Nat) (l0 : List Int) (r : List (List Int)) (w : World) (hr0 : Kd.C (Kd.int .u8) w A0 l0.length l0) (hc0 : l0.length ≤ c0) (h : lines_Split.f l0 = some r) :
    Calls Tryd.prog 48 #[.slice A0 l0.length c0] w fun e w' => ∃ v0_ : Value, e = .returned (v0_) ∧ Kd.S (Kd.slice 5 (Kd.int .u8)) 22 w' w.heap.size (fun _ => True) v0_ r ∧ Below w.heap.size w w' := by
  unfold lines_Split.f at h
  by_cases hu : u8s l0 = true
  case neg => rw [if_neg hu] at h; cases h
  rw [if_pos hu] at h
  by_cases hl : l0.length < 5864062014804
  case neg => rw [if_neg hl] at h; cases h
  rw [if_pos hl] at h
  obtain rfl := Option.some.inj h
  clear h
  have hsl : ((splitR l0).length : Int) ≤ (l0.length : Int) + 1 := by
    have h1 := splitR_len l0
    have h2 : ∀ l : List Int, cnt 10 l ≤ (l.length : Int) := by
      intro l
      induction l with
      | nil => simp [cnt]
      | cons x l ih => unfold cnt; simp only [List.length_cons]; split <;> omega
    have h3 := h2 l0
    omega
  have HS := Aside0.mk (⟨hr0, hc0, hu, hl, hsl⟩ : Kd.C (Kd.int .u8) w A0 l0.length l0 ∧ l0.length ≤ c0 ∧ u8s l0 = true ∧ l0.length < 5864062014804 ∧ ((splitR l0).length : Int) ≤ (l0.length : Int) + 1)
  clear hr0 hc0 hu hl hsl
  have hb0 : (w.alloc (.cells #[.int .u8 10] 5)).cell? ⟨w.heap.size, 0, none⟩ = some (.int .u8 10) := by
    unfold World.cell?
    have e : (w.alloc (.cells #[.int .u8 10] 5)).heap[w.heap.size]? = some (.cells #[.int .u8 10] 5) := by
      show (w.heap.push _)[w.heap.size]? = _
      simp
    simp only [e]
    rfl
  have hC10 : Kd.C (Kd.int .u8) (w.alloc (.cells #[.int .u8 10] 5)) (some ⟨w.heap.size, 0, none⟩) 1 [10] := by
    refine Kd.C_of_reads (d := (0 : Int)) (h1 := fun _ => rfl) ⟨rfl, by simp, fun _ => ⟨_, rfl, fun j hj => ?_⟩⟩
    obtain rfl : j = 0 := by omega
    exact hb0
  have HX := Aside0.mk (⟨hb0, hC10⟩ : (w.alloc (.cells #[.int .u8 10] 5)).cell? ⟨w.heap.size, 0, none⟩ = some (.int .u8 10) ∧ Kd.C (Kd.int .u8) (w.alloc (.cells #[.int .u8 10] 5)) (some ⟨w.heap.size, 0, none⟩) 1 [10])
  clear hb0 hC10
  go_enter Tryd.func48, Tryd.ntmps48
  go_wp2_with fail
  refine (bsplit_calls A0 c0 l0 ⟨w.heap.size, 0, none⟩ 1 _ (Kd.C_alloc HS.out.1 _) HS.out.2.1 HS.out.2.2.1 HX.out.1 HX.out.2 (Nat.le_refl _) HS.out.2.2.2.1).mono ?_
  rintro e w' ⟨vs, q, rfl, hp, rfl⟩
  have hbel : Below w.heap.size w (((w.alloc (.cells #[.int .u8 10] 5)).alloc (.cells vs.toArray 22)).drewN q) := pw_below_drewN (below_alloc (below_alloc (Below.refl _ _) _) _) q
  have hpl := Pcs_len hp.out
  have hp2 : Pcs (((w.alloc (.cells #[.int .u8 10] 5)).alloc (.cells vs.toArray 22)).drewN q) vs (splitR l0) := Pcs_imp (fun _ _ h => PieceV_below h (pw_below_drewN (below_alloc (Below.refl _ _) _) q)) hp.out
  have hblk : (((w.alloc (.cells #[.int .u8 10] 5)).alloc (.cells vs.toArray 22)).drewN q).heap[(w.alloc (.cells #[.int .u8 10] 5)).heap.size]? = some (.cells vs.toArray 22) := by
    exact Array.getElem?_push_size
  have hgl : (w.alloc (.cells #[.int .u8 10] 5)).heap.size < (((w.alloc (.cells #[.int .u8 10] 5)).alloc (.cells vs.toArray 22)).drewN q).heap.size := by
    show _ < ((w.alloc (.cells #[.int .u8 10] 5)).heap.push _).size
    simp
  have hvl : ((vs.length : Nat) : Int) ≤ (l0.length : Int) + 1 := by rw [hpl]; exact HS.out.2.2.2.2
  generalize (w.alloc (.cells #[.int .u8 10] 5)).heap.size = g at hblk hgl ⊢
  generalize (((w.alloc (.cells #[.int .u8 10] 5)).alloc (.cells vs.toArray 22)).drewN q) = W1 at hblk hgl hbel hp2 ⊢
  clear hp HX
  have HP := Aside0.mk (⟨hp2, hbel, hpl, hblk, hgl, hvl⟩ : Pcs W1 vs (splitR l0) ∧ Below w.heap.size w W1 ∧ vs.length = (splitR l0).length ∧ W1.heap[g]? = some (.cells vs.toArray 22) ∧ g < W1.heap.size ∧ ((vs.length : Nat) : Int) ≤ (l0.length : Int) + 1)
  clear hp2 hbel hpl hblk hgl hvl
  go_wp2
  go_loopg [3, 10] vs.length (fun gk v3 v10 wr => ∃ k : Nat, v10 = .int .i64 k ∧ k ≤ vs.length ∧ gk = vs.length - k ∧ Aside0 (Kd.S (Kd.slice 5 (Kd.int .u8)) 22 wr W1.heap.size (fun _ => True) v3 ((splitR l0).take k)) ∧ Aside0 (Below W1.heap.size W1 wr))
  case atStart => exact ⟨0, rfl, Nat.zero_le _, rfl, ⟨Kd.S_nil _ _ _ _ _⟩, ⟨Below.refl _ _⟩⟩
  case round =>
    obtain ⟨k, rfl, hk, rfl, HO, HB⟩ := hrel
    by_cases hlt : k < vs.length
    · obtain ⟨p, hp⟩ : ∃ p, (splitR l0)[k]? = some p := ⟨_, List.getElem?_eq_getElem (by rw [← HP.out.2.2.1]; exact hlt)⟩
      obtain ⟨v, hv, A, c, rfl, hpc, hpC⟩ := Pcs_at HP.out.1 hp
      have hpl : p.length < 140737488355328 := by
        have h1 := splitR_parts l0 p (List.mem_of_getElem? hp)
        have h2 := HS.out.2.2.2.1
        omega
      have hF : bytes_Clone.f p = some p := by unfold bytes_Clone.f; rw [if_pos hpl]
      have htk : (splitR l0).take (k + 1) = (splitR l0).take k ++ [p] := by rw [List.take_add_one, hp]; rfl
      have hl24 : ((splitR l0).take k).length < 5864062014805 := by
        have h1 := HP.out.2.2.2.2.2
        have h2 := HS.out.2.2.2.1
        rw [List.length_take]
        omega
      have HC := Aside0.mk (⟨hpc, hpC, hF, htk, hl24⟩ : p.length ≤ c ∧ Kd.C (Kd.int .u8) W1 A p.length p ∧ bytes_Clone.f p = some p ∧ (splitR l0).take (k + 1) = (splitR l0).take k ++ [p] ∧ ((splitR l0).take k).length < 5864062014805)
      have hkz : ((k : Nat) : Int) < ((vs.length : Nat) : Int) := by omega
      have hcell : wr.cell? ⟨g, k, none⟩ = some (.slice A p.length c) := by
        unfold World.cell?
        have e : wr.heap[g]? = some (.cells vs.toArray 22) := (HB.out.block g HP.out.2.2.2.2.1).trans HP.out.2.2.2.1
        simp only [e]
        rw [List.getElem?_toArray]
        exact hv
      clear hpc hpC hF htk hl24 hp hv hpl
      go_wp2_with (first | (go_at_call 60; refine (bytes_Clone.calls A c p p _ (Kd.C_below HC.out.2.1 HB.out) HC.out.1 HC.out.2.2.1).mono ?_; rintro e w46 ⟨v154, rfl, ho0, hb⟩; have n0_ := Aside0.mk (Kd.R_lower ho0 (below_size HB.out)); have n1_ := Aside0.mk (Kd.S_elder' HO.out (Kd.R_base ho0) hb); have n3_ := Aside0.mk (below_step HB.out hb); clear HO; clear HB; have HO155 := n0_; have HO := n1_; have HB := n3_; clear n0_ n1_ n3_; clear ho0 hb; obtain ⟨Ao14, co14, eo14⟩ := Kd.R_slice HO155.out; subst eo14) | ((with_reducible refine gate_builtin (b := .append) (xs := #[.tmp 14, .tmp 17]) rfl ?_); at_builtin; refine Kd.S_append (Kd.slice 5 (Kd.int .u8)) (w0 := W1) W1.heap.size rfl (.tmp 14) (.tmp 17) 78 22 (.slice none 0 0) 24 rfl Tryd.underlying78 info22 rfl (by decide) (by omega) u3 ((splitR l0).take k) p [.slice Ao14 p.length co14] (fun _ => True) (fun k_ => some k_ = (.slice Ao14 p.length co14 : Value).ownBlock) rfl rfl ?aP (fun k_ hk_ => ((Kd.R_mono (ok' := fun k_ => ((fun _ => True)) k_ ∧ some k_ ≠ (u3 : Value).ownBlock) (Kd.R_apart' (HO155.out) (Kd.S_typed HO.out) (by decide)) (fun k_ hk => ⟨trivial, hk.2⟩))).1 k_ hk_.symm) ?aF ?aO ?aB ?aS ?aL ?_; (case aP => exact Kd.M_row (Kd.R_mono (Kd.R_tight rfl (Kd.R_mono (ok' := fun k_ => ((fun _ => True)) k_ ∧ some k_ ≠ (u3 : Value).ownBlock) (Kd.R_apart' (HO155.out) (Kd.S_typed HO.out) (by decide)) (fun k_ hk => ⟨trivial, hk.2⟩))) (fun _ h_ => h_))); (case aB => exact (by repeat (first | (with_reducible first | exact HB.out | apply below_alloc | apply pw_below_drewN | apply below_drew1) | exact HB.out))); (case aF => exact (fun _ _ => trivial)); (case aO => exact (by (with_reducible repeat (first | apply Kd.S_alloc | apply Kd.S_drewN | apply Kd.S_drew)); exact Kd.S_mono HO.out (fun k_ hk => ⟨trivial, fun e_ => hk.2 e_⟩))); (case aS => exact (below_size (by repeat (first | (with_reducible first | exact HB.out | apply below_alloc | apply pw_below_drewN | apply below_drew1) | exact HB.out)))); (case aL => have := HC.out.2.2.2.2; omega); intro v169 w13 ho hb hg hat; rw [← HC.out.2.2.2.1] at ho; have n0_ := Aside0.mk (hb); have n1_ := Aside0.mk (ho); clear HB; clear HO; clear HO155; have HB := n0_; have HO := n1_; clear n0_ n1_; clear ho hb hg hat))
      go_roundg (vs.length - (k + 1))
      case measure => omega
      case rel => exact ⟨k + 1, by have h1 := HP.out.2.2.2.2.2; have h2 := HS.out.2.2.2.1; simp only [Value.int.injEq, true_and]; unfold wrap64; omega, by omega, rfl, ⟨by (with_reducible repeat (first | apply Kd.S_alloc | apply Kd.S_drewN | apply Kd.S_drew)); exact HO.out⟩, ⟨by repeat (first | (with_reducible first | exact HB.out | apply below_alloc | apply pw_below_drewN | apply below_drew1) | exact HB.out)⟩⟩
    · have hkn : ¬ ((k : Nat) : Int) < ((vs.length : Nat) : Int) := by omega
      go_wp2
      go_ret
      refine ⟨_, rfl, ?_, below_step HP.out.2.1 HB.out⟩
      have h1 := HO.out
      rw [List.take_of_length_le (by rw [← HP.out.2.2.1]; omega)] at h1
      exact Kd.S_lower h1 HP.out.2.1.size

end Go.Proofs.YtcochbkdgjgaeaaDoor.X
end
section
-- Written by wip/xprint.py over the kit's print.py: the Lean function of each Go function, and the proof that the Go text comes to it.
namespace Go.Proofs.YtcochbkdgjgaeaaDoor.X
open Go.RowKit Go.Proofs.YtcochbkdgjgaeaaDoorW.PrintWords Go.Proofs.YtcochbkdgjgaeaaDoorW.PrintLast Go.Proofs.YtcochbkdgjgaeaaDoorW.PrintMore
attribute [local go_sem] max2_int min2_int max_two min_two max_three min_three max_four min_four   -- for this text's walks alone
set_option linter.unusedVariables false
set_option linter.unusedSimpArgs false

/-! ### object_paragraphs: function 28 -/
mutual
def object_paragraphs.l0 : Nat → List Int → Int → Int → Bool → List (S76) → Int → List (List Int) → Int → Int → Option (Int × Int × Bool)
  | 0, _, _, _, _, _, _, _, _, _ => none
  | k + 1, x0, x1, x2, x3, x11, x12, x24, x25, x26 => if x26 < x25 then (if 0 ≤ x26 then (if x26 < (x24.length : Int) then (if (x11.length : Int) = 0 then (object_paragraphs.j1 k x0 x1 x2 x3 x11 x12 x26 (((rd_L4 x24 x26).length : Int) == 0) x24 x25 x26 true) else (if 0 ≤ (wrap64 ((x11.length : Int) - 1)) then (if (wrap64 ((x11.length : Int) - 1)) < (x11.length : Int) then (object_paragraphs.j1 k x0 x1 x2 x3 x11 x12 x26 (((rd_L4 x24 x26).length : Int) == 0) x24 x25 x26 (((rd_T76 x11 (wrap64 ((x11.length : Int) - 1))).f2) != (((rd_L4 x24 x26).length : Int) == 0))) else (none)) else (none))) else (none)) else (none)) else ((object_taken.f k x11 x12 x2 x3).bind fun bt171 => (if bt171.2.2 = true then (if 0 ≤ bt171.1 then (if bt171.1 < (x11.length : Int) then ((lines_Start.f k x0 ((rd_T76 x11 bt171.1).f0)).bind fun bt175 => (if 0 ≤ (wrap64 (bt171.2.1 - 1)) then (if (wrap64 (bt171.2.1 - 1)) < (x11.length : Int) then ((lines_Start.f k x0 (wrap64 (((rd_T76 x11 (wrap64 (bt171.2.1 - 1))).f1) - 1))).bind fun bt178 => (some (bt175.1, bt178.1, true))) else (none)) else (none))) else (none)) else (none)) else (some (0, 0, false))))
def object_paragraphs.j1 : Nat → List Int → Int → Int → Bool → List (S76) → Int → Int → Bool → List (List Int) → Int → Int → Bool → Option (Int × Int × Bool)
  | 0, _, _, _, _, _, _, _, _, _, _, _, _ => none
  | k + 1, x0, x1, x2, x3, x11, x12, x13, x15, x24, x25, x26, x47 => if x47 = true then (if x11.length < 5864062014805 then ((some (x11 ++ [(⟨x13, 0, x15⟩ : S76)] : List (S76))).bind fun y166 => (if 0 ≤ (wrap64 ((y166.length : Int) - 1)) then (if (wrap64 ((y166.length : Int) - 1)) < (y166.length : Int) then ((some (y166.set ((wrap64 ((y166.length : Int) - 1)) : Int).toNat (⟨(rd_T76 y166 (wrap64 ((y166.length : Int) - 1))).f0, wrap64 (x13 + 1), (rd_T76 y166 (wrap64 ((y166.length : Int) - 1))).f2⟩ : S76) : List (S76))).bind fun y169 => (if x13 = x1 then (object_paragraphs.l0 k x0 x1 x2 x3 y169 (wrap64 ((y166.length : Int) - 1)) x24 x25 (wrap64 (x26 + 1))) else (object_paragraphs.l0 k x0 x1 x2 x3 y169 x12 x24 x25 (wrap64 (x26 + 1))))) else (none)) else (none))) else (none)) else (if 0 ≤ (wrap64 ((x11.length : Int) - 1)) then (if (wrap64 ((x11.length : Int) - 1)) < (x11.length : Int) then ((some (x11.set ((wrap64 ((x11.length : Int) - 1)) : Int).toNat (⟨(rd_T76 x11 (wrap64 ((x11.length : Int) - 1))).f0, wrap64 (x13 + 1), (rd_T76 x11 (wrap64 ((x11.length : Int) - 1))).f2⟩ : S76) : List (S76))).bind fun y170 => (if x13 = x1 then (object_paragraphs.l0 k x0 x1 x2 x3 y170 (wrap64 ((x11.length : Int) - 1)) x24 x25 (wrap64 (x26 + 1))) else (object_paragraphs.l0 k x0 x1 x2 x3 y170 x12 x24 x25 (wrap64 (x26 + 1))))) else (none)) else (none))
end
def object_paragraphs.f (k : Nat) (l0 : List Int) (a1 : Int) (a2 : Int) (a3 : Bool) : Option (Int × Int × Bool) := (lines_Split.f l0).bind fun t161 => (object_paragraphs.l0 k l0 a1 a2 a3 ([] : List (S76)) 0 t161 (t161.length : Int) 0)
theorem object_paragraphs.mono_l : ∀ k, (∀ y0 y1 y2 y3 y4 y5 y6 y7 y8, LeO (object_paragraphs.l0 k y0 y1 y2 y3 y4 y5 y6 y7 y8) (object_paragraphs.l0 (k + 1) y0 y1 y2 y3 y4 y5 y6 y7 y8)) ∧ (∀ y0 y1 y2 y3 y4 y5 y6 y7 y8 y9 y10 y11, LeO (object_paragraphs.j1 k y0 y1 y2 y3 y4 y5 y6 y7 y8 y9 y10 y11) (object_paragraphs.j1 (k + 1) y0 y1 y2 y3 y4 y5 y6 y7 y8 y9 y10 y11))
  | 0 => ⟨fun _ _ _ _ _ _ _ _ _ r h => by simp [object_paragraphs.l0] at h, fun _ _ _ _ _ _ _ _ _ _ _ _ r h => by simp [object_paragraphs.j1] at h⟩
  | k + 1 => by
    obtain ⟨ih0, ih1⟩ := object_paragraphs.mono_l k
    refine ⟨?_, ?_⟩
    · intro y0 y1 y2 y3 y4 y5 y6 y7 y8
      unfold object_paragraphs.l0
      repeat' first
      | (with_reducible exact ih0 _ _ _ _ _ _ _ _ _)
      | (with_reducible exact ih1 _ _ _ _ _ _ _ _ _ _ _ _)
      | (with_reducible exact lines_Start.mono _ _ _)
      | (with_reducible exact object_taken.mono _ _ _ _ _)
      | (with_reducible exact LeO.refl _)
      | (with_reducible exact LeO.none _)
      | (with_reducible refine LeO.ite ?_ ?_)
      | (with_reducible refine LeO.bind ?_ (fun _ => ?_))
      | exact ih0 _ _ _ _ _ _ _ _ _
      | exact ih1 _ _ _ _ _ _ _ _ _ _ _ _
      | exact lines_Start.mono _ _ _
      | exact object_taken.mono _ _ _ _ _
      | exact LeO.none _
      | refine LeO.ite ?_ ?_
      | refine LeO.bind ?_ (fun _ => ?_)
    · intro y0 y1 y2 y3 y4 y5 y6 y7 y8 y9 y10 y11
      unfold object_paragraphs.j1
      repeat' first
      | (with_reducible exact ih0 _ _ _ _ _ _ _ _ _)
      | (with_reducible exact ih1 _ _ _ _ _ _ _ _ _ _ _ _)
      | (with_reducible exact lines_Start.mono _ _ _)
      | (with_reducible exact object_taken.mono _ _ _ _ _)
      | (with_reducible exact LeO.refl _)
      | (with_reducible exact LeO.none _)
      | (with_reducible refine LeO.ite ?_ ?_)
      | (with_reducible refine LeO.bind ?_ (fun _ => ?_))
      | exact ih0 _ _ _ _ _ _ _ _ _
      | exact ih1 _ _ _ _ _ _ _ _ _ _ _ _
      | exact lines_Start.mono _ _ _
      | exact object_taken.mono _ _ _ _ _
      | exact LeO.none _
      | refine LeO.ite ?_ ?_
      | refine LeO.bind ?_ (fun _ => ?_)
theorem object_paragraphs.mono : ∀ a0 a1 a2 a3 k, LeO (object_paragraphs.f k a0 a1 a2 a3) (object_paragraphs.f (k + 1) a0 a1 a2 a3) := by
  intro a0 a1 a2 a3 k
  obtain ⟨ih0, ih1⟩ := object_paragraphs.mono_l k
  unfold object_paragraphs.f
  repeat' first
      | (with_reducible exact ih0 _ _ _ _ _ _ _ _ _)
      | (with_reducible exact ih1 _ _ _ _ _ _ _ _ _ _ _ _)
      | (with_reducible exact lines_Start.mono _ _ _)
      | (with_reducible exact object_taken.mono _ _ _ _ _)
      | (with_reducible exact LeO.refl _)
      | (with_reducible exact LeO.none _)
      | (with_reducible refine LeO.ite ?_ ?_)
      | (with_reducible refine LeO.bind ?_ (fun _ => ?_))
      | exact ih0 _ _ _ _ _ _ _ _ _
      | exact ih1 _ _ _ _ _ _ _ _ _ _ _ _
      | exact lines_Start.mono _ _ _
      | exact object_taken.mono _ _ _ _ _
      | exact LeO.none _
      | refine LeO.ite ?_ ?_
      | refine LeO.bind ?_ (fun _ => ?_)
set_option maxHeartbeats 8000000 in
set_option maxRecDepth 100000 in
theorem object_paragraphs.calls (k : Nat) (A0 : Option Addr) (c0 : Nat) (l0 : List Int) (a1 : Int) (a2 : Int) (a3 : Bool) (r1 : Int) (r2 : Int) (r3 : Bool) (w : World) (hr0 : Kd.C (Kd.int .u8) w A0 l0.length l0) (hc0 : l0.length ≤ c0) (h : object_paragraphs.f k l0 a1 a2 a3 = some (r1, r2, r3)) :
    Calls Tryd.prog 28 #[.slice A0 l0.length c0, .int .i64 a1, .int .i64 a2, .bool a3] w fun e w' => e = .returned (.tuple #[.int .i64 r1, .int .i64 r2, .bool r3]) ∧ Below w.heap.size w w' := by
  have hu76 := Tryd.underlying76
  have HR0 := Aside0.mk hr0
  have HC0 := Aside0.mk hc0
  clear hr0 hc0
  have HB := Aside0.mk (Below.refl w.heap.size w)
  have H : ((lines_Split.f l0).bind fun t161 => (object_paragraphs.l0 k l0 a1 a2 a3 ([] : List (S76)) 0 t161 (t161.length : Int) 0)) = some (r1, r2, r3) := h
  clear h
  replace H := Option.bind_eq_some_iff.mp H
  obtain ⟨t161, A50, H⟩ := H
  replace H : (object_paragraphs.l0 k l0 a1 a2 a3 ([] : List (S76)) 0 t161 (t161.length : Int) 0) = some (r1, r2, r3) := H
  have A5 := Aside0.mk A50
  clear A50
  have H' := Aside0.mk H
  clear H
  go_enter Tryd.func28, Tryd.ntmps28
  go_wp2_with (first | ((with_reducible refine gate_callee (f := 48) rfl ?_); refine goesL_ (some 24) rfl rfl Tryd.func48 (by kernel_rfl) rfl #[.slice A0 l0.length c0] rfl (by (try simp only [List.map_toArray, List.map_cons, List.map_nil]); first | done | rfl | (simp only [List.length_drop, List.length_take]; rfl)) ?_; (with_reducible refine (lines_Split.calls _ _ l0 t161 _ ?side1 ?side2 A5.out).mono ?_); (case side1 => repeat (first | exact HR0.out | (with_reducible refine Kd.C_alloc ?_ _) | (with_reducible refine Kd.C_drewN ?_ _) | (with_reducible refine Kd.C_drew ?_))); (case side2 => exact HC0.out); rintro e w6 ⟨v162, rfl, ho0, hb⟩; refine ⟨_, rfl, ?_⟩; have n0_ := Aside0.mk (Kd.S_lower ho0 (below_size (by repeat (first | (with_reducible first | exact HB.out | apply below_alloc | apply pw_below_drewN | apply below_drew1) | exact HB.out)))); have n1_ := Aside0.mk (below_step (by repeat (first | (with_reducible first | exact HB.out | apply below_alloc | apply pw_below_drewN | apply below_drew1) | exact HB.out)) hb); clear HB; have HO163 := n0_; have HB := n1_; clear n0_ n1_; (try clear hb); (try clear hb2); (try clear hk); (try clear hi); (try clear ho0); obtain ⟨Ao7, co7, eo7⟩ := Kd.S_slice HO163.out; subst eo7))
  go_loopg [11, 12, 26] k (fun kq v11 v12 v26 w' => ∃ (x11_1 : List (S76)) (x12_1 : Int) (x26_1 : Int), v12 = .int .i64 x12_1 ∧ v26 = .int .i64 x26_1 ∧ Aside0 (object_paragraphs.l0 kq l0 a1 a2 a3 x11_1 x12_1 t161 (t161.length : Int) x26_1 = some (r1, r2, r3)) ∧ Aside0 (kq ≤ k) ∧ Aside0 (Kd.R k76 76 w' w.heap.size (fun _ => True) v11 x11_1) ∧ Aside0 (Kd.S (Kd.slice 5 (Kd.int .u8)) 22 w' w.heap.size (fun _ => True) (.slice Ao7 t161.length co7) t161) ∧ Aside0 (Below w.heap.size w w'))
  case atStart => exact ⟨(([] : List (S76))), (0), (0), (by first | rfl | (simp; done) | (simp [*]; done)), (by first | rfl | (simp; done) | (simp [*]; done)), H', ⟨Nat.le_refl _⟩, ⟨by first | exact Kd.R_nil _ _ _ _ _ | exact Kd.N_nil _ _ _ _ _ | exact Kd.V_nil _ _ _ _ _ | exact Kd.Q_nil _ _ _ _ _ | exact Kd.S_nil _ _ _ _ _⟩, ⟨by (with_reducible repeat (first | apply Kd.S_alloc | apply Kd.S_drewN | apply Kd.S_drew)); exact HO163.out⟩, ⟨by repeat (first | (with_reducible first | exact HB.out | apply below_alloc | apply pw_below_drewN | apply below_drew1) | exact HB.out)⟩⟩
  case round =>
    clear H'
    try clear c2
    try clear p2
    try clear c4
    obtain ⟨x11_1, x12_1, x26_1, rfl, rfl, HA, HK1, HO_11, HO_24, HB⟩ := hrel
    cases gk with
    | zero => exact absurd HA.out (by simp [object_paragraphs.l0])
    | succ k1 =>
      have H := HA.out
      clear HA
      simp only [object_paragraphs.l0] at H
      by_cases c8 : x26_1 < (t161.length : Int)
      · rw [if_pos c8] at H
        have c8b0 : decide (x26_1 < (t161.length : Int)) = true := decide_eq_true c8
        clear c8
        by_cases c9 : 0 ≤ x26_1
        · rw [if_pos c9] at H
          have c9b0 : decide (0 ≤ x26_1) = true := decide_eq_true c9
          clear c9
          by_cases c10 : x26_1 < (t161.length : Int)
          · rw [if_pos c10] at H
            have c10b0 : decide (x26_1 < (t161.length : Int)) = true := decide_eq_true c10
            clear c10
            have HC11 := Aside0.mk H
            clear H
            have p164 : 0 ≤ (x26_1 : Int) := of_decide_eq_true (by first | (with_reducible assumption) | assumption)
            have q164 : x26_1 < (t161.length : Int) := of_decide_eq_true (by first | (with_reducible assumption) | assumption)
            obtain ⟨ad164, A164_0, c164_0, e164, hx164_0, hl164_0, hi164_0⟩ := at_L4 (Kd.S_reads' HO_24.out).2.2 x26_1 p164 q164
            cases e164
            obtain ⟨ce164, hce164, hMe164, hcc164⟩ := Kd.S_get HO_24.out [] x26_1 p164 (by first | exact q164 | exact of_decide_eq_true (by first | (with_reducible assumption) | assumption) | (have e_ := (Kd.S_reads' HO_24.out).1; omega))
            obtain ⟨ve164_0, rfl, ge164_0⟩ := hMe164
            have hv164_0 := hcc164 0 _ rfl
            rw [Nat.add_zero, show ((Kd.slice 5 (Kd.int .u8))).sz = 1 from rfl, Nat.mul_one] at hv164_0
            replace hv164_0 := Option.some.inj (hv164_0.symm.trans hx164_0)
            rw [hv164_0] at ge164_0
            have HL164_0 := Aside0.mk (show Kd.R (Kd.int .u8) 5 _ _ _ _ (rd_L4 t161 x26_1) from ge164_0)
            clear hv164_0 ge164_0
            clear hcc164 hce164
            have HR164_0 := Aside0.mk hi164_0
            have HC164_0 := Aside0.mk hl164_0
            clear hi164_0 hl164_0
            replace p164 := eq_true p164
            replace q164 := eq_true q164
            go_upto_region 7 with (fail)
            go_cut [47] (fun v47 wc => ∃ (kq : Nat) (x47_10 : Bool), v47 = .bool x47_10 ∧ Aside0 (object_paragraphs.j1 kq l0 a1 a2 a3 x11_1 x12_1 x26_1 (((rd_L4 t161 x26_1).length : Int) == 0) t161 (t161.length : Int) x26_1 x47_10 = some (r1, r2, r3)) ∧ Aside0 (kq ≤ k1) ∧ Aside0 (Kd.R k76 76 wc w.heap.size (fun _ => True) u11 x11_1) ∧ Aside0 (Kd.S (Kd.slice 5 (Kd.int .u8)) 22 wc w.heap.size (fun _ => True) (.slice (some ad164) t161.length co7) t161) ∧ Aside0 (Kd.C (Kd.int .u8) wc A164_0 (rd_L4 t161 x26_1).length (rd_L4 t161 x26_1)) ∧ Aside0 (Below w.heap.size w wc))
            case first =>
              have H := HC11.out
              clear HC11
              by_cases c12 : (x11_1.length : Int) = 0
              · rw [if_pos c12] at H
                have c12b0 : ((x11_1.length : Int) == 0) = true := beq_iff_eq.mpr c12
                have c12b1 : ((x11_1.length : Int) != 0) = false := bne_eq_false_iff_eq.mpr c12
                clear c12
                (first | rw [c12b0] | (simp only [i64_w, i32_w]; rw [c12b0]) | skip)
                have H' := Aside0.mk H
                clear H
                obtain ⟨Ao13, co13, eo13⟩ := Kd.R_slice HO_11.out
                subst eo13
                go_wp2
                go_meet
                case rel => exact ⟨_, (true), (by first | rfl | (simp; done) | (simp [*]; done)), H', ⟨by have := HK1.out; first | omega | exact Nat.le_refl _⟩, ⟨by (with_reducible repeat (first | apply Kd.R_alloc | apply Kd.R_drewN | apply Kd.R_drew)); exact HO_11.out⟩, ⟨by (with_reducible repeat (first | apply Kd.S_alloc | apply Kd.S_drewN | apply Kd.S_drew)); exact HO_24.out⟩, ⟨by repeat (first | (with_reducible exact HR164_0.out) | (with_reducible refine Kd.C_alloc ?_ _) | (with_reducible refine Kd.C_drewN ?_ _) | (with_reducible refine Kd.C_drew ?_) | exact HR164_0.out)⟩, ⟨by repeat (first | (with_reducible first | exact HB.out | apply below_alloc | apply pw_below_drewN | apply below_drew1) | exact HB.out)⟩⟩
              · rw [if_neg c12] at H
                have c12b0 : ((x11_1.length : Int) == 0) = false := beq_eq_false_iff_ne.mpr c12
                have c12b1 : ((x11_1.length : Int) != 0) = true := bne_iff_ne.mpr c12
                have c12b2 : ¬ (x11_1 = []) := fun h_ => c12 (by rw [h_]; rfl)
                (first | rw [c12b0] | (simp only [i64_w, i32_w]; rw [c12b0]) | skip)
                obtain ⟨ji14, hji14⟩ : ∃ j_ : Int, (wrap64 ((x11_1.length : Int) - 1)) = j_ := ⟨_, rfl⟩
                replace H : (if 0 ≤ (ji14) then (if (ji14) < (x11_1.length : Int) then (object_paragraphs.j1 k1 l0 a1 a2 a3 x11_1 x12_1 x26_1 (((rd_L4 t161 x26_1).length : Int) == 0) t161 (t161.length : Int) x26_1 (((rd_T76 x11_1 (ji14)).f2) != (((rd_L4 t161 x26_1).length : Int) == 0))) else (none)) else (none)) = some (r1, r2, r3) := by first | (rw [hji14] at H; exact H) | (simp only [hji14] at H ⊢; exact H)
                have hji14w : (IntKind.i64.wrap ((x11_1.length : Int) - 1)) = ji14 := (i64_w _).trans hji14
                by_cases c15 : 0 ≤ (ji14)
                · rw [if_pos c15] at H
                  have c15b0 : decide (0 ≤ (ji14)) = true := decide_eq_true c15
                  clear c15
                  by_cases c16 : (ji14) < (x11_1.length : Int)
                  · rw [if_pos c16] at H
                    have c16b0 : decide ((ji14) < (x11_1.length : Int)) = true := decide_eq_true c16
                    clear c16
                    have H' := Aside0.mk H
                    clear H
                    obtain ⟨Ao17, co17, eo17⟩ := Kd.R_slice HO_11.out
                    subst eo17
                    have p165 : 0 ≤ ((ji14) : Int) := of_decide_eq_true (by first | (with_reducible assumption) | assumption)
                    have q165 : (ji14) < (x11_1.length : Int) := of_decide_eq_true (by first | (with_reducible assumption) | assumption)
                    obtain ⟨ad165, e165, hx165_0, hx165_1, hx165_2⟩ := at_T76 (Kd.R_reads' HO_11.out).2.2 (ji14) p165 q165
                    cases e165
                    replace p165 := eq_true p165
                    replace q165 := eq_true q165
                    go_wp2
                    go_meet
                    case rel => exact ⟨_, ((((rd_T76 x11_1 (ji14)).f2) != (((rd_L4 t161 x26_1).length : Int) == 0))), (by first | rfl | (simp; done) | (simp only [← hji14] <;> (first | rfl | simp)) | (simp [*]; done)), H', ⟨by have := HK1.out; first | omega | exact Nat.le_refl _⟩, ⟨by (with_reducible repeat (first | apply Kd.R_alloc | apply Kd.R_drewN | apply Kd.R_drew)); exact HO_11.out⟩, ⟨by (with_reducible repeat (first | apply Kd.S_alloc | apply Kd.S_drewN | apply Kd.S_drew)); exact HO_24.out⟩, ⟨by repeat (first | (with_reducible exact HR164_0.out) | (with_reducible refine Kd.C_alloc ?_ _) | (with_reducible refine Kd.C_drewN ?_ _) | (with_reducible refine Kd.C_drew ?_) | exact HR164_0.out)⟩, ⟨by repeat (first | (with_reducible first | exact HB.out | apply below_alloc | apply pw_below_drewN | apply below_drew1) | exact HB.out)⟩⟩
                  · rw [if_neg c16] at H
                    exact absurd H (by simp)
                · rw [if_neg c15] at H
                  exact absurd H (by simp)
            case rest =>
              clear HC11
              try clear c1
              try clear p1
              try clear q1
              try clear hx1
              try clear c2
              try clear p2
              try clear c4
              try clear p6
              try clear c8
              try clear c8b0
              try clear c9
              try clear c9b0
              try clear c10
              try clear c10b0
              try clear c12
              try clear c12b0
              try clear c12b1
              try clear c12b2
              try clear c15
              try clear c15b0
              try clear c16
              try clear c16b0
              try clear p16
              try clear q16
              try clear hx16
              try clear hx164_0
              try clear hx165_0
              try clear hx165_1
              try clear hx165_2
              try clear p164
              try clear p165
              try clear p2
              try clear q164
              try clear q165
              obtain ⟨kq, x47_10, rfl, HA, HJ10, HO_11, HO_24, HR164_0, HB⟩ := hcut
              cases kq with
              | zero => exact absurd HA.out (by simp [object_paragraphs.j1])
              | succ kj10 =>
                have H := HA.out
                clear HA
                simp only [object_paragraphs.j1] at H
                by_cases c18 : x47_10 = true
                · subst c18
                  have H1 : (if x11_1.length < 5864062014805 then ((some (x11_1 ++ [(⟨x26_1, 0, (((rd_L4 t161 x26_1).length : Int) == 0)⟩ : S76)] : List (S76))).bind fun y166 => (if 0 ≤ (wrap64 ((y166.length : Int) - 1)) then (if (wrap64 ((y166.length : Int) - 1)) < (y166.length : Int) then ((some (y166.set ((wrap64 ((y166.length : Int) - 1)) : Int).toNat (⟨(rd_T76 y166 (wrap64 ((y166.length : Int) - 1))).f0, wrap64 (x26_1 + 1), (rd_T76 y166 (wrap64 ((y166.length : Int) - 1))).f2⟩ : S76) : List (S76))).bind fun y169 => (if x26_1 = a1 then (object_paragraphs.l0 kj10 l0 a1 a2 a3 y169 (wrap64 ((y166.length : Int) - 1)) t161 (t161.length : Int) (wrap64 (x26_1 + 1))) else (object_paragraphs.l0 kj10 l0 a1 a2 a3 y169 x12_1 t161 (t161.length : Int) (wrap64 (x26_1 + 1))))) else (none)) else (none))) else (none)) = some (r1, r2, r3) := by rw [if_pos rfl] at H; exact H
                  clear H
                  have H := H1
                  clear H1
                  by_cases c19 : x11_1.length < 5864062014805
                  · rw [if_pos c19] at H
                    have LMc19 := Aside0.mk c19
                    clear c19
                    obtain ⟨y166, hy166⟩ : ∃ y_ : List (S76), y_ = (x11_1 ++ [(⟨x26_1, 0, (((rd_L4 t161 x26_1).length : Int) == 0)⟩ : S76)]) := ⟨_, rfl⟩
                    replace H : (if 0 ≤ (wrap64 ((y166.length : Int) - 1)) then (if (wrap64 ((y166.length : Int) - 1)) < (y166.length : Int) then ((some (y166.set ((wrap64 ((y166.length : Int) - 1)) : Int).toNat (⟨(rd_T76 y166 (wrap64 ((y166.length : Int) - 1))).f0, wrap64 (x26_1 + 1), (rd_T76 y166 (wrap64 ((y166.length : Int) - 1))).f2⟩ : S76) : List (S76))).bind fun y169 => (if x26_1 = a1 then (object_paragraphs.l0 kj10 l0 a1 a2 a3 y169 (wrap64 ((y166.length : Int) - 1)) t161 (t161.length : Int) (wrap64 (x26_1 + 1))) else (object_paragraphs.l0 kj10 l0 a1 a2 a3 y169 x12_1 t161 (t161.length : Int) (wrap64 (x26_1 + 1))))) else (none)) else (none)) = some (r1, r2, r3) := by first | (rw [hy166]; with_reducible exact H) | (have H2_ := (Option.bind_some _ _).symm.trans H; rw [hy166]; with_reducible exact H2_) | (have H2_ := (Option.bind_some _ _).symm.trans H; with_reducible exact H2_) | with_reducible exact H | (rw [hy166]; exact H) | exact H
                    have Ny166 := Aside0.mk hy166
                    clear hy166
                    obtain ⟨ji20, hji20⟩ : ∃ j_ : Int, (wrap64 ((y166.length : Int) - 1)) = j_ := ⟨_, rfl⟩
                    replace H : (if 0 ≤ (ji20) then (if (ji20) < (y166.length : Int) then ((some (y166.set ((ji20) : Int).toNat (⟨(rd_T76 y166 (ji20)).f0, wrap64 (x26_1 + 1), (rd_T76 y166 (ji20)).f2⟩ : S76) : List (S76))).bind fun y169 => (if x26_1 = a1 then (object_paragraphs.l0 kj10 l0 a1 a2 a3 y169 ji20 t161 (t161.length : Int) (wrap64 (x26_1 + 1))) else (object_paragraphs.l0 kj10 l0 a1 a2 a3 y169 x12_1 t161 (t161.length : Int) (wrap64 (x26_1 + 1))))) else (none)) else (none)) = some (r1, r2, r3) := by first | (rw [hji20] at H; exact H) | (simp only [hji20] at H ⊢; exact H)
                    have hji20w : (IntKind.i64.wrap ((y166.length : Int) - 1)) = ji20 := (i64_w _).trans hji20
                    by_cases c21 : 0 ≤ (ji20)
                    · rw [if_pos c21] at H
                      have c21b0 : decide (0 ≤ (ji20)) = true := decide_eq_true c21
                      clear c21
                      by_cases c22 : (ji20) < (y166.length : Int)
                      · rw [if_pos c22] at H
                        have c22b0 : decide ((ji20) < (y166.length : Int)) = true := decide_eq_true c22
                        clear c22
                        obtain ⟨y169, hy169⟩ : ∃ y_ : List (S76), y_ = (y166.set ((ji20) : Int).toNat (⟨(rd_T76 y166 (ji20)).f0, wrap64 (x26_1 + 1), (rd_T76 y166 (ji20)).f2⟩ : S76)) := ⟨_, rfl⟩
                        replace H : (if x26_1 = a1 then (object_paragraphs.l0 kj10 l0 a1 a2 a3 y169 ji20 t161 (t161.length : Int) (wrap64 (x26_1 + 1))) else (object_paragraphs.l0 kj10 l0 a1 a2 a3 y169 x12_1 t161 (t161.length : Int) (wrap64 (x26_1 + 1)))) = some (r1, r2, r3) := by first | (rw [hy169]; with_reducible exact H) | (have H2_ := (Option.bind_some _ _).symm.trans H; rw [hy169]; with_reducible exact H2_) | (have H2_ := (Option.bind_some _ _).symm.trans H; with_reducible exact H2_) | with_reducible exact H | (rw [hy169]; exact H) | exact H
                        have Ny169 := Aside0.mk hy169
                        clear hy169
                        by_cases c24 : x26_1 = a1
                        · rw [if_pos c24] at H
                          have c24b0 : (x26_1 == a1) = true := beq_iff_eq.mpr c24
                          have c24b1 : (x26_1 != a1) = false := bne_eq_false_iff_eq.mpr c24
                          clear c24
                          have H' := Aside0.mk H
                          clear H
                          go_wp2_with (first | ((with_reducible refine gate_builtin (b := .append) (xs := #[.tmp 48, .tmp 52]) rfl ?_); (try (refine gate_guard (by rfl) ?_; dsimp only)); at_builtin; refine Kd.R_append k76 (w0 := w) w.heap.size rfl (.tmp 48) (.tmp 52) 73 76 (.agg #[(.int .i64 0), (.int .i64 0), (.bool false)]) 24 rfl Tryd.underlying73 info76 rfl (by decide) (by omega) u11 x11_1 (⟨x26_1, 0, (((rd_L4 t161 x26_1).length : Int) == 0)⟩ : S76) [.int .i64 x26_1, .int .i64 0, .bool (((rd_L4 t161 x26_1).length : Int) == 0)] (fun _ => True) (fun _ => False) rfl rfl ?aP (fun _ hk => hk.elim) ?aF ?aO ?aB ?aS ?aL ?_; (case aP => exact k76_mkM _ _ _ (⟨x26_1, 0, (((rd_L4 t161 x26_1).length : Int) == 0)⟩ : S76)); (case aB => exact (by repeat (first | (with_reducible first | exact HB.out | apply below_alloc | apply pw_below_drewN | apply below_drew1) | exact HB.out))); (case aF => exact (fun _ _ => trivial)); (case aO => exact (by (with_reducible repeat (first | apply Kd.R_alloc | apply Kd.R_drewN | apply Kd.R_drew)); exact HO_11.out)); (case aS => exact (below_size (by repeat (first | (with_reducible first | exact HB.out | apply below_alloc | apply pw_below_drewN | apply below_drew1) | exact HB.out)))); (case aL => have := LMc19.out; omega); intro v167 w25 ho hb hg hat; rw [← Ny166.out] at ho; have n0_ := Aside0.mk (Kd.S_over' (by (with_reducible repeat (first | apply Kd.S_alloc | apply Kd.S_drewN | apply Kd.S_drew)); exact HO_24.out) (Kd.R_typed (by (with_reducible repeat (first | apply Kd.R_alloc | apply Kd.R_drewN | apply Kd.R_drew)); exact HO_11.out)) (by decide) hg); have n1_ := Aside0.mk (hb); have n2_ := Aside0.mk (ho); clear HO_24; clear HB; clear HO_11; have HO_24 := n0_; have HB := n1_; have HO168 := n2_; clear n0_ n1_ n2_; clear ho hb hg hat; obtain ⟨Ao26, co26, eo26⟩ := Kd.R_slice HO168.out; subst eo26; have p23 : 0 ≤ ((ji20) : Int) := of_decide_eq_true (by first | (with_reducible assumption) | assumption); have q23 : ((ji20) : Int) < ((y166.length : Int) : Int) := of_decide_eq_true (by first | (with_reducible assumption) | assumption); obtain ⟨go23, co23, eo23, gb23, gl23, cl23, HG23⟩ := Kd.R_form HO168.out (by omega); (first | cases eo23 | (injection eo23 with ea_ en_ ec_; (first | subst ea_ | (injection ea_ with ea_; subst ea_)); subst ec_; clear en_)); have GB23 := Aside0.mk gb23; have GG23 := Aside0.mk HG23; clear gb23 gl23 HG23; obtain ⟨ce23, hcl23, hM23, hcc23, hfr23⟩ := Kd.R_elem HO168.out z76 ((ji20) : Int) p23 q23; obtain rfl := k76_openM hM23; have hx23_0 : w25.cell? ⟨go23, ((ji20) : Int).toNat * 3, none⟩ = some (.int .i64 ((rd_T76 y166 (ji20)).f0)) := hcc23 0 _ rfl; have hx23_1 : w25.cell? ⟨go23, ((ji20) : Int).toNat * 3 + 1, none⟩ = some (.int .i64 ((rd_T76 y166 (ji20)).f1)) := hcc23 1 _ rfl; have hx23_2 : w25.cell? ⟨go23, ((ji20) : Int).toNat * 3 + 2, none⟩ = some (.bool ((rd_T76 y166 (ji20)).f2)) := hcc23 2 _ rfl; have hf23_0 : w25.frozen? ⟨go23, ((ji20) : Int).toNat * 3, none⟩ = false := hfr23 0; have hf23_1 : w25.frozen? ⟨go23, ((ji20) : Int).toNat * 3 + 1, none⟩ = false := hfr23 1; have hf23_2 : w25.frozen? ⟨go23, ((ji20) : Int).toNat * 3 + 2, none⟩ = false := hfr23 2; clear hcl23 hcc23 hfr23 hM23; replace p23 := eq_true p23; replace q23 := eq_true q23; have HX27 := Aside0.mk (show Kd.R k76 76 w25 w.heap.size (fun _ => True) (.slice (some ⟨go23, 0, none⟩) y166.length co26) y166 from (by (with_reducible repeat (first | apply Kd.R_alloc | apply Kd.R_drewN | apply Kd.R_drew)); exact HO168.out)); obtain ⟨ce27, hcl27, hM27, hcc27, hfr27⟩ := Kd.R_elem HX27.out z76 ((ji20) : Int) (of_decide_eq_true (by first | (with_reducible assumption) | assumption)) (by have h_ : ((ji20) : Int) < ((y166.length : Int) : Int) := of_decide_eq_true (by first | (with_reducible assumption) | assumption); first | exact h_ | (have e_ := (Kd.R_reads' HO168.out).1; omega) | simpa using h_); obtain rfl := k76_openM hM27; have HP27 := Kd.R_seg HX27.out ((ji20) : Int) (of_decide_eq_true (by first | (with_reducible assumption) | assumption)) (by have h_ : ((ji20) : Int) < ((y166.length : Int) : Int) := of_decide_eq_true (by first | (with_reducible assumption) | assumption); first | exact h_ | (have e_ := (Kd.R_reads' HO168.out).1; omega) | simpa using h_) (seg := [.int .i64 (wrap64 (x26_1 + 1))]) (j := 1) hcl27 hcc27 (show 2 ≤ 3 from by decide) (x' := (⟨(rd_T76 y166 (ji20)).f0, wrap64 (x26_1 + 1), (rd_T76 y166 (ji20)).f2⟩ : S76)) (k76_mkM _ _ _ (⟨(rd_T76 y166 (ji20)).f0, wrap64 (x26_1 + 1), (rd_T76 y166 (ji20)).f2⟩ : S76) ) (fun _ hk => hk); have hx27_1 := hcc27 1 _ rfl; (try simp only [show (k76).sz = 3 from rfl, Nat.mul_one, Nat.add_zero] at hx27_1); have hf27_1 := hfr27 1; (try simp only [show (k76).sz = 3 from rfl, Nat.mul_one, Nat.add_zero] at hf27_1); clear hcl27 hcc27 hfr27 hM27) | ((with_reducible refine gate_store (t := 3) (p := 61) rfl ?_); refine store_event (t := 3) (p := 61) (v := ?vo_w28) (w1 := (w25.setCell ⟨go23, ((ji20) : Int).toNat * 3 + 1, none⟩ (.int .i64 (wrap64 (x26_1 + 1))))) ?hg ?ho ?hn ?hr ?_; (case ho => rfl); (case hg => rfl); (case hn => rfl); (case hr => first | (go_simp; done) | (go_simp; rfl)); intro w28 hw; have hg : w25.grownBy w28 (some go23) := (by rw [hw]; exact HP27.2); have hp_ : Kd.R k76 76 w28 w.heap.size (fun _ => True) (.slice (some ⟨go23, 0, none⟩) y166.length co26) y169 := (by rw [hw, Ny169.out]; exact HP27.1); clear HP27; have n0_ := Aside0.mk (Kd.S_over' (v := (.slice (some ⟨go23, 0, none⟩) y166.length co26)) (by (with_reducible repeat (first | apply Kd.S_alloc | apply Kd.S_drewN | apply Kd.S_drew)); exact HO_24.out) (Kd.R_typed HO168.out) (by decide) hg); have n1_ := Aside0.mk (hp_); have n2_ := Aside0.mk ((by rw [hw]; exact below_set (HB.out) GB23.out : Below w.heap.size w w28)); clear HO_24; clear HO168; clear HB; have HO_24 := n0_; have HO168 := n1_; have HB := n2_; clear n0_ n1_ n2_; clear hg hw hp_))
                          go_roundg kj10
                          case measure => have := HK1.out; have := HJ10.out; omega
                          case rel => exact ⟨(y169), (ji20), (wrap64 (x26_1 + 1)), (by first | rfl | (simp; done) | (simp only [← hji20] <;> (first | rfl | simp)) | (simp [*]; done)), (by first | rfl | (simp; done) | (simp [*]; done)), H', ⟨by have := HK1.out; have := HJ10.out; omega⟩, ⟨by (with_reducible repeat (first | apply Kd.R_alloc | apply Kd.R_drewN | apply Kd.R_drew)); exact HO168.out⟩, ⟨by (with_reducible repeat (first | apply Kd.S_alloc | apply Kd.S_drewN | apply Kd.S_drew)); exact HO_24.out⟩, ⟨by repeat (first | (with_reducible first | exact HB.out | apply below_alloc | apply pw_below_drewN | apply below_drew1) | exact HB.out)⟩⟩
                        · rw [if_neg c24] at H
                          have c24b0 : (x26_1 == a1) = false := beq_eq_false_iff_ne.mpr c24
                          have c24b1 : (x26_1 != a1) = true := bne_iff_ne.mpr c24
                          have H' := Aside0.mk H
                          clear H
                          go_wp2_with (first | ((with_reducible refine gate_builtin (b := .append) (xs := #[.tmp 48, .tmp 52]) rfl ?_); (try (refine gate_guard (by rfl) ?_; dsimp only)); at_builtin; refine Kd.R_append k76 (w0 := w) w.heap.size rfl (.tmp 48) (.tmp 52) 73 76 (.agg #[(.int .i64 0), (.int .i64 0), (.bool false)]) 24 rfl Tryd.underlying73 info76 rfl (by decide) (by omega) u11 x11_1 (⟨x26_1, 0, (((rd_L4 t161 x26_1).length : Int) == 0)⟩ : S76) [.int .i64 x26_1, .int .i64 0, .bool (((rd_L4 t161 x26_1).length : Int) == 0)] (fun _ => True) (fun _ => False) rfl rfl ?aP (fun _ hk => hk.elim) ?aF ?aO ?aB ?aS ?aL ?_; (case aP => exact k76_mkM _ _ _ (⟨x26_1, 0, (((rd_L4 t161 x26_1).length : Int) == 0)⟩ : S76)); (case aB => exact (by repeat (first | (with_reducible first | exact HB.out | apply below_alloc | apply pw_below_drewN | apply below_drew1) | exact HB.out))); (case aF => exact (fun _ _ => trivial)); (case aO => exact (by (with_reducible repeat (first | apply Kd.R_alloc | apply Kd.R_drewN | apply Kd.R_drew)); exact HO_11.out)); (case aS => exact (below_size (by repeat (first | (with_reducible first | exact HB.out | apply below_alloc | apply pw_below_drewN | apply below_drew1) | exact HB.out)))); (case aL => have := LMc19.out; omega); intro v167 w29 ho hb hg hat; rw [← Ny166.out] at ho; have n0_ := Aside0.mk (Kd.S_over' (by (with_reducible repeat (first | apply Kd.S_alloc | apply Kd.S_drewN | apply Kd.S_drew)); exact HO_24.out) (Kd.R_typed (by (with_reducible repeat (first | apply Kd.R_alloc | apply Kd.R_drewN | apply Kd.R_drew)); exact HO_11.out)) (by decide) hg); have n1_ := Aside0.mk (hb); have n2_ := Aside0.mk (ho); clear HO_24; clear HB; clear HO_11; have HO_24 := n0_; have HB := n1_; have HO168 := n2_; clear n0_ n1_ n2_; clear ho hb hg hat; obtain ⟨Ao30, co30, eo30⟩ := Kd.R_slice HO168.out; subst eo30; have p23 : 0 ≤ ((ji20) : Int) := of_decide_eq_true (by first | (with_reducible assumption) | assumption); have q23 : ((ji20) : Int) < ((y166.length : Int) : Int) := of_decide_eq_true (by first | (with_reducible assumption) | assumption); obtain ⟨go23, co23, eo23, gb23, gl23, cl23, HG23⟩ := Kd.R_form HO168.out (by omega); (first | cases eo23 | (injection eo23 with ea_ en_ ec_; (first | subst ea_ | (injection ea_ with ea_; subst ea_)); subst ec_; clear en_)); have GB23 := Aside0.mk gb23; have GG23 := Aside0.mk HG23; clear gb23 gl23 HG23; obtain ⟨ce23, hcl23, hM23, hcc23, hfr23⟩ := Kd.R_elem HO168.out z76 ((ji20) : Int) p23 q23; obtain rfl := k76_openM hM23; have hx23_0 : w29.cell? ⟨go23, ((ji20) : Int).toNat * 3, none⟩ = some (.int .i64 ((rd_T76 y166 (ji20)).f0)) := hcc23 0 _ rfl; have hx23_1 : w29.cell? ⟨go23, ((ji20) : Int).toNat * 3 + 1, none⟩ = some (.int .i64 ((rd_T76 y166 (ji20)).f1)) := hcc23 1 _ rfl; have hx23_2 : w29.cell? ⟨go23, ((ji20) : Int).toNat * 3 + 2, none⟩ = some (.bool ((rd_T76 y166 (ji20)).f2)) := hcc23 2 _ rfl; have hf23_0 : w29.frozen? ⟨go23, ((ji20) : Int).toNat * 3, none⟩ = false := hfr23 0; have hf23_1 : w29.frozen? ⟨go23, ((ji20) : Int).toNat * 3 + 1, none⟩ = false := hfr23 1; have hf23_2 : w29.frozen? ⟨go23, ((ji20) : Int).toNat * 3 + 2, none⟩ = false := hfr23 2; clear hcl23 hcc23 hfr23 hM23; replace p23 := eq_true p23; replace q23 := eq_true q23; have HX31 := Aside0.mk (show Kd.R k76 76 w29 w.heap.size (fun _ => True) (.slice (some ⟨go23, 0, none⟩) y166.length co30) y166 from (by (with_reducible repeat (first | apply Kd.R_alloc | apply Kd.R_drewN | apply Kd.R_drew)); exact HO168.out)); obtain ⟨ce31, hcl31, hM31, hcc31, hfr31⟩ := Kd.R_elem HX31.out z76 ((ji20) : Int) (of_decide_eq_true (by first | (with_reducible assumption) | assumption)) (by have h_ : ((ji20) : Int) < ((y166.length : Int) : Int) := of_decide_eq_true (by first | (with_reducible assumption) | assumption); first | exact h_ | (have e_ := (Kd.R_reads' HO168.out).1; omega) | simpa using h_); obtain rfl := k76_openM hM31; have HP31 := Kd.R_seg HX31.out ((ji20) : Int) (of_decide_eq_true (by first | (with_reducible assumption) | assumption)) (by have h_ : ((ji20) : Int) < ((y166.length : Int) : Int) := of_decide_eq_true (by first | (with_reducible assumption) | assumption); first | exact h_ | (have e_ := (Kd.R_reads' HO168.out).1; omega) | simpa using h_) (seg := [.int .i64 (wrap64 (x26_1 + 1))]) (j := 1) hcl31 hcc31 (show 2 ≤ 3 from by decide) (x' := (⟨(rd_T76 y166 (ji20)).f0, wrap64 (x26_1 + 1), (rd_T76 y166 (ji20)).f2⟩ : S76)) (k76_mkM _ _ _ (⟨(rd_T76 y166 (ji20)).f0, wrap64 (x26_1 + 1), (rd_T76 y166 (ji20)).f2⟩ : S76) ) (fun _ hk => hk); have hx31_1 := hcc31 1 _ rfl; (try simp only [show (k76).sz = 3 from rfl, Nat.mul_one, Nat.add_zero] at hx31_1); have hf31_1 := hfr31 1; (try simp only [show (k76).sz = 3 from rfl, Nat.mul_one, Nat.add_zero] at hf31_1); clear hcl31 hcc31 hfr31 hM31) | ((with_reducible refine gate_store (t := 3) (p := 61) rfl ?_); refine store_event (t := 3) (p := 61) (v := ?vo_w32) (w1 := (w29.setCell ⟨go23, ((ji20) : Int).toNat * 3 + 1, none⟩ (.int .i64 (wrap64 (x26_1 + 1))))) ?hg ?ho ?hn ?hr ?_; (case ho => rfl); (case hg => rfl); (case hn => rfl); (case hr => first | (go_simp; done) | (go_simp; rfl)); intro w32 hw; have hg : w29.grownBy w32 (some go23) := (by rw [hw]; exact HP31.2); have hp_ : Kd.R k76 76 w32 w.heap.size (fun _ => True) (.slice (some ⟨go23, 0, none⟩) y166.length co30) y169 := (by rw [hw, Ny169.out]; exact HP31.1); clear HP31; have n0_ := Aside0.mk (Kd.S_over' (v := (.slice (some ⟨go23, 0, none⟩) y166.length co30)) (by (with_reducible repeat (first | apply Kd.S_alloc | apply Kd.S_drewN | apply Kd.S_drew)); exact HO_24.out) (Kd.R_typed HO168.out) (by decide) hg); have n1_ := Aside0.mk (hp_); have n2_ := Aside0.mk ((by rw [hw]; exact below_set (HB.out) GB23.out : Below w.heap.size w w32)); clear HO_24; clear HO168; clear HB; have HO_24 := n0_; have HO168 := n1_; have HB := n2_; clear n0_ n1_ n2_; clear hg hw hp_))
                          go_roundg kj10
                          case measure => have := HK1.out; have := HJ10.out; omega
                          case rel => exact ⟨(y169), (x12_1), (wrap64 (x26_1 + 1)), (by first | rfl | (simp; done) | (simp [*]; done)), (by first | rfl | (simp; done) | (simp [*]; done)), H', ⟨by have := HK1.out; have := HJ10.out; omega⟩, ⟨by (with_reducible repeat (first | apply Kd.R_alloc | apply Kd.R_drewN | apply Kd.R_drew)); exact HO168.out⟩, ⟨by (with_reducible repeat (first | apply Kd.S_alloc | apply Kd.S_drewN | apply Kd.S_drew)); exact HO_24.out⟩, ⟨by repeat (first | (with_reducible first | exact HB.out | apply below_alloc | apply pw_below_drewN | apply below_drew1) | exact HB.out)⟩⟩
                      · rw [if_neg c22] at H
                        exact absurd H (by simp)
                    · rw [if_neg c21] at H
                      exact absurd H (by simp)
                  · rw [if_neg c19] at H
                    exact absurd H (by simp)
                · replace c18 := Bool.eq_false_iff.mpr c18
                  subst c18
                  have H1 : (if 0 ≤ (wrap64 ((x11_1.length : Int) - 1)) then (if (wrap64 ((x11_1.length : Int) - 1)) < (x11_1.length : Int) then ((some (x11_1.set ((wrap64 ((x11_1.length : Int) - 1)) : Int).toNat (⟨(rd_T76 x11_1 (wrap64 ((x11_1.length : Int) - 1))).f0, wrap64 (x26_1 + 1), (rd_T76 x11_1 (wrap64 ((x11_1.length : Int) - 1))).f2⟩ : S76) : List (S76))).bind fun y170 => (if x26_1 = a1 then (object_paragraphs.l0 kj10 l0 a1 a2 a3 y170 (wrap64 ((x11_1.length : Int) - 1)) t161 (t161.length : Int) (wrap64 (x26_1 + 1))) else (object_paragraphs.l0 kj10 l0 a1 a2 a3 y170 x12_1 t161 (t161.length : Int) (wrap64 (x26_1 + 1))))) else (none)) else (none)) = some (r1, r2, r3) := by rw [if_neg (show ¬ (false = true) by decide)] at H; exact H
                  clear H
                  have H := H1
                  clear H1
                  obtain ⟨ji33, hji33⟩ : ∃ j_ : Int, (wrap64 ((x11_1.length : Int) - 1)) = j_ := ⟨_, rfl⟩
                  replace H : (if 0 ≤ (ji33) then (if (ji33) < (x11_1.length : Int) then ((some (x11_1.set ((ji33) : Int).toNat (⟨(rd_T76 x11_1 (ji33)).f0, wrap64 (x26_1 + 1), (rd_T76 x11_1 (ji33)).f2⟩ : S76) : List (S76))).bind fun y170 => (if x26_1 = a1 then (object_paragraphs.l0 kj10 l0 a1 a2 a3 y170 ji33 t161 (t161.length : Int) (wrap64 (x26_1 + 1))) else (object_paragraphs.l0 kj10 l0 a1 a2 a3 y170 x12_1 t161 (t161.length : Int) (wrap64 (x26_1 + 1))))) else (none)) else (none)) = some (r1, r2, r3) := by first | (rw [hji33] at H; exact H) | (simp only [hji33] at H ⊢; exact H)
                  have hji33w : (IntKind.i64.wrap ((x11_1.length : Int) - 1)) = ji33 := (i64_w _).trans hji33
                  by_cases c34 : 0 ≤ (ji33)
                  · rw [if_pos c34] at H
                    have c34b0 : decide (0 ≤ (ji33)) = true := decide_eq_true c34
                    clear c34
                    by_cases c35 : (ji33) < (x11_1.length : Int)
                    · rw [if_pos c35] at H
                      have c35b0 : decide ((ji33) < (x11_1.length : Int)) = true := decide_eq_true c35
                      clear c35
                      obtain ⟨y170, hy170⟩ : ∃ y_ : List (S76), y_ = (x11_1.set ((ji33) : Int).toNat (⟨(rd_T76 x11_1 (ji33)).f0, wrap64 (x26_1 + 1), (rd_T76 x11_1 (ji33)).f2⟩ : S76)) := ⟨_, rfl⟩
                      replace H : (if x26_1 = a1 then (object_paragraphs.l0 kj10 l0 a1 a2 a3 y170 ji33 t161 (t161.length : Int) (wrap64 (x26_1 + 1))) else (object_paragraphs.l0 kj10 l0 a1 a2 a3 y170 x12_1 t161 (t161.length : Int) (wrap64 (x26_1 + 1)))) = some (r1, r2, r3) := by first | (rw [hy170]; with_reducible exact H) | (have H2_ := (Option.bind_some _ _).symm.trans H; rw [hy170]; with_reducible exact H2_) | (have H2_ := (Option.bind_some _ _).symm.trans H; with_reducible exact H2_) | with_reducible exact H | (rw [hy170]; exact H) | exact H
                      have Ny170 := Aside0.mk hy170
                      clear hy170
                      by_cases c37 : x26_1 = a1
                      · rw [if_pos c37] at H
                        have c37b0 : (x26_1 == a1) = true := beq_iff_eq.mpr c37
                        have c37b1 : (x26_1 != a1) = false := bne_eq_false_iff_eq.mpr c37
                        clear c37
                        have H' := Aside0.mk H
                        clear H
                        obtain ⟨Ao38, co38, eo38⟩ := Kd.R_slice HO_11.out
                        subst eo38
                        have p36 : 0 ≤ ((ji33) : Int) := of_decide_eq_true (by first | (with_reducible assumption) | assumption)
                        have q36 : ((ji33) : Int) < ((x11_1.length : Int) : Int) := of_decide_eq_true (by first | (with_reducible assumption) | assumption)
                        obtain ⟨go36, co36, eo36, gb36, gl36, cl36, HG36⟩ := Kd.R_form HO_11.out (by omega)
                        (first | cases eo36 | (injection eo36 with ea_ en_ ec_; (first | subst ea_ | (injection ea_ with ea_; subst ea_)); subst ec_; clear en_))
                        have GB36 := Aside0.mk gb36
                        have GG36 := Aside0.mk HG36
                        clear gb36 gl36 HG36
                        obtain ⟨ce36, hcl36, hM36, hcc36, hfr36⟩ := Kd.R_elem HO_11.out z76 ((ji33) : Int) p36 q36
                        obtain rfl := k76_openM hM36
                        have hx36_0 : wc.cell? ⟨go36, ((ji33) : Int).toNat * 3, none⟩ = some (.int .i64 ((rd_T76 x11_1 (ji33)).f0)) := hcc36 0 _ rfl
                        have hx36_1 : wc.cell? ⟨go36, ((ji33) : Int).toNat * 3 + 1, none⟩ = some (.int .i64 ((rd_T76 x11_1 (ji33)).f1)) := hcc36 1 _ rfl
                        have hx36_2 : wc.cell? ⟨go36, ((ji33) : Int).toNat * 3 + 2, none⟩ = some (.bool ((rd_T76 x11_1 (ji33)).f2)) := hcc36 2 _ rfl
                        have hf36_0 : wc.frozen? ⟨go36, ((ji33) : Int).toNat * 3, none⟩ = false := hfr36 0
                        have hf36_1 : wc.frozen? ⟨go36, ((ji33) : Int).toNat * 3 + 1, none⟩ = false := hfr36 1
                        have hf36_2 : wc.frozen? ⟨go36, ((ji33) : Int).toNat * 3 + 2, none⟩ = false := hfr36 2
                        clear hcl36 hcc36 hfr36 hM36
                        replace p36 := eq_true p36
                        replace q36 := eq_true q36
                        have HX39 := Aside0.mk (show Kd.R k76 76 wc w.heap.size (fun _ => True) (.slice (some ⟨go36, 0, none⟩) x11_1.length co38) x11_1 from (by (with_reducible repeat (first | apply Kd.R_alloc | apply Kd.R_drewN | apply Kd.R_drew)); exact HO_11.out))
                        obtain ⟨ce39, hcl39, hM39, hcc39, hfr39⟩ := Kd.R_elem HX39.out z76 ((ji33) : Int) (of_decide_eq_true (by first | (with_reducible assumption) | assumption)) (by have h_ : ((ji33) : Int) < ((x11_1.length : Int) : Int) := of_decide_eq_true (by first | (with_reducible assumption) | assumption); first | exact h_ | (have e_ := (Kd.R_reads' HO_11.out).1; omega) | simpa using h_)
                        obtain rfl := k76_openM hM39
                        have HP39 := Kd.R_seg HX39.out ((ji33) : Int) (of_decide_eq_true (by first | (with_reducible assumption) | assumption)) (by have h_ : ((ji33) : Int) < ((x11_1.length : Int) : Int) := of_decide_eq_true (by first | (with_reducible assumption) | assumption); first | exact h_ | (have e_ := (Kd.R_reads' HO_11.out).1; omega) | simpa using h_) (seg := [.int .i64 (wrap64 (x26_1 + 1))]) (j := 1) hcl39 hcc39 (show 2 ≤ 3 from by decide) (x' := (⟨(rd_T76 x11_1 (ji33)).f0, wrap64 (x26_1 + 1), (rd_T76 x11_1 (ji33)).f2⟩ : S76)) (k76_mkM _ _ _ (⟨(rd_T76 x11_1 (ji33)).f0, wrap64 (x26_1 + 1), (rd_T76 x11_1 (ji33)).f2⟩ : S76) ) (fun _ hk => hk)
                        have hx39_1 := hcc39 1 _ rfl
                        (try simp only [show (k76).sz = 3 from rfl, Nat.mul_one, Nat.add_zero] at hx39_1)
                        have hf39_1 := hfr39 1
                        (try simp only [show (k76).sz = 3 from rfl, Nat.mul_one, Nat.add_zero] at hf39_1)
                        clear hcl39 hcc39 hfr39 hM39
                        go_wp2_with (first | ((with_reducible refine gate_store (t := 3) (p := 61) rfl ?_); refine store_event (t := 3) (p := 61) (v := ?vo_w40) (w1 := (wc.setCell ⟨go36, ((ji33) : Int).toNat * 3 + 1, none⟩ (.int .i64 (wrap64 (x26_1 + 1))))) ?hg ?ho ?hn ?hr ?_; (case ho => rfl); (case hg => rfl); (case hn => rfl); (case hr => first | (go_simp; done) | (go_simp; rfl)); intro w40 hw; have hg : wc.grownBy w40 (some go36) := (by rw [hw]; exact HP39.2); have hp_ : Kd.R k76 76 w40 w.heap.size (fun _ => True) (.slice (some ⟨go36, 0, none⟩) x11_1.length co38) y170 := (by rw [hw, Ny170.out]; exact HP39.1); clear HP39; have n0_ := Aside0.mk (hp_); have n1_ := Aside0.mk (Kd.S_over' (v := (.slice (some ⟨go36, 0, none⟩) x11_1.length co38)) (by (with_reducible repeat (first | apply Kd.S_alloc | apply Kd.S_drewN | apply Kd.S_drew)); exact HO_24.out) (Kd.R_typed HO_11.out) (by decide) hg); have n2_ := Aside0.mk ((by rw [hw]; exact below_set (HB.out) GB36.out : Below w.heap.size w w40)); clear HO_11; clear HO_24; clear HB; have HO_11 := n0_; have HO_24 := n1_; have HB := n2_; clear n0_ n1_ n2_; clear hg hw hp_))
                        go_roundg kj10
                        case measure => have := HK1.out; have := HJ10.out; omega
                        case rel => exact ⟨(y170), (ji33), (wrap64 (x26_1 + 1)), (by first | rfl | (simp; done) | (simp only [← hji33] <;> (first | rfl | simp)) | (simp [*]; done)), (by first | rfl | (simp; done) | (simp [*]; done)), H', ⟨by have := HK1.out; have := HJ10.out; omega⟩, ⟨by (with_reducible repeat (first | apply Kd.R_alloc | apply Kd.R_drewN | apply Kd.R_drew)); exact HO_11.out⟩, ⟨by (with_reducible repeat (first | apply Kd.S_alloc | apply Kd.S_drewN | apply Kd.S_drew)); exact HO_24.out⟩, ⟨by repeat (first | (with_reducible first | exact HB.out | apply below_alloc | apply pw_below_drewN | apply below_drew1) | exact HB.out)⟩⟩
                      · rw [if_neg c37] at H
                        have c37b0 : (x26_1 == a1) = false := beq_eq_false_iff_ne.mpr c37
                        have c37b1 : (x26_1 != a1) = true := bne_iff_ne.mpr c37
                        have H' := Aside0.mk H
                        clear H
                        obtain ⟨Ao41, co41, eo41⟩ := Kd.R_slice HO_11.out
                        subst eo41
                        have p36 : 0 ≤ ((ji33) : Int) := of_decide_eq_true (by first | (with_reducible assumption) | assumption)
                        have q36 : ((ji33) : Int) < ((x11_1.length : Int) : Int) := of_decide_eq_true (by first | (with_reducible assumption) | assumption)
                        obtain ⟨go36, co36, eo36, gb36, gl36, cl36, HG36⟩ := Kd.R_form HO_11.out (by omega)
                        (first | cases eo36 | (injection eo36 with ea_ en_ ec_; (first | subst ea_ | (injection ea_ with ea_; subst ea_)); subst ec_; clear en_))
                        have GB36 := Aside0.mk gb36
                        have GG36 := Aside0.mk HG36
                        clear gb36 gl36 HG36
                        obtain ⟨ce36, hcl36, hM36, hcc36, hfr36⟩ := Kd.R_elem HO_11.out z76 ((ji33) : Int) p36 q36
                        obtain rfl := k76_openM hM36
                        have hx36_0 : wc.cell? ⟨go36, ((ji33) : Int).toNat * 3, none⟩ = some (.int .i64 ((rd_T76 x11_1 (ji33)).f0)) := hcc36 0 _ rfl
                        have hx36_1 : wc.cell? ⟨go36, ((ji33) : Int).toNat * 3 + 1, none⟩ = some (.int .i64 ((rd_T76 x11_1 (ji33)).f1)) := hcc36 1 _ rfl
                        have hx36_2 : wc.cell? ⟨go36, ((ji33) : Int).toNat * 3 + 2, none⟩ = some (.bool ((rd_T76 x11_1 (ji33)).f2)) := hcc36 2 _ rfl
                        have hf36_0 : wc.frozen? ⟨go36, ((ji33) : Int).toNat * 3, none⟩ = false := hfr36 0
                        have hf36_1 : wc.frozen? ⟨go36, ((ji33) : Int).toNat * 3 + 1, none⟩ = false := hfr36 1
                        have hf36_2 : wc.frozen? ⟨go36, ((ji33) : Int).toNat * 3 + 2, none⟩ = false := hfr36 2
                        clear hcl36 hcc36 hfr36 hM36
                        replace p36 := eq_true p36
                        replace q36 := eq_true q36
                        have HX42 := Aside0.mk (show Kd.R k76 76 wc w.heap.size (fun _ => True) (.slice (some ⟨go36, 0, none⟩) x11_1.length co41) x11_1 from (by (with_reducible repeat (first | apply Kd.R_alloc | apply Kd.R_drewN | apply Kd.R_drew)); exact HO_11.out))
                        obtain ⟨ce42, hcl42, hM42, hcc42, hfr42⟩ := Kd.R_elem HX42.out z76 ((ji33) : Int) (of_decide_eq_true (by first | (with_reducible assumption) | assumption)) (by have h_ : ((ji33) : Int) < ((x11_1.length : Int) : Int) := of_decide_eq_true (by first | (with_reducible assumption) | assumption); first | exact h_ | (have e_ := (Kd.R_reads' HO_11.out).1; omega) | simpa using h_)
                        obtain rfl := k76_openM hM42
                        have HP42 := Kd.R_seg HX42.out ((ji33) : Int) (of_decide_eq_true (by first | (with_reducible assumption) | assumption)) (by have h_ : ((ji33) : Int) < ((x11_1.length : Int) : Int) := of_decide_eq_true (by first | (with_reducible assumption) | assumption); first | exact h_ | (have e_ := (Kd.R_reads' HO_11.out).1; omega) | simpa using h_) (seg := [.int .i64 (wrap64 (x26_1 + 1))]) (j := 1) hcl42 hcc42 (show 2 ≤ 3 from by decide) (x' := (⟨(rd_T76 x11_1 (ji33)).f0, wrap64 (x26_1 + 1), (rd_T76 x11_1 (ji33)).f2⟩ : S76)) (k76_mkM _ _ _ (⟨(rd_T76 x11_1 (ji33)).f0, wrap64 (x26_1 + 1), (rd_T76 x11_1 (ji33)).f2⟩ : S76) ) (fun _ hk => hk)
                        have hx42_1 := hcc42 1 _ rfl
                        (try simp only [show (k76).sz = 3 from rfl, Nat.mul_one, Nat.add_zero] at hx42_1)
                        have hf42_1 := hfr42 1
                        (try simp only [show (k76).sz = 3 from rfl, Nat.mul_one, Nat.add_zero] at hf42_1)
                        clear hcl42 hcc42 hfr42 hM42
                        go_wp2_with (first | ((with_reducible refine gate_store (t := 3) (p := 61) rfl ?_); refine store_event (t := 3) (p := 61) (v := ?vo_w43) (w1 := (wc.setCell ⟨go36, ((ji33) : Int).toNat * 3 + 1, none⟩ (.int .i64 (wrap64 (x26_1 + 1))))) ?hg ?ho ?hn ?hr ?_; (case ho => rfl); (case hg => rfl); (case hn => rfl); (case hr => first | (go_simp; done) | (go_simp; rfl)); intro w43 hw; have hg : wc.grownBy w43 (some go36) := (by rw [hw]; exact HP42.2); have hp_ : Kd.R k76 76 w43 w.heap.size (fun _ => True) (.slice (some ⟨go36, 0, none⟩) x11_1.length co41) y170 := (by rw [hw, Ny170.out]; exact HP42.1); clear HP42; have n0_ := Aside0.mk (hp_); have n1_ := Aside0.mk (Kd.S_over' (v := (.slice (some ⟨go36, 0, none⟩) x11_1.length co41)) (by (with_reducible repeat (first | apply Kd.S_alloc | apply Kd.S_drewN | apply Kd.S_drew)); exact HO_24.out) (Kd.R_typed HO_11.out) (by decide) hg); have n2_ := Aside0.mk ((by rw [hw]; exact below_set (HB.out) GB36.out : Below w.heap.size w w43)); clear HO_11; clear HO_24; clear HB; have HO_11 := n0_; have HO_24 := n1_; have HB := n2_; clear n0_ n1_ n2_; clear hg hw hp_))
                        go_roundg kj10
                        case measure => have := HK1.out; have := HJ10.out; omega
                        case rel => exact ⟨(y170), (x12_1), (wrap64 (x26_1 + 1)), (by first | rfl | (simp; done) | (simp [*]; done)), (by first | rfl | (simp; done) | (simp [*]; done)), H', ⟨by have := HK1.out; have := HJ10.out; omega⟩, ⟨by (with_reducible repeat (first | apply Kd.R_alloc | apply Kd.R_drewN | apply Kd.R_drew)); exact HO_11.out⟩, ⟨by (with_reducible repeat (first | apply Kd.S_alloc | apply Kd.S_drewN | apply Kd.S_drew)); exact HO_24.out⟩, ⟨by repeat (first | (with_reducible first | exact HB.out | apply below_alloc | apply pw_below_drewN | apply below_drew1) | exact HB.out)⟩⟩
                    · rw [if_neg c35] at H
                      exact absurd H (by simp)
                  · rw [if_neg c34] at H
                    exact absurd H (by simp)
          · rw [if_neg c10] at H
            exact absurd H (by simp)
        · rw [if_neg c9] at H
          exact absurd H (by simp)
      · rw [if_neg c8] at H
        have c8b0 : decide (x26_1 < (t161.length : Int)) = false := decide_eq_false c8
        clear c8
        replace H := Option.bind_eq_some_iff.mp H
        obtain ⟨⟨t171, t172, t173⟩, A440, H⟩ := H
        replace H : (if t173 = true then (if 0 ≤ t171 then (if t171 < (x11_1.length : Int) then ((lines_Start.f k1 l0 ((rd_T76 x11_1 t171).f0)).bind fun bt175 => (if 0 ≤ (wrap64 (t172 - 1)) then (if (wrap64 (t172 - 1)) < (x11_1.length : Int) then ((lines_Start.f k1 l0 (wrap64 (((rd_T76 x11_1 (wrap64 (t172 - 1))).f1) - 1))).bind fun bt178 => (some (bt175.1, bt178.1, true))) else (none)) else (none))) else (none)) else (none)) else (some (0, 0, false))) = some (r1, r2, r3) := H
        have A44 := Aside0.mk A440
        clear A440
        by_cases c45 : t173 = true
        · subst c45
          have H1 : (if 0 ≤ t171 then (if t171 < (x11_1.length : Int) then ((lines_Start.f k1 l0 ((rd_T76 x11_1 t171).f0)).bind fun bt175 => (if 0 ≤ (wrap64 (t172 - 1)) then (if (wrap64 (t172 - 1)) < (x11_1.length : Int) then ((lines_Start.f k1 l0 (wrap64 (((rd_T76 x11_1 (wrap64 (t172 - 1))).f1) - 1))).bind fun bt178 => (some (bt175.1, bt178.1, true))) else (none)) else (none))) else (none)) else (none)) = some (r1, r2, r3) := by rw [if_pos rfl] at H; exact H
          clear H
          have H := H1
          clear H1
          by_cases c46 : 0 ≤ t171
          · rw [if_pos c46] at H
            have c46b0 : decide (0 ≤ t171) = true := decide_eq_true c46
            clear c46
            by_cases c47 : t171 < (x11_1.length : Int)
            · rw [if_pos c47] at H
              have c47b0 : decide (t171 < (x11_1.length : Int)) = true := decide_eq_true c47
              clear c47
              replace H := Option.bind_eq_some_iff.mp H
              obtain ⟨⟨t175, t176⟩, A480, H⟩ := H
              replace H : (if 0 ≤ (wrap64 (t172 - 1)) then (if (wrap64 (t172 - 1)) < (x11_1.length : Int) then ((lines_Start.f k1 l0 (wrap64 (((rd_T76 x11_1 (wrap64 (t172 - 1))).f1) - 1))).bind fun bt178 => (some (t175, bt178.1, true))) else (none)) else (none)) = some (r1, r2, r3) := H
              have A48 := Aside0.mk A480
              clear A480
              obtain ⟨ji49, hji49⟩ : ∃ j_ : Int, (wrap64 (t172 - 1)) = j_ := ⟨_, rfl⟩
              replace H : (if 0 ≤ (ji49) then (if (ji49) < (x11_1.length : Int) then ((lines_Start.f k1 l0 (wrap64 (((rd_T76 x11_1 (ji49)).f1) - 1))).bind fun bt178 => (some (t175, bt178.1, true))) else (none)) else (none)) = some (r1, r2, r3) := by first | (rw [hji49] at H; exact H) | (simp only [hji49] at H ⊢; exact H)
              (try rw [hji49] at A44)
              (try rw [hji49] at A48)
              have hji49w : (IntKind.i64.wrap (t172 - 1)) = ji49 := (i64_w _).trans hji49
              by_cases c50 : 0 ≤ (ji49)
              · rw [if_pos c50] at H
                have c50b0 : decide (0 ≤ (ji49)) = true := decide_eq_true c50
                clear c50
                by_cases c51 : (ji49) < (x11_1.length : Int)
                · rw [if_pos c51] at H
                  have c51b0 : decide ((ji49) < (x11_1.length : Int)) = true := decide_eq_true c51
                  clear c51
                  replace H := Option.bind_eq_some_iff.mp H
                  obtain ⟨⟨t178, t179⟩, A520, H⟩ := H
                  replace H : (some (t175, t178, true)) = some (r1, r2, r3) := H
                  have A52 := Aside0.mk A520
                  clear A520
                  simp only [Option.some.injEq, Prod.mk.injEq] at H
                  obtain ⟨rfl, rfl, rfl⟩ := H
                  obtain ⟨Ao53, co53, eo53⟩ := Kd.R_slice HO_11.out
                  subst eo53
                  go_wp2_with (first | ((with_reducible refine gate_callee (f := 47) rfl ?_); refine goesL_ (some 74) rfl rfl Tryd.func47 (by kernel_rfl) rfl #[.slice Ao53 x11_1.length co53, .int .i64 x12_1, .int .i64 a2, .bool a3] rfl (by (try simp only [List.map_toArray, List.map_cons, List.map_nil]); first | done | rfl | (simp only [List.length_drop, List.length_take]; rfl)) ?_; (with_reducible refine (object_taken.calls k1 _ _ x11_1 x12_1 a2 a3 t171 t172 true _ ?side1 ?side2 A44.out).mono ?_); (case side1 => repeat (first | exact (Kd.R_reads' HO_11.out).2.2 | (with_reducible refine Kd.C_alloc ?_ _) | (with_reducible refine Kd.C_drewN ?_ _) | (with_reducible refine Kd.C_drew ?_))); (case side2 => exact (Kd.R_reads' HO_11.out).2.1); rintro e w' ⟨rfl, ⟨nd, rfl⟩⟩; refine ⟨_, rfl, ?_⟩; have p174 : 0 ≤ (t171 : Int) := of_decide_eq_true (by first | (with_reducible assumption) | assumption); have q174 : t171 < (x11_1.length : Int) := of_decide_eq_true (by first | (with_reducible assumption) | assumption); obtain ⟨ad174, e174, hx174_0, hx174_1, hx174_2⟩ := at_T76 (Kd.R_reads' HO_11.out).2.2 t171 p174 q174; cases e174; replace p174 := eq_true p174; replace q174 := eq_true q174) | ((with_reducible refine gate_callee (f := 44) rfl ?_); refine goesL_ (some 87) rfl rfl Tryd.func44 (by kernel_rfl) rfl #[.slice A0 l0.length c0, .int .i64 ((rd_T76 x11_1 t171).f0)] rfl (by (try simp only [List.map_toArray, List.map_cons, List.map_nil]); first | done | rfl | (simp only [List.length_drop, List.length_take]; rfl)) ?_; (with_reducible refine (lines_Start.calls k1 _ _ l0 ((rd_T76 x11_1 t171).f0) t175 t176 _ ?side1 ?side2 A48.out).mono ?_); (case side1 => repeat (first | exact (Kd.C_below HR0.out (by repeat (first | (with_reducible first | exact HB.out | apply below_alloc | apply pw_below_drewN | apply below_drew1) | exact HB.out))) | (with_reducible refine Kd.C_alloc ?_ _) | (with_reducible refine Kd.C_drewN ?_ _) | (with_reducible refine Kd.C_drew ?_))); (case side2 => exact HC0.out); rintro e w' ⟨rfl, ⟨nd, rfl⟩⟩; refine ⟨_, rfl, ?_⟩; have p177 : 0 ≤ ((ji49) : Int) := of_decide_eq_true (by first | (with_reducible assumption) | assumption); have q177 : (ji49) < (x11_1.length : Int) := of_decide_eq_true (by first | (with_reducible assumption) | assumption); obtain ⟨ad177, e177, hx177_0, hx177_1, hx177_2⟩ := at_T76 (Kd.R_reads' HO_11.out).2.2 (ji49) p177 q177; obtain rfl : ad174 = ad177 := (by injection e177); replace p177 := eq_true p177; replace q177 := eq_true q177) | ((with_reducible refine gate_callee (f := 44) rfl ?_); refine goesL_ (some 99) rfl rfl Tryd.func44 (by kernel_rfl) rfl #[.slice A0 l0.length c0, .int .i64 (wrap64 (((rd_T76 x11_1 (ji49)).f1) - 1))] rfl (by (try simp only [List.map_toArray, List.map_cons, List.map_nil]); first | done | (simp only [hji49]; rfl) | rfl | (simp only [List.length_drop, List.length_take]; rfl)) ?_; (with_reducible refine (lines_Start.calls k1 _ _ l0 (wrap64 (((rd_T76 x11_1 (ji49)).f1) - 1)) t178 t179 _ ?side1 ?side2 A52.out).mono ?_); (case side1 => repeat (first | exact (Kd.C_below HR0.out (by repeat (first | (with_reducible first | exact HB.out | apply below_alloc | apply pw_below_drewN | apply below_drew1) | exact HB.out))) | (with_reducible refine Kd.C_alloc ?_ _) | (with_reducible refine Kd.C_drewN ?_ _) | (with_reducible refine Kd.C_drew ?_))); (case side2 => exact HC0.out); rintro e w' ⟨rfl, ⟨nd, rfl⟩⟩; refine ⟨_, rfl, ?_⟩))
                  go_ret3
                  exact ⟨by first | rfl | (simp [errW_none, errW_some] <;> rfl) | (simp only [← hji49]; first | rfl | (simp [errW_none, errW_some] <;> rfl)) | (simp [*, errW_none, errW_some] <;> rfl), by repeat (first | (with_reducible first | exact HB.out | apply below_alloc | apply pw_below_drewN | apply below_drew1) | exact HB.out)⟩
                · rw [if_neg c51] at H
                  exact absurd H (by simp)
              · rw [if_neg c50] at H
                exact absurd H (by simp)
            · rw [if_neg c47] at H
              exact absurd H (by simp)
          · rw [if_neg c46] at H
            exact absurd H (by simp)
        · replace c45 := Bool.eq_false_iff.mpr c45
          subst c45
          have H1 : (some (0, 0, false)) = some (r1, r2, r3) := by rw [if_neg (show ¬ (false = true) by decide)] at H; exact H
          clear H
          have H := H1
          clear H1
          simp only [Option.some.injEq, Prod.mk.injEq] at H
          obtain ⟨rfl, rfl, rfl⟩ := H
          obtain ⟨Ao54, co54, eo54⟩ := Kd.R_slice HO_11.out
          subst eo54
          go_wp2_with (first | ((with_reducible refine gate_callee (f := 47) rfl ?_); refine goesL_ (some 74) rfl rfl Tryd.func47 (by kernel_rfl) rfl #[.slice Ao54 x11_1.length co54, .int .i64 x12_1, .int .i64 a2, .bool a3] rfl (by (try simp only [List.map_toArray, List.map_cons, List.map_nil]); first | done | rfl | (simp only [List.length_drop, List.length_take]; rfl)) ?_; (with_reducible refine (object_taken.calls k1 _ _ x11_1 x12_1 a2 a3 t171 t172 false _ ?side1 ?side2 A44.out).mono ?_); (case side1 => repeat (first | exact (Kd.R_reads' HO_11.out).2.2 | (with_reducible refine Kd.C_alloc ?_ _) | (with_reducible refine Kd.C_drewN ?_ _) | (with_reducible refine Kd.C_drew ?_))); (case side2 => exact (Kd.R_reads' HO_11.out).2.1); rintro e w' ⟨rfl, ⟨nd, rfl⟩⟩; refine ⟨_, rfl, ?_⟩))
          go_ret3
          exact ⟨by first | rfl | (simp [errW_none, errW_some] <;> rfl) | (simp [*, errW_none, errW_some] <;> rfl), by repeat (first | (with_reducible first | exact HB.out | apply below_alloc | apply pw_below_drewN | apply below_drew1) | exact HB.out)⟩

end Go.Proofs.YtcochbkdgjgaeaaDoor.X
end
