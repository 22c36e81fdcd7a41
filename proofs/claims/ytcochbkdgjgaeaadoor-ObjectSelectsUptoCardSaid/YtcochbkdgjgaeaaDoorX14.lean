-- Written by wip/xprint.py over the kit's print.py: the Lean function of each Go function, and the proof that the Go text comes to it.
import Derived.Test.YtcochbkdgjgaeaaDoorX0
import Derived.Test.YtcochbkdgjgaeaaDoorX7
import Derived.Test.YtcochbkdgjgaeaaDoorX9
import Derived.Test.YtcochbkdgjgaeaaDoorX11
import Derived.Test.YtcochbkdgjgaeaaDoorX12
import Derived.Test.YtcochbkdgjgaeaaDoorX13
namespace Go.Proofs.YtcochbkdgjgaeaaDoor.X
open Go.RowKit Go.Proofs.YtcochbkdgjgaeaaDoorW.PrintWords Go.Proofs.YtcochbkdgjgaeaaDoorW.PrintLast Go.Proofs.YtcochbkdgjgaeaaDoorW.PrintMore
attribute [local go_sem] max2_int min2_int max_two min_two max_three min_three max_four min_four   -- for this text's walks alone
set_option linter.unusedVariables false
set_option linter.unusedSimpArgs false

/-! ### object_words: function 27 -/
def object_words.l0 : Nat → List Int → Int → Int → Bool → Bool → Int → List (S76) → Int → Int → List Int → Int → Int → Option (Int × Int × Bool)
 | 0, _, _, _, _, _, _, _, _, _, _, _, _ => none
 | k + 1, x0, x2, x3, x4, x5, x15, x19, x20, x21, x46, x47, x48 => if x48 < x47 then (if 0 ≤ x48 then (if x48 < (x46.length : Int) then (if x21 ≤ x2 then (if x2 < (wrap64 (x15 + (rd x46 x48))) then (if 0 ≤ x21 then (if x21 < (x0.length : Int) then ((class_Of.f k (rd x0 x21) x4).bind fun t142 => (if x19.length < 5864062014805 then (object_words.l0 k x0 x2 x3 x4 x5 x15 (x19 ++ [(⟨x21, wrap64 (x15 + (rd x46 x48)), (t142 == 0)⟩ : S76)]) (x19.length : Int) (wrap64 (x15 + (rd x46 x48))) x46 x47 (wrap64 (x48 + 1))) else (none))) else (none)) else (none)) else (if 0 ≤ x21 then (if x21 < (x0.length : Int) then ((class_Of.f k (rd x0 x21) x4).bind fun t147 => (if x19.length < 5864062014805 then (object_words.l0 k x0 x2 x3 x4 x5 x15 (x19 ++ [(⟨x21, wrap64 (x15 + (rd x46 x48)), (t147 == 0)⟩ : S76)]) x20 (wrap64 (x15 + (rd x46 x48))) x46 x47 (wrap64 (x48 + 1))) else (none))) else (none)) else (none))) else (if 0 ≤ x21 then (if x21 < (x0.length : Int) then ((class_Of.f k (rd x0 x21) x4).bind fun t152 => (if x19.length < 5864062014805 then (object_words.l0 k x0 x2 x3 x4 x5 x15 (x19 ++ [(⟨x21, wrap64 (x15 + (rd x46 x48)), (t152 == 0)⟩ : S76)]) x20 (wrap64 (x15 + (rd x46 x48))) x46 x47 (wrap64 (x48 + 1))) else (none))) else (none)) else (none))) else (none)) else (none)) else (if x20 < 0 then (some (0, 0, false)) else ((object_taken.f k x19 x20 x3 x5).bind fun bt156 => (if bt156.2.2 = true then (if 0 ≤ bt156.1 then (if bt156.1 < (x19.length : Int) then (if 0 ≤ (wrap64 (bt156.2.1 - 1)) then (if (wrap64 (bt156.2.1 - 1)) < (x19.length : Int) then (some ((rd_T76 x19 bt156.1).f0, (rd_T76 x19 (wrap64 (bt156.2.1 - 1))).f1, true)) else (none)) else (none)) else (none)) else (none)) else (some (0, 0, false)))))
def object_words.f (k : Nat) (l0 : List Int) (a1 : Int) (a2 : Int) (a3 : Int) (a4 : Bool) (a5 : Bool) : Option (Int × Int × Bool) := (lines_Start.f k l0 a1).bind fun bt132 => ((lines_End.f k l0 a1).bind fun bt134 => (if 0 ≤ bt132.1 then (if bt132.1 ≤ bt134.1 then (if bt134.1 ≤ (l0.length : Int) then ((class_Runs.f k ((l0.take (bt134.1 : Int).toNat).drop (bt132.1 : Int).toNat) a4).bind fun t137 => (object_words.l0 k l0 a2 a3 a4 a5 bt132.1 ([] : List (S76)) (-1) bt132.1 t137 (t137.length : Int) 0)) else (none)) else (none)) else (none)))
theorem object_words.mono_l : ∀ k, (∀ y0 y1 y2 y3 y4 y5 y6 y7 y8 y9 y10 y11, LeO (object_words.l0 k y0 y1 y2 y3 y4 y5 y6 y7 y8 y9 y10 y11) (object_words.l0 (k + 1) y0 y1 y2 y3 y4 y5 y6 y7 y8 y9 y10 y11))
 | 0 => fun _ _ _ _ _ _ _ _ _ _ _ _ r h => by simp [object_words.l0] at h
 | k + 1 => by
  have ih0 := object_words.mono_l k
  ·intro y0 y1 y2 y3 y4 y5 y6 y7 y8 y9 y10 y11
   unfold object_words.l0
   repeat' first
   | (with_reducible exact ih0 _ _ _ _ _ _ _ _ _ _ _ _)
   | (with_reducible exact class_Of.mono _ _ _)
   | (with_reducible exact class_Runs.mono _ _ _)
   | (with_reducible exact lines_End.mono _ _ _)
   | (with_reducible exact lines_Start.mono _ _ _)
   | (with_reducible exact object_taken.mono _ _ _ _ _)
   | (with_reducible exact LeO.refl _)
   | (with_reducible exact LeO.none _)
   | (with_reducible refine LeO.ite ?_ ?_)
   | (with_reducible refine LeO.bind ?_ (fun _ => ?_))
   | exact ih0 _ _ _ _ _ _ _ _ _ _ _ _
   | exact class_Of.mono _ _ _
   | exact class_Runs.mono _ _ _
   | exact lines_End.mono _ _ _
   | exact lines_Start.mono _ _ _
   | exact object_taken.mono _ _ _ _ _
   | exact LeO.none _
   | refine LeO.ite ?_ ?_
   | refine LeO.bind ?_ (fun _ => ?_)
theorem object_words.mono : ∀ a0 a1 a2 a3 a4 a5 k, LeO (object_words.f k a0 a1 a2 a3 a4 a5) (object_words.f (k + 1) a0 a1 a2 a3 a4 a5) := by
 intro a0 a1 a2 a3 a4 a5 k
 have ih0 := object_words.mono_l k
 unfold object_words.f
 repeat' first
   | (with_reducible exact ih0 _ _ _ _ _ _ _ _ _ _ _ _)
   | (with_reducible exact class_Of.mono _ _ _)
   | (with_reducible exact class_Runs.mono _ _ _)
   | (with_reducible exact lines_End.mono _ _ _)
   | (with_reducible exact lines_Start.mono _ _ _)
   | (with_reducible exact object_taken.mono _ _ _ _ _)
   | (with_reducible exact LeO.refl _)
   | (with_reducible exact LeO.none _)
   | (with_reducible refine LeO.ite ?_ ?_)
   | (with_reducible refine LeO.bind ?_ (fun _ => ?_))
   | exact ih0 _ _ _ _ _ _ _ _ _ _ _ _
   | exact class_Of.mono _ _ _
   | exact class_Runs.mono _ _ _
   | exact lines_End.mono _ _ _
   | exact lines_Start.mono _ _ _
   | exact object_taken.mono _ _ _ _ _
   | exact LeO.none _
   | refine LeO.ite ?_ ?_
   | refine LeO.bind ?_ (fun _ => ?_)
set_option maxHeartbeats 8000000 in
set_option maxRecDepth 100000 in
theorem object_words.calls (k : Nat) (A0 : Option Addr) (c0 : Nat) (l0 : List Int) (a1 : Int) (a2 : Int) (a3 : Int) (a4 : Bool) (a5 : Bool) (r1 : Int) (r2 : Int) (r3 : Bool) (w : World) (hr0 : Kd.C (Kd.int .u8) w A0 l0.length l0) (hc0 : l0.length ≤ c0) (h : object_words.f k l0 a1 a2 a3 a4 a5 = some (r1, r2, r3)) :
  Calls Tryd.prog 27 #[.slice A0 l0.length c0, .int .i64 a1, .int .i64 a2, .int .i64 a3, .bool a4, .bool a5] w fun e w' => e = .returned (.tuple #[.int .i64 r1, .int .i64 r2, .bool r3]) ∧ Below w.heap.size w w' := by
 have hu76 := Tryd.underlying76
 have HR0 := Aside0.mk hr0
 have HC0 := Aside0.mk hc0
 clear hr0 hc0
 have HB := Aside0.mk (Below.refl w.heap.size w)
 have H : ((lines_Start.f k l0 a1).bind fun bt132 => ((lines_End.f k l0 a1).bind fun bt134 => (if 0 ≤ bt132.1 then (if bt132.1 ≤ bt134.1 then (if bt134.1 ≤ (l0.length : Int) then ((class_Runs.f k ((l0.take (bt134.1 : Int).toNat).drop (bt132.1 : Int).toNat) a4).bind fun t137 => (object_words.l0 k l0 a2 a3 a4 a5 bt132.1 ([] : List (S76)) (-1) bt132.1 t137 (t137.length : Int) 0)) else (none)) else (none)) else (none)))) = some (r1, r2, r3) := h
 clear h
 replace H := Option.bind_eq_some_iff.mp H
 obtain ⟨⟨t132, t133⟩, A70, H⟩ := H
 replace H : ((lines_End.f k l0 a1).bind fun bt134 => (if 0 ≤ t132 then (if t132 ≤ bt134.1 then (if bt134.1 ≤ (l0.length : Int) then ((class_Runs.f k ((l0.take (bt134.1 : Int).toNat).drop (t132 : Int).toNat) a4).bind fun t137 => (object_words.l0 k l0 a2 a3 a4 a5 t132 ([] : List (S76)) (-1) t132 t137 (t137.length : Int) 0)) else (none)) else (none)) else (none))) = some (r1, r2, r3) := H
 have A7 := Aside0.mk A70
 clear A70
 replace H := Option.bind_eq_some_iff.mp H
 obtain ⟨⟨t134, t135⟩, A80, H⟩ := H
 replace H : (if 0 ≤ t132 then (if t132 ≤ t134 then (if t134 ≤ (l0.length : Int) then ((class_Runs.f k ((l0.take (t134 : Int).toNat).drop (t132 : Int).toNat) a4).bind fun t137 => (object_words.l0 k l0 a2 a3 a4 a5 t132 ([] : List (S76)) (-1) t132 t137 (t137.length : Int) 0)) else (none)) else (none)) else (none)) = some (r1, r2, r3) := H
 have A8 := Aside0.mk A80
 clear A80
 by_cases c9 : 0 ≤ t132
 ·rw [if_pos c9] at H
  have c9b0 := eq_true c9
  have c9b1 : decide (0 ≤ t132) = true := decide_eq_true c9
  clear c9
  by_cases c10 : t132 ≤ t134
  ·rw [if_pos c10] at H
   have c10b0 := eq_true c10
   have c10b1 : decide (t132 ≤ t134) = true := decide_eq_true c10
   clear c10
   by_cases c11 : t134 ≤ (l0.length : Int)
   ·rw [if_pos c11] at H
    have c11b0 := eq_true c11
    have c11b1 : decide (t134 ≤ (l0.length : Int)) = true := decide_eq_true c11
    clear c11
    replace H := Option.bind_eq_some_iff.mp H
    obtain ⟨t137, A120, H⟩ := H
    replace H : (object_words.l0 k l0 a2 a3 a4 a5 t132 ([] : List (S76)) (-1) t132 t137 (t137.length : Int) 0) = some (r1, r2, r3) := H
    have A12 := Aside0.mk A120
    clear A120
    have H' := Aside0.mk H
    clear H
    go_enter Tryd.func27, Tryd.ntmps27
    go_wp2_with (first | (go_at_call 44; (with_reducible refine (lines_Start.calls k _ _ l0 a1 t132 t133 _ ?side1 ?side2 A7.out).mono ?_); (case side1 => repeat (first | exact HR0.out | (with_reducible refine Kd.C_alloc ?_ _) | (with_reducible refine Kd.C_drewN ?_ _) | (with_reducible refine Kd.C_drew ?_))); (case side2 => exact HC0.out); rintro e w' ⟨rfl, ⟨nd, rfl⟩⟩; (try first | exact ⟨rfl, _, World.drewN_drewN _ _ _⟩ | exact ⟨rfl, _, Eq.trans (World.drewN_drewN _ _ _) (congrArg (World.drewN _) (Nat.add_assoc _ _ _))⟩)) | (go_at_call 45; (with_reducible refine (lines_End.calls k _ _ l0 a1 t134 t135 _ ?side1 ?side2 A8.out).mono ?_); (case side1 => repeat (first | exact HR0.out | (with_reducible refine Kd.C_alloc ?_ _) | (with_reducible refine Kd.C_drewN ?_ _) | (with_reducible refine Kd.C_drew ?_))); (case side2 => exact HC0.out); rintro e w' ⟨rfl, ⟨nd, rfl⟩⟩; (try first | exact ⟨rfl, _, World.drewN_drewN _ _ _⟩ | exact ⟨rfl, _, Eq.trans (World.drewN_drewN _ _ _) (congrArg (World.drewN _) (Nat.add_assoc _ _ _))⟩); obtain ⟨i013, hi013, _, hsz13, _⟩ := info_parts info5; obtain ⟨A13, hcut13, hA13, hC13⟩ := print_mid_of (P := Tryd.prog) (Value.int .u8) 0 22 5 .i64 .i64 Tryd.underlying22 hi013 hsz13 A0 c0 l0 t132 t134 (of_decide_eq_true (by first | (with_reducible assumption) | assumption)) (by first | omega | exact of_decide_eq_true (by first | (with_reducible assumption) | assumption)) (of_decide_eq_true (by first | (with_reducible assumption) | assumption)) HC0.out; have HR136 := Aside0.mk (Kd.C_of_reads (h1 := fun _ => rfl) (hA13 _ (Kd.reads_of_C HR0.out))); have HC136 := Aside0.mk hC13; clear hA13 hC13 hi013 hsz13) | (go_at_call 46; (try rw [show (t134.toNat - t132.toNat) = ((l0.take (t134 : Int).toNat).drop (t132 : Int).toNat).length from (by rw [List.length_drop, List.length_take]; have h_ : (t134 : Int) ≤ (l0.length : Int) := of_decide_eq_true (by first | (with_reducible assumption) | assumption); omega)]); (with_reducible refine (class_Runs.calls k _ _ ((l0.take (t134 : Int).toNat).drop (t132 : Int).toNat) a4 t137 _ ?side1 ?side2 A12.out).mono ?_); (case side1 => repeat (first | exact HR136.out | (with_reducible refine Kd.C_alloc ?_ _) | (with_reducible refine Kd.C_drewN ?_ _) | (with_reducible refine Kd.C_drew ?_))); (case side2 => exact HC136.out); rintro e w14 ⟨v138, rfl, ho0, hb⟩; have n0_ := Aside0.mk (Kd.R_lower ho0 (below_size (by repeat (first | (with_reducible first | exact HB.out | apply below_alloc | apply pw_below_drewN | apply below_drew1) | exact HB.out)))); have n1_ := Aside0.mk (below_step (by repeat (first | (with_reducible first | exact HB.out | apply below_alloc | apply pw_below_drewN | apply below_drew1) | exact HB.out)) hb); clear HB; have HO139 := n0_; have HB := n1_; clear n0_ n1_; (try clear hb); (try clear hb2); (try clear hk); (try clear hi); (try clear ho0); obtain ⟨Ao15, co15, eo15⟩ := Kd.R_slice HO139.out; subst eo15))
    repeat (go_quiet (first | (go_at_call 44; (with_reducible refine (lines_Start.calls k _ _ l0 a1 t132 t133 _ ?side1 ?side2 A7.out).mono ?_); (case side1 => repeat (first | exact HR0.out | (with_reducible refine Kd.C_alloc ?_ _) | (with_reducible refine Kd.C_drewN ?_ _) | (with_reducible refine Kd.C_drew ?_))); (case side2 => exact HC0.out); rintro e w' ⟨rfl, ⟨nd, rfl⟩⟩; (try first | exact ⟨rfl, _, World.drewN_drewN _ _ _⟩ | exact ⟨rfl, _, Eq.trans (World.drewN_drewN _ _ _) (congrArg (World.drewN _) (Nat.add_assoc _ _ _))⟩)) | (go_at_call 45; (with_reducible refine (lines_End.calls k _ _ l0 a1 t134 t135 _ ?side1 ?side2 A8.out).mono ?_); (case side1 => repeat (first | exact HR0.out | (with_reducible refine Kd.C_alloc ?_ _) | (with_reducible refine Kd.C_drewN ?_ _) | (with_reducible refine Kd.C_drew ?_))); (case side2 => exact HC0.out); rintro e w' ⟨rfl, ⟨nd, rfl⟩⟩; (try first | exact ⟨rfl, _, World.drewN_drewN _ _ _⟩ | exact ⟨rfl, _, Eq.trans (World.drewN_drewN _ _ _) (congrArg (World.drewN _) (Nat.add_assoc _ _ _))⟩); obtain ⟨i013, hi013, _, hsz13, _⟩ := info_parts info5; obtain ⟨A13, hcut13, hA13, hC13⟩ := print_mid_of (P := Tryd.prog) (Value.int .u8) 0 22 5 .i64 .i64 Tryd.underlying22 hi013 hsz13 A0 c0 l0 t132 t134 (of_decide_eq_true (by first | (with_reducible assumption) | assumption)) (by first | omega | exact of_decide_eq_true (by first | (with_reducible assumption) | assumption)) (of_decide_eq_true (by first | (with_reducible assumption) | assumption)) HC0.out; have HR136 := Aside0.mk (Kd.C_of_reads (h1 := fun _ => rfl) (hA13 _ (Kd.reads_of_C HR0.out))); have HC136 := Aside0.mk hC13; clear hA13 hC13 hi013 hsz13) | (go_at_call 46; (try rw [show (t134.toNat - t132.toNat) = ((l0.take (t134 : Int).toNat).drop (t132 : Int).toNat).length from (by rw [List.length_drop, List.length_take]; have h_ : (t134 : Int) ≤ (l0.length : Int) := of_decide_eq_true (by first | (with_reducible assumption) | assumption); omega)]); (with_reducible refine (class_Runs.calls k _ _ ((l0.take (t134 : Int).toNat).drop (t132 : Int).toNat) a4 t137 _ ?side1 ?side2 A12.out).mono ?_); (case side1 => repeat (first | exact HR136.out | (with_reducible refine Kd.C_alloc ?_ _) | (with_reducible refine Kd.C_drewN ?_ _) | (with_reducible refine Kd.C_drew ?_))); (case side2 => exact HC136.out); rintro e w14 ⟨v138, rfl, ho0, hb⟩; have n0_ := Aside0.mk (Kd.R_lower ho0 (below_size (by repeat (first | (with_reducible first | exact HB.out | apply below_alloc | apply pw_below_drewN | apply below_drew1) | exact HB.out)))); have n1_ := Aside0.mk (below_step (by repeat (first | (with_reducible first | exact HB.out | apply below_alloc | apply pw_below_drewN | apply below_drew1) | exact HB.out)) hb); clear HB; have HO139 := n0_; have HB := n1_; clear n0_ n1_; (try clear hb); (try clear hb2); (try clear hk); (try clear hi); (try clear ho0); obtain ⟨Ao15, co15, eo15⟩ := Kd.R_slice HO139.out; subst eo15)); try go_wp2_with (first | (go_at_call 44; (with_reducible refine (lines_Start.calls k _ _ l0 a1 t132 t133 _ ?side1 ?side2 A7.out).mono ?_); (case side1 => repeat (first | exact HR0.out | (with_reducible refine Kd.C_alloc ?_ _) | (with_reducible refine Kd.C_drewN ?_ _) | (with_reducible refine Kd.C_drew ?_))); (case side2 => exact HC0.out); rintro e w' ⟨rfl, ⟨nd, rfl⟩⟩; (try first | exact ⟨rfl, _, World.drewN_drewN _ _ _⟩ | exact ⟨rfl, _, Eq.trans (World.drewN_drewN _ _ _) (congrArg (World.drewN _) (Nat.add_assoc _ _ _))⟩)) | (go_at_call 45; (with_reducible refine (lines_End.calls k _ _ l0 a1 t134 t135 _ ?side1 ?side2 A8.out).mono ?_); (case side1 => repeat (first | exact HR0.out | (with_reducible refine Kd.C_alloc ?_ _) | (with_reducible refine Kd.C_drewN ?_ _) | (with_reducible refine Kd.C_drew ?_))); (case side2 => exact HC0.out); rintro e w' ⟨rfl, ⟨nd, rfl⟩⟩; (try first | exact ⟨rfl, _, World.drewN_drewN _ _ _⟩ | exact ⟨rfl, _, Eq.trans (World.drewN_drewN _ _ _) (congrArg (World.drewN _) (Nat.add_assoc _ _ _))⟩); obtain ⟨i013, hi013, _, hsz13, _⟩ := info_parts info5; obtain ⟨A13, hcut13, hA13, hC13⟩ := print_mid_of (P := Tryd.prog) (Value.int .u8) 0 22 5 .i64 .i64 Tryd.underlying22 hi013 hsz13 A0 c0 l0 t132 t134 (of_decide_eq_true (by first | (with_reducible assumption) | assumption)) (by first | omega | exact of_decide_eq_true (by first | (with_reducible assumption) | assumption)) (of_decide_eq_true (by first | (with_reducible assumption) | assumption)) HC0.out; have HR136 := Aside0.mk (Kd.C_of_reads (h1 := fun _ => rfl) (hA13 _ (Kd.reads_of_C HR0.out))); have HC136 := Aside0.mk hC13; clear hA13 hC13 hi013 hsz13) | (go_at_call 46; (try rw [show (t134.toNat - t132.toNat) = ((l0.take (t134 : Int).toNat).drop (t132 : Int).toNat).length from (by rw [List.length_drop, List.length_take]; have h_ : (t134 : Int) ≤ (l0.length : Int) := of_decide_eq_true (by first | (with_reducible assumption) | assumption); omega)]); (with_reducible refine (class_Runs.calls k _ _ ((l0.take (t134 : Int).toNat).drop (t132 : Int).toNat) a4 t137 _ ?side1 ?side2 A12.out).mono ?_); (case side1 => repeat (first | exact HR136.out | (with_reducible refine Kd.C_alloc ?_ _) | (with_reducible refine Kd.C_drewN ?_ _) | (with_reducible refine Kd.C_drew ?_))); (case side2 => exact HC136.out); rintro e w14 ⟨v138, rfl, ho0, hb⟩; have n0_ := Aside0.mk (Kd.R_lower ho0 (below_size (by repeat (first | (with_reducible first | exact HB.out | apply below_alloc | apply pw_below_drewN | apply below_drew1) | exact HB.out)))); have n1_ := Aside0.mk (below_step (by repeat (first | (with_reducible first | exact HB.out | apply below_alloc | apply pw_below_drewN | apply below_drew1) | exact HB.out)) hb); clear HB; have HO139 := n0_; have HB := n1_; clear n0_ n1_; (try clear hb); (try clear hb2); (try clear hk); (try clear hi); (try clear ho0); obtain ⟨Ao15, co15, eo15⟩ := Kd.R_slice HO139.out; subst eo15)))
    go_loopg [19, 20, 21, 48] k (fun kq v19 v20 v21 v48 w' => ∃ (x19_1 : List (S76)) (x20_1 : Int) (x21_1 : Int) (x48_1 : Int), v20 = .int .i64 x20_1 ∧ v21 = .int .i64 x21_1 ∧ v48 = .int .i64 x48_1 ∧ Aside0 (object_words.l0 kq l0 a2 a3 a4 a5 t132 x19_1 x20_1 x21_1 t137 (t137.length : Int) x48_1 = some (r1, r2, r3)) ∧ Aside0 (kq ≤ k) ∧ Aside0 (Kd.R k76 76 w' w.heap.size (fun _ => True) v19 x19_1) ∧ Aside0 (Kd.R (Kd.int .i64) 3 w' w.heap.size (fun _ => True) (.slice Ao15 t137.length co15) t137) ∧ Aside0 (Below w.heap.size w w'))
    case atStart => exact ⟨(([] : List (S76))), ((-1)), (t132), (0), (by first | rfl | (simp; done) | (simp [*]; done)), (by first | rfl | (simp; done) | (simp [*]; done)), (by first | rfl | (simp; done) | (simp [*]; done)), H', ⟨Nat.le_refl _⟩, ⟨by first | exact Kd.R_nil _ _ _ _ _ | exact Kd.N_nil _ _ _ _ _ | exact Kd.V_nil _ _ _ _ _ | exact Kd.Q_nil _ _ _ _ _ | exact Kd.S_nil _ _ _ _ _⟩, ⟨by (with_reducible repeat (first | apply Kd.R_alloc | apply Kd.R_drewN | apply Kd.R_drew)); exact HO139.out⟩, ⟨by repeat (first | (with_reducible first | exact HB.out | apply below_alloc | apply pw_below_drewN | apply below_drew1) | exact HB.out)⟩⟩
    case round =>
     clear H'
     try clear c1
     try clear c2
     try clear p2
     try clear c9
     try clear c9b0
     try clear c9b1
     try clear c10
     try clear c10b0
     try clear c10b1
     try clear c11
     try clear c11b0
     try clear c11b1
     obtain ⟨x19_1, x20_1, x21_1, x48_1, rfl, rfl, rfl, HA, HK1, HO_19, HO_46, HB⟩ := hrel
     cases gk with
     | zero => exact absurd HA.out (by simp [object_words.l0])
     | succ k1 =>
      have H := HA.out
      clear HA
      simp only [object_words.l0] at H
      by_cases c16 : x48_1 < (t137.length : Int)
      ·rw [if_pos c16] at H
       have c16b0 : decide (x48_1 < (t137.length : Int)) = true := decide_eq_true c16
       clear c16
       by_cases c17 : 0 ≤ x48_1
       ·rw [if_pos c17] at H
        have c17b0 : decide (0 ≤ x48_1) = true := decide_eq_true c17
        clear c17
        by_cases c18 : x48_1 < (t137.length : Int)
        ·rw [if_pos c18] at H
         have c18b0 : decide (x48_1 < (t137.length : Int)) = true := decide_eq_true c18
         clear c18
         by_cases c19 : x21_1 ≤ a2
         ·rw [if_pos c19] at H
          have c19b0 : decide (x21_1 ≤ a2) = true := decide_eq_true c19
          clear c19
          by_cases c20 : a2 < (wrap64 (t132 + (rd t137 x48_1)))
          ·rw [if_pos c20] at H
           have c20b0 : decide (a2 < (wrap64 (t132 + (rd t137 x48_1)))) = true := decide_eq_true c20
           clear c20
           by_cases c21 : 0 ≤ x21_1
           ·rw [if_pos c21] at H
            have c21b0 : decide (0 ≤ x21_1) = true := decide_eq_true c21
            clear c21
            by_cases c22 : x21_1 < (l0.length : Int)
            ·rw [if_pos c22] at H
             have c22b0 : decide (x21_1 < (l0.length : Int)) = true := decide_eq_true c22
             clear c22
             replace H := Option.bind_eq_some_iff.mp H
             obtain ⟨t142, A230, H⟩ := H
             replace H : (if x19_1.length < 5864062014805 then (object_words.l0 k1 l0 a2 a3 a4 a5 t132 (x19_1 ++ [(⟨x21_1, wrap64 (t132 + (rd t137 x48_1)), (t142 == 0)⟩ : S76)]) (x19_1.length : Int) (wrap64 (t132 + (rd t137 x48_1))) t137 (t137.length : Int) (wrap64 (x48_1 + 1))) else (none)) = some (r1, r2, r3) := H
             have A23 := Aside0.mk A230
             clear A230
             by_cases c24 : x19_1.length < 5864062014805
             ·rw [if_pos c24] at H
              have LMc24 := Aside0.mk c24
              clear c24
              obtain ⟨y143, hy143⟩ : ∃ y_ : List (S76), y_ = (x19_1 ++ [(⟨x21_1, wrap64 (t132 + (rd t137 x48_1)), (t142 == 0)⟩ : S76)]) := ⟨_, rfl⟩
              replace H : (object_words.l0 k1 l0 a2 a3 a4 a5 t132 y143 (x19_1.length : Int) (wrap64 (t132 + (rd t137 x48_1))) t137 (t137.length : Int) (wrap64 (x48_1 + 1))) = some (r1, r2, r3) := by first | (rw [hy143]; with_reducible exact H) | (have H2_ := (Option.bind_some _ _).symm.trans H; rw [hy143]; with_reducible exact H2_) | (have H2_ := (Option.bind_some _ _).symm.trans H; with_reducible exact H2_) | with_reducible exact H | (rw [hy143]; exact H) | exact H
              have Ny143 := Aside0.mk hy143
              clear hy143
              have H' := Aside0.mk H
              clear H
              have p140 : 0 ≤ (x48_1 : Int) := of_decide_eq_true (by first | (with_reducible assumption) | assumption)
              have q140 : x48_1 < (t137.length : Int) := of_decide_eq_true (by first | (with_reducible assumption) | assumption)
              obtain ⟨ad140, e140, hx140_0⟩ := Kd.at_int (Kd.R_reads' HO_46.out).2.2 x48_1 p140 q140
              cases e140
              replace p140 := eq_true p140
              replace q140 := eq_true q140
              obtain ⟨Ao25, co25, eo25⟩ := Kd.R_slice HO_19.out
              subst eo25
              have p141 : 0 ≤ (x21_1 : Int) := of_decide_eq_true (by first | (with_reducible assumption) | assumption)
              have q141 : x21_1 < (l0.length : Int) := of_decide_eq_true (by first | (with_reducible assumption) | assumption)
              obtain ⟨ad141, e141, hx141_0⟩ := Kd.at_int HR0.out x21_1 p141 q141
              cases e141
              replace hx141_0 := (HB.out.cell (World.block_lt_of_cell? w _ hx141_0)).trans hx141_0
              replace p141 := eq_true p141
              replace q141 := eq_true q141
              go_wp2_with (first | (go_at_call 15; (with_reducible refine (class_Of.calls k1 (rd l0 x21_1) a4 t142 _ A23.out).mono ?_); rintro e w' ⟨rfl, ⟨nd, rfl⟩⟩; (try first | exact ⟨rfl, _, World.drewN_drewN _ _ _⟩ | exact ⟨rfl, _, Eq.trans (World.drewN_drewN _ _ _) (congrArg (World.drewN _) (Nat.add_assoc _ _ _))⟩)) | ((with_reducible refine gate_builtin (b := .append) (xs := #[.tmp 65, .tmp 76]) rfl ?_); at_builtin; refine Kd.R_append k76 (w0 := w) w.heap.size rfl (.tmp 65) (.tmp 76) 73 76 (.agg #[(.int .i64 0), (.int .i64 0), (.bool false)]) 24 rfl Tryd.underlying73 info76 rfl (by decide) (by omega) (.slice Ao25 x19_1.length co25) x19_1 (⟨x21_1, wrap64 (t132 + (rd t137 x48_1)), (t142 == 0)⟩ : S76) [.int .i64 x21_1, .int .i64 (wrap64 (t132 + (rd t137 x48_1))), .bool (t142 == 0)] (fun _ => True) (fun _ => False) rfl rfl ?aP (fun _ hk => hk.elim) ?aF ?aO ?aB ?aS ?aL ?_; (case aP => exact k76_mkM _ _ _ (⟨x21_1, wrap64 (t132 + (rd t137 x48_1)), (t142 == 0)⟩ : S76)); (case aB => exact (by repeat (first | (with_reducible first | exact HB.out | apply below_alloc | apply pw_below_drewN | apply below_drew1) | exact HB.out))); (case aF => exact (fun _ _ => trivial)); (case aO => exact (by (with_reducible repeat (first | apply Kd.R_alloc | apply Kd.R_drewN | apply Kd.R_drew)); exact HO_19.out)); (case aS => exact (below_size (by repeat (first | (with_reducible first | exact HB.out | apply below_alloc | apply pw_below_drewN | apply below_drew1) | exact HB.out)))); (case aL => have := LMc24.out; omega); intro v144 w26 ho hb hg hat; rw [← Ny143.out] at ho; have n0_ := Aside0.mk (Kd.R_over' (by (with_reducible repeat (first | apply Kd.R_alloc | apply Kd.R_drewN | apply Kd.R_drew)); exact HO_46.out) (Kd.R_typed (by (with_reducible repeat (first | apply Kd.R_alloc | apply Kd.R_drewN | apply Kd.R_drew)); exact HO_19.out)) (by decide) hg); have n1_ := Aside0.mk (hb); have n2_ := Aside0.mk (ho); clear HO_46; clear HB; clear HO_19; have HO_46 := n0_; have HB := n1_; have HO145 := n2_; clear n0_ n1_ n2_; clear ho hb hg hat))
              repeat (go_quiet (first | (go_at_call 15; (with_reducible refine (class_Of.calls k1 (rd l0 x21_1) a4 t142 _ A23.out).mono ?_); rintro e w' ⟨rfl, ⟨nd, rfl⟩⟩; (try first | exact ⟨rfl, _, World.drewN_drewN _ _ _⟩ | exact ⟨rfl, _, Eq.trans (World.drewN_drewN _ _ _) (congrArg (World.drewN _) (Nat.add_assoc _ _ _))⟩)) | ((with_reducible refine gate_builtin (b := .append) (xs := #[.tmp 65, .tmp 76]) rfl ?_); at_builtin; refine Kd.R_append k76 (w0 := w) w.heap.size rfl (.tmp 65) (.tmp 76) 73 76 (.agg #[(.int .i64 0), (.int .i64 0), (.bool false)]) 24 rfl Tryd.underlying73 info76 rfl (by decide) (by omega) (.slice Ao25 x19_1.length co25) x19_1 (⟨x21_1, wrap64 (t132 + (rd t137 x48_1)), (t142 == 0)⟩ : S76) [.int .i64 x21_1, .int .i64 (wrap64 (t132 + (rd t137 x48_1))), .bool (t142 == 0)] (fun _ => True) (fun _ => False) rfl rfl ?aP (fun _ hk => hk.elim) ?aF ?aO ?aB ?aS ?aL ?_; (case aP => exact k76_mkM _ _ _ (⟨x21_1, wrap64 (t132 + (rd t137 x48_1)), (t142 == 0)⟩ : S76)); (case aB => exact (by repeat (first | (with_reducible first | exact HB.out | apply below_alloc | apply pw_below_drewN | apply below_drew1) | exact HB.out))); (case aF => exact (fun _ _ => trivial)); (case aO => exact (by (with_reducible repeat (first | apply Kd.R_alloc | apply Kd.R_drewN | apply Kd.R_drew)); exact HO_19.out)); (case aS => exact (below_size (by repeat (first | (with_reducible first | exact HB.out | apply below_alloc | apply pw_below_drewN | apply below_drew1) | exact HB.out)))); (case aL => have := LMc24.out; omega); intro v144 w26 ho hb hg hat; rw [← Ny143.out] at ho; have n0_ := Aside0.mk (Kd.R_over' (by (with_reducible repeat (first | apply Kd.R_alloc | apply Kd.R_drewN | apply Kd.R_drew)); exact HO_46.out) (Kd.R_typed (by (with_reducible repeat (first | apply Kd.R_alloc | apply Kd.R_drewN | apply Kd.R_drew)); exact HO_19.out)) (by decide) hg); have n1_ := Aside0.mk (hb); have n2_ := Aside0.mk (ho); clear HO_46; clear HB; clear HO_19; have HO_46 := n0_; have HB := n1_; have HO145 := n2_; clear n0_ n1_ n2_; clear ho hb hg hat)); try go_wp2_with (first | (go_at_call 15; (with_reducible refine (class_Of.calls k1 (rd l0 x21_1) a4 t142 _ A23.out).mono ?_); rintro e w' ⟨rfl, ⟨nd, rfl⟩⟩; (try first | exact ⟨rfl, _, World.drewN_drewN _ _ _⟩ | exact ⟨rfl, _, Eq.trans (World.drewN_drewN _ _ _) (congrArg (World.drewN _) (Nat.add_assoc _ _ _))⟩)) | ((with_reducible refine gate_builtin (b := .append) (xs := #[.tmp 65, .tmp 76]) rfl ?_); at_builtin; refine Kd.R_append k76 (w0 := w) w.heap.size rfl (.tmp 65) (.tmp 76) 73 76 (.agg #[(.int .i64 0), (.int .i64 0), (.bool false)]) 24 rfl Tryd.underlying73 info76 rfl (by decide) (by omega) (.slice Ao25 x19_1.length co25) x19_1 (⟨x21_1, wrap64 (t132 + (rd t137 x48_1)), (t142 == 0)⟩ : S76) [.int .i64 x21_1, .int .i64 (wrap64 (t132 + (rd t137 x48_1))), .bool (t142 == 0)] (fun _ => True) (fun _ => False) rfl rfl ?aP (fun _ hk => hk.elim) ?aF ?aO ?aB ?aS ?aL ?_; (case aP => exact k76_mkM _ _ _ (⟨x21_1, wrap64 (t132 + (rd t137 x48_1)), (t142 == 0)⟩ : S76)); (case aB => exact (by repeat (first | (with_reducible first | exact HB.out | apply below_alloc | apply pw_below_drewN | apply below_drew1) | exact HB.out))); (case aF => exact (fun _ _ => trivial)); (case aO => exact (by (with_reducible repeat (first | apply Kd.R_alloc | apply Kd.R_drewN | apply Kd.R_drew)); exact HO_19.out)); (case aS => exact (below_size (by repeat (first | (with_reducible first | exact HB.out | apply below_alloc | apply pw_below_drewN | apply below_drew1) | exact HB.out)))); (case aL => have := LMc24.out; omega); intro v144 w26 ho hb hg hat; rw [← Ny143.out] at ho; have n0_ := Aside0.mk (Kd.R_over' (by (with_reducible repeat (first | apply Kd.R_alloc | apply Kd.R_drewN | apply Kd.R_drew)); exact HO_46.out) (Kd.R_typed (by (with_reducible repeat (first | apply Kd.R_alloc | apply Kd.R_drewN | apply Kd.R_drew)); exact HO_19.out)) (by decide) hg); have n1_ := Aside0.mk (hb); have n2_ := Aside0.mk (ho); clear HO_46; clear HB; clear HO_19; have HO_46 := n0_; have HB := n1_; have HO145 := n2_; clear n0_ n1_ n2_; clear ho hb hg hat)))
              go_roundg k1
              case measure => have := HK1.out; omega
              case rel => exact ⟨(y143), ((x19_1.length : Int)), (wrap64 (t132 + (rd t137 x48_1))), (wrap64 (x48_1 + 1)), (by first | rfl | (simp; done) | (simp [*]; done)), (by first | rfl | (simp; done) | (simp [*]; done)), (by first | rfl | (simp; done) | (simp [*]; done)), H', ⟨by have := HK1.out; omega⟩, ⟨by (with_reducible repeat (first | apply Kd.R_alloc | apply Kd.R_drewN | apply Kd.R_drew)); exact HO145.out⟩, ⟨by (with_reducible repeat (first | apply Kd.R_alloc | apply Kd.R_drewN | apply Kd.R_drew)); exact HO_46.out⟩, ⟨by repeat (first | (with_reducible first | exact HB.out | apply below_alloc | apply pw_below_drewN | apply below_drew1) | exact HB.out)⟩⟩
             ·rw [if_neg c24] at H
              exact absurd H (by simp)
            ·rw [if_neg c22] at H
             exact absurd H (by simp)
           ·rw [if_neg c21] at H
            exact absurd H (by simp)
          ·rw [if_neg c20] at H
           have c20b0 : decide (a2 < (wrap64 (t132 + (rd t137 x48_1)))) = false := decide_eq_false c20
           clear c20
           by_cases c27 : 0 ≤ x21_1
           ·rw [if_pos c27] at H
            have c27b0 : decide (0 ≤ x21_1) = true := decide_eq_true c27
            clear c27
            by_cases c28 : x21_1 < (l0.length : Int)
            ·rw [if_pos c28] at H
             have c28b0 : decide (x21_1 < (l0.length : Int)) = true := decide_eq_true c28
             clear c28
             replace H := Option.bind_eq_some_iff.mp H
             obtain ⟨t147, A290, H⟩ := H
             replace H : (if x19_1.length < 5864062014805 then (object_words.l0 k1 l0 a2 a3 a4 a5 t132 (x19_1 ++ [(⟨x21_1, wrap64 (t132 + (rd t137 x48_1)), (t147 == 0)⟩ : S76)]) x20_1 (wrap64 (t132 + (rd t137 x48_1))) t137 (t137.length : Int) (wrap64 (x48_1 + 1))) else (none)) = some (r1, r2, r3) := H
             have A29 := Aside0.mk A290
             clear A290
             by_cases c30 : x19_1.length < 5864062014805
             ·rw [if_pos c30] at H
              have LMc30 := Aside0.mk c30
              clear c30
              obtain ⟨y148, hy148⟩ : ∃ y_ : List (S76), y_ = (x19_1 ++ [(⟨x21_1, wrap64 (t132 + (rd t137 x48_1)), (t147 == 0)⟩ : S76)]) := ⟨_, rfl⟩
              replace H : (object_words.l0 k1 l0 a2 a3 a4 a5 t132 y148 x20_1 (wrap64 (t132 + (rd t137 x48_1))) t137 (t137.length : Int) (wrap64 (x48_1 + 1))) = some (r1, r2, r3) := by first | (rw [hy148]; with_reducible exact H) | (have H2_ := (Option.bind_some _ _).symm.trans H; rw [hy148]; with_reducible exact H2_) | (have H2_ := (Option.bind_some _ _).symm.trans H; with_reducible exact H2_) | with_reducible exact H | (rw [hy148]; exact H) | exact H
              have Ny148 := Aside0.mk hy148
              clear hy148
              have H' := Aside0.mk H
              clear H
              have p140 : 0 ≤ (x48_1 : Int) := of_decide_eq_true (by first | (with_reducible assumption) | assumption)
              have q140 : x48_1 < (t137.length : Int) := of_decide_eq_true (by first | (with_reducible assumption) | assumption)
              obtain ⟨ad140, e140, hx140_0⟩ := Kd.at_int (Kd.R_reads' HO_46.out).2.2 x48_1 p140 q140
              cases e140
              replace p140 := eq_true p140
              replace q140 := eq_true q140
              have p146 : 0 ≤ (x21_1 : Int) := of_decide_eq_true (by first | (with_reducible assumption) | assumption)
              have q146 : x21_1 < (l0.length : Int) := of_decide_eq_true (by first | (with_reducible assumption) | assumption)
              obtain ⟨ad146, e146, hx146_0⟩ := Kd.at_int HR0.out x21_1 p146 q146
              cases e146
              replace hx146_0 := (HB.out.cell (World.block_lt_of_cell? w _ hx146_0)).trans hx146_0
              replace p146 := eq_true p146
              replace q146 := eq_true q146
              go_wp2_with (first | (go_at_call 15; (with_reducible refine (class_Of.calls k1 (rd l0 x21_1) a4 t147 _ A29.out).mono ?_); rintro e w' ⟨rfl, ⟨nd, rfl⟩⟩; (try first | exact ⟨rfl, _, World.drewN_drewN _ _ _⟩ | exact ⟨rfl, _, Eq.trans (World.drewN_drewN _ _ _) (congrArg (World.drewN _) (Nat.add_assoc _ _ _))⟩)) | ((with_reducible refine gate_builtin (b := .append) (xs := #[.tmp 65, .tmp 76]) rfl ?_); at_builtin; refine Kd.R_append k76 (w0 := w) w.heap.size rfl (.tmp 65) (.tmp 76) 73 76 (.agg #[(.int .i64 0), (.int .i64 0), (.bool false)]) 24 rfl Tryd.underlying73 info76 rfl (by decide) (by omega) u19 x19_1 (⟨x21_1, wrap64 (t132 + (rd t137 x48_1)), (t147 == 0)⟩ : S76) [.int .i64 x21_1, .int .i64 (wrap64 (t132 + (rd t137 x48_1))), .bool (t147 == 0)] (fun _ => True) (fun _ => False) rfl rfl ?aP (fun _ hk => hk.elim) ?aF ?aO ?aB ?aS ?aL ?_; (case aP => exact k76_mkM _ _ _ (⟨x21_1, wrap64 (t132 + (rd t137 x48_1)), (t147 == 0)⟩ : S76)); (case aB => exact (by repeat (first | (with_reducible first | exact HB.out | apply below_alloc | apply pw_below_drewN | apply below_drew1) | exact HB.out))); (case aF => exact (fun _ _ => trivial)); (case aO => exact (by (with_reducible repeat (first | apply Kd.R_alloc | apply Kd.R_drewN | apply Kd.R_drew)); exact HO_19.out)); (case aS => exact (below_size (by repeat (first | (with_reducible first | exact HB.out | apply below_alloc | apply pw_below_drewN | apply below_drew1) | exact HB.out)))); (case aL => have := LMc30.out; omega); intro v149 w31 ho hb hg hat; rw [← Ny148.out] at ho; have n0_ := Aside0.mk (Kd.R_over' (by (with_reducible repeat (first | apply Kd.R_alloc | apply Kd.R_drewN | apply Kd.R_drew)); exact HO_46.out) (Kd.R_typed (by (with_reducible repeat (first | apply Kd.R_alloc | apply Kd.R_drewN | apply Kd.R_drew)); exact HO_19.out)) (by decide) hg); have n1_ := Aside0.mk (hb); have n2_ := Aside0.mk (ho); clear HO_46; clear HB; clear HO_19; have HO_46 := n0_; have HB := n1_; have HO150 := n2_; clear n0_ n1_ n2_; clear ho hb hg hat))
              repeat (go_quiet (first | (go_at_call 15; (with_reducible refine (class_Of.calls k1 (rd l0 x21_1) a4 t147 _ A29.out).mono ?_); rintro e w' ⟨rfl, ⟨nd, rfl⟩⟩; (try first | exact ⟨rfl, _, World.drewN_drewN _ _ _⟩ | exact ⟨rfl, _, Eq.trans (World.drewN_drewN _ _ _) (congrArg (World.drewN _) (Nat.add_assoc _ _ _))⟩)) | ((with_reducible refine gate_builtin (b := .append) (xs := #[.tmp 65, .tmp 76]) rfl ?_); at_builtin; refine Kd.R_append k76 (w0 := w) w.heap.size rfl (.tmp 65) (.tmp 76) 73 76 (.agg #[(.int .i64 0), (.int .i64 0), (.bool false)]) 24 rfl Tryd.underlying73 info76 rfl (by decide) (by omega) u19 x19_1 (⟨x21_1, wrap64 (t132 + (rd t137 x48_1)), (t147 == 0)⟩ : S76) [.int .i64 x21_1, .int .i64 (wrap64 (t132 + (rd t137 x48_1))), .bool (t147 == 0)] (fun _ => True) (fun _ => False) rfl rfl ?aP (fun _ hk => hk.elim) ?aF ?aO ?aB ?aS ?aL ?_; (case aP => exact k76_mkM _ _ _ (⟨x21_1, wrap64 (t132 + (rd t137 x48_1)), (t147 == 0)⟩ : S76)); (case aB => exact (by repeat (first | (with_reducible first | exact HB.out | apply below_alloc | apply pw_below_drewN | apply below_drew1) | exact HB.out))); (case aF => exact (fun _ _ => trivial)); (case aO => exact (by (with_reducible repeat (first | apply Kd.R_alloc | apply Kd.R_drewN | apply Kd.R_drew)); exact HO_19.out)); (case aS => exact (below_size (by repeat (first | (with_reducible first | exact HB.out | apply below_alloc | apply pw_below_drewN | apply below_drew1) | exact HB.out)))); (case aL => have := LMc30.out; omega); intro v149 w31 ho hb hg hat; rw [← Ny148.out] at ho; have n0_ := Aside0.mk (Kd.R_over' (by (with_reducible repeat (first | apply Kd.R_alloc | apply Kd.R_drewN | apply Kd.R_drew)); exact HO_46.out) (Kd.R_typed (by (with_reducible repeat (first | apply Kd.R_alloc | apply Kd.R_drewN | apply Kd.R_drew)); exact HO_19.out)) (by decide) hg); have n1_ := Aside0.mk (hb); have n2_ := Aside0.mk (ho); clear HO_46; clear HB; clear HO_19; have HO_46 := n0_; have HB := n1_; have HO150 := n2_; clear n0_ n1_ n2_; clear ho hb hg hat)); try go_wp2_with (first | (go_at_call 15; (with_reducible refine (class_Of.calls k1 (rd l0 x21_1) a4 t147 _ A29.out).mono ?_); rintro e w' ⟨rfl, ⟨nd, rfl⟩⟩; (try first | exact ⟨rfl, _, World.drewN_drewN _ _ _⟩ | exact ⟨rfl, _, Eq.trans (World.drewN_drewN _ _ _) (congrArg (World.drewN _) (Nat.add_assoc _ _ _))⟩)) | ((with_reducible refine gate_builtin (b := .append) (xs := #[.tmp 65, .tmp 76]) rfl ?_); at_builtin; refine Kd.R_append k76 (w0 := w) w.heap.size rfl (.tmp 65) (.tmp 76) 73 76 (.agg #[(.int .i64 0), (.int .i64 0), (.bool false)]) 24 rfl Tryd.underlying73 info76 rfl (by decide) (by omega) u19 x19_1 (⟨x21_1, wrap64 (t132 + (rd t137 x48_1)), (t147 == 0)⟩ : S76) [.int .i64 x21_1, .int .i64 (wrap64 (t132 + (rd t137 x48_1))), .bool (t147 == 0)] (fun _ => True) (fun _ => False) rfl rfl ?aP (fun _ hk => hk.elim) ?aF ?aO ?aB ?aS ?aL ?_; (case aP => exact k76_mkM _ _ _ (⟨x21_1, wrap64 (t132 + (rd t137 x48_1)), (t147 == 0)⟩ : S76)); (case aB => exact (by repeat (first | (with_reducible first | exact HB.out | apply below_alloc | apply pw_below_drewN | apply below_drew1) | exact HB.out))); (case aF => exact (fun _ _ => trivial)); (case aO => exact (by (with_reducible repeat (first | apply Kd.R_alloc | apply Kd.R_drewN | apply Kd.R_drew)); exact HO_19.out)); (case aS => exact (below_size (by repeat (first | (with_reducible first | exact HB.out | apply below_alloc | apply pw_below_drewN | apply below_drew1) | exact HB.out)))); (case aL => have := LMc30.out; omega); intro v149 w31 ho hb hg hat; rw [← Ny148.out] at ho; have n0_ := Aside0.mk (Kd.R_over' (by (with_reducible repeat (first | apply Kd.R_alloc | apply Kd.R_drewN | apply Kd.R_drew)); exact HO_46.out) (Kd.R_typed (by (with_reducible repeat (first | apply Kd.R_alloc | apply Kd.R_drewN | apply Kd.R_drew)); exact HO_19.out)) (by decide) hg); have n1_ := Aside0.mk (hb); have n2_ := Aside0.mk (ho); clear HO_46; clear HB; clear HO_19; have HO_46 := n0_; have HB := n1_; have HO150 := n2_; clear n0_ n1_ n2_; clear ho hb hg hat)))
              go_roundg k1
              case measure => have := HK1.out; omega
              case rel => exact ⟨(y148), (x20_1), (wrap64 (t132 + (rd t137 x48_1))), (wrap64 (x48_1 + 1)), (by first | rfl | (simp; done) | (simp [*]; done)), (by first | rfl | (simp; done) | (simp [*]; done)), (by first | rfl | (simp; done) | (simp [*]; done)), H', ⟨by have := HK1.out; omega⟩, ⟨by (with_reducible repeat (first | apply Kd.R_alloc | apply Kd.R_drewN | apply Kd.R_drew)); exact HO150.out⟩, ⟨by (with_reducible repeat (first | apply Kd.R_alloc | apply Kd.R_drewN | apply Kd.R_drew)); exact HO_46.out⟩, ⟨by repeat (first | (with_reducible first | exact HB.out | apply below_alloc | apply pw_below_drewN | apply below_drew1) | exact HB.out)⟩⟩
             ·rw [if_neg c30] at H
              exact absurd H (by simp)
            ·rw [if_neg c28] at H
             exact absurd H (by simp)
           ·rw [if_neg c27] at H
            exact absurd H (by simp)
         ·rw [if_neg c19] at H
          have c19b0 : decide (x21_1 ≤ a2) = false := decide_eq_false c19
          clear c19
          by_cases c32 : 0 ≤ x21_1
          ·rw [if_pos c32] at H
           have c32b0 : decide (0 ≤ x21_1) = true := decide_eq_true c32
           clear c32
           by_cases c33 : x21_1 < (l0.length : Int)
           ·rw [if_pos c33] at H
            have c33b0 : decide (x21_1 < (l0.length : Int)) = true := decide_eq_true c33
            clear c33
            replace H := Option.bind_eq_some_iff.mp H
            obtain ⟨t152, A340, H⟩ := H
            replace H : (if x19_1.length < 5864062014805 then (object_words.l0 k1 l0 a2 a3 a4 a5 t132 (x19_1 ++ [(⟨x21_1, wrap64 (t132 + (rd t137 x48_1)), (t152 == 0)⟩ : S76)]) x20_1 (wrap64 (t132 + (rd t137 x48_1))) t137 (t137.length : Int) (wrap64 (x48_1 + 1))) else (none)) = some (r1, r2, r3) := H
            have A34 := Aside0.mk A340
            clear A340
            by_cases c35 : x19_1.length < 5864062014805
            ·rw [if_pos c35] at H
             have LMc35 := Aside0.mk c35
             clear c35
             obtain ⟨y153, hy153⟩ : ∃ y_ : List (S76), y_ = (x19_1 ++ [(⟨x21_1, wrap64 (t132 + (rd t137 x48_1)), (t152 == 0)⟩ : S76)]) := ⟨_, rfl⟩
             replace H : (object_words.l0 k1 l0 a2 a3 a4 a5 t132 y153 x20_1 (wrap64 (t132 + (rd t137 x48_1))) t137 (t137.length : Int) (wrap64 (x48_1 + 1))) = some (r1, r2, r3) := by first | (rw [hy153]; with_reducible exact H) | (have H2_ := (Option.bind_some _ _).symm.trans H; rw [hy153]; with_reducible exact H2_) | (have H2_ := (Option.bind_some _ _).symm.trans H; with_reducible exact H2_) | with_reducible exact H | (rw [hy153]; exact H) | exact H
             have Ny153 := Aside0.mk hy153
             clear hy153
             have H' := Aside0.mk H
             clear H
             have p140 : 0 ≤ (x48_1 : Int) := of_decide_eq_true (by first | (with_reducible assumption) | assumption)
             have q140 : x48_1 < (t137.length : Int) := of_decide_eq_true (by first | (with_reducible assumption) | assumption)
             obtain ⟨ad140, e140, hx140_0⟩ := Kd.at_int (Kd.R_reads' HO_46.out).2.2 x48_1 p140 q140
             cases e140
             replace p140 := eq_true p140
             replace q140 := eq_true q140
             have p151 : 0 ≤ (x21_1 : Int) := of_decide_eq_true (by first | (with_reducible assumption) | assumption)
             have q151 : x21_1 < (l0.length : Int) := of_decide_eq_true (by first | (with_reducible assumption) | assumption)
             obtain ⟨ad151, e151, hx151_0⟩ := Kd.at_int HR0.out x21_1 p151 q151
             cases e151
             replace hx151_0 := (HB.out.cell (World.block_lt_of_cell? w _ hx151_0)).trans hx151_0
             replace p151 := eq_true p151
             replace q151 := eq_true q151
             go_wp2_with (first | (go_at_call 15; (with_reducible refine (class_Of.calls k1 (rd l0 x21_1) a4 t152 _ A34.out).mono ?_); rintro e w' ⟨rfl, ⟨nd, rfl⟩⟩; (try first | exact ⟨rfl, _, World.drewN_drewN _ _ _⟩ | exact ⟨rfl, _, Eq.trans (World.drewN_drewN _ _ _) (congrArg (World.drewN _) (Nat.add_assoc _ _ _))⟩)) | ((with_reducible refine gate_builtin (b := .append) (xs := #[.tmp 65, .tmp 76]) rfl ?_); at_builtin; refine Kd.R_append k76 (w0 := w) w.heap.size rfl (.tmp 65) (.tmp 76) 73 76 (.agg #[(.int .i64 0), (.int .i64 0), (.bool false)]) 24 rfl Tryd.underlying73 info76 rfl (by decide) (by omega) u19 x19_1 (⟨x21_1, wrap64 (t132 + (rd t137 x48_1)), (t152 == 0)⟩ : S76) [.int .i64 x21_1, .int .i64 (wrap64 (t132 + (rd t137 x48_1))), .bool (t152 == 0)] (fun _ => True) (fun _ => False) rfl rfl ?aP (fun _ hk => hk.elim) ?aF ?aO ?aB ?aS ?aL ?_; (case aP => exact k76_mkM _ _ _ (⟨x21_1, wrap64 (t132 + (rd t137 x48_1)), (t152 == 0)⟩ : S76)); (case aB => exact (by repeat (first | (with_reducible first | exact HB.out | apply below_alloc | apply pw_below_drewN | apply below_drew1) | exact HB.out))); (case aF => exact (fun _ _ => trivial)); (case aO => exact (by (with_reducible repeat (first | apply Kd.R_alloc | apply Kd.R_drewN | apply Kd.R_drew)); exact HO_19.out)); (case aS => exact (below_size (by repeat (first | (with_reducible first | exact HB.out | apply below_alloc | apply pw_below_drewN | apply below_drew1) | exact HB.out)))); (case aL => have := LMc35.out; omega); intro v154 w36 ho hb hg hat; rw [← Ny153.out] at ho; have n0_ := Aside0.mk (Kd.R_over' (by (with_reducible repeat (first | apply Kd.R_alloc | apply Kd.R_drewN | apply Kd.R_drew)); exact HO_46.out) (Kd.R_typed (by (with_reducible repeat (first | apply Kd.R_alloc | apply Kd.R_drewN | apply Kd.R_drew)); exact HO_19.out)) (by decide) hg); have n1_ := Aside0.mk (hb); have n2_ := Aside0.mk (ho); clear HO_46; clear HB; clear HO_19; have HO_46 := n0_; have HB := n1_; have HO155 := n2_; clear n0_ n1_ n2_; clear ho hb hg hat))
             repeat (go_quiet (first | (go_at_call 15; (with_reducible refine (class_Of.calls k1 (rd l0 x21_1) a4 t152 _ A34.out).mono ?_); rintro e w' ⟨rfl, ⟨nd, rfl⟩⟩; (try first | exact ⟨rfl, _, World.drewN_drewN _ _ _⟩ | exact ⟨rfl, _, Eq.trans (World.drewN_drewN _ _ _) (congrArg (World.drewN _) (Nat.add_assoc _ _ _))⟩)) | ((with_reducible refine gate_builtin (b := .append) (xs := #[.tmp 65, .tmp 76]) rfl ?_); at_builtin; refine Kd.R_append k76 (w0 := w) w.heap.size rfl (.tmp 65) (.tmp 76) 73 76 (.agg #[(.int .i64 0), (.int .i64 0), (.bool false)]) 24 rfl Tryd.underlying73 info76 rfl (by decide) (by omega) u19 x19_1 (⟨x21_1, wrap64 (t132 + (rd t137 x48_1)), (t152 == 0)⟩ : S76) [.int .i64 x21_1, .int .i64 (wrap64 (t132 + (rd t137 x48_1))), .bool (t152 == 0)] (fun _ => True) (fun _ => False) rfl rfl ?aP (fun _ hk => hk.elim) ?aF ?aO ?aB ?aS ?aL ?_; (case aP => exact k76_mkM _ _ _ (⟨x21_1, wrap64 (t132 + (rd t137 x48_1)), (t152 == 0)⟩ : S76)); (case aB => exact (by repeat (first | (with_reducible first | exact HB.out | apply below_alloc | apply pw_below_drewN | apply below_drew1) | exact HB.out))); (case aF => exact (fun _ _ => trivial)); (case aO => exact (by (with_reducible repeat (first | apply Kd.R_alloc | apply Kd.R_drewN | apply Kd.R_drew)); exact HO_19.out)); (case aS => exact (below_size (by repeat (first | (with_reducible first | exact HB.out | apply below_alloc | apply pw_below_drewN | apply below_drew1) | exact HB.out)))); (case aL => have := LMc35.out; omega); intro v154 w36 ho hb hg hat; rw [← Ny153.out] at ho; have n0_ := Aside0.mk (Kd.R_over' (by (with_reducible repeat (first | apply Kd.R_alloc | apply Kd.R_drewN | apply Kd.R_drew)); exact HO_46.out) (Kd.R_typed (by (with_reducible repeat (first | apply Kd.R_alloc | apply Kd.R_drewN | apply Kd.R_drew)); exact HO_19.out)) (by decide) hg); have n1_ := Aside0.mk (hb); have n2_ := Aside0.mk (ho); clear HO_46; clear HB; clear HO_19; have HO_46 := n0_; have HB := n1_; have HO155 := n2_; clear n0_ n1_ n2_; clear ho hb hg hat)); try go_wp2_with (first | (go_at_call 15; (with_reducible refine (class_Of.calls k1 (rd l0 x21_1) a4 t152 _ A34.out).mono ?_); rintro e w' ⟨rfl, ⟨nd, rfl⟩⟩; (try first | exact ⟨rfl, _, World.drewN_drewN _ _ _⟩ | exact ⟨rfl, _, Eq.trans (World.drewN_drewN _ _ _) (congrArg (World.drewN _) (Nat.add_assoc _ _ _))⟩)) | ((with_reducible refine gate_builtin (b := .append) (xs := #[.tmp 65, .tmp 76]) rfl ?_); at_builtin; refine Kd.R_append k76 (w0 := w) w.heap.size rfl (.tmp 65) (.tmp 76) 73 76 (.agg #[(.int .i64 0), (.int .i64 0), (.bool false)]) 24 rfl Tryd.underlying73 info76 rfl (by decide) (by omega) u19 x19_1 (⟨x21_1, wrap64 (t132 + (rd t137 x48_1)), (t152 == 0)⟩ : S76) [.int .i64 x21_1, .int .i64 (wrap64 (t132 + (rd t137 x48_1))), .bool (t152 == 0)] (fun _ => True) (fun _ => False) rfl rfl ?aP (fun _ hk => hk.elim) ?aF ?aO ?aB ?aS ?aL ?_; (case aP => exact k76_mkM _ _ _ (⟨x21_1, wrap64 (t132 + (rd t137 x48_1)), (t152 == 0)⟩ : S76)); (case aB => exact (by repeat (first | (with_reducible first | exact HB.out | apply below_alloc | apply pw_below_drewN | apply below_drew1) | exact HB.out))); (case aF => exact (fun _ _ => trivial)); (case aO => exact (by (with_reducible repeat (first | apply Kd.R_alloc | apply Kd.R_drewN | apply Kd.R_drew)); exact HO_19.out)); (case aS => exact (below_size (by repeat (first | (with_reducible first | exact HB.out | apply below_alloc | apply pw_below_drewN | apply below_drew1) | exact HB.out)))); (case aL => have := LMc35.out; omega); intro v154 w36 ho hb hg hat; rw [← Ny153.out] at ho; have n0_ := Aside0.mk (Kd.R_over' (by (with_reducible repeat (first | apply Kd.R_alloc | apply Kd.R_drewN | apply Kd.R_drew)); exact HO_46.out) (Kd.R_typed (by (with_reducible repeat (first | apply Kd.R_alloc | apply Kd.R_drewN | apply Kd.R_drew)); exact HO_19.out)) (by decide) hg); have n1_ := Aside0.mk (hb); have n2_ := Aside0.mk (ho); clear HO_46; clear HB; clear HO_19; have HO_46 := n0_; have HB := n1_; have HO155 := n2_; clear n0_ n1_ n2_; clear ho hb hg hat)))
             go_roundg k1
             case measure => have := HK1.out; omega
             case rel => exact ⟨(y153), (x20_1), (wrap64 (t132 + (rd t137 x48_1))), (wrap64 (x48_1 + 1)), (by first | rfl | (simp; done) | (simp [*]; done)), (by first | rfl | (simp; done) | (simp [*]; done)), (by first | rfl | (simp; done) | (simp [*]; done)), H', ⟨by have := HK1.out; omega⟩, ⟨by (with_reducible repeat (first | apply Kd.R_alloc | apply Kd.R_drewN | apply Kd.R_drew)); exact HO155.out⟩, ⟨by (with_reducible repeat (first | apply Kd.R_alloc | apply Kd.R_drewN | apply Kd.R_drew)); exact HO_46.out⟩, ⟨by repeat (first | (with_reducible first | exact HB.out | apply below_alloc | apply pw_below_drewN | apply below_drew1) | exact HB.out)⟩⟩
            ·rw [if_neg c35] at H
             exact absurd H (by simp)
           ·rw [if_neg c33] at H
            exact absurd H (by simp)
          ·rw [if_neg c32] at H
           exact absurd H (by simp)
        ·rw [if_neg c18] at H
         exact absurd H (by simp)
       ·rw [if_neg c17] at H
        exact absurd H (by simp)
      ·rw [if_neg c16] at H
       have c16b0 : decide (x48_1 < (t137.length : Int)) = false := decide_eq_false c16
       clear c16
       by_cases c37 : x20_1 < 0
       ·rw [if_pos c37] at H
        have c37b0 : decide (x20_1 < 0) = true := decide_eq_true c37
        clear c37
        simp only [Option.some.injEq, Prod.mk.injEq] at H
        obtain ⟨rfl, rfl, rfl⟩ := H
        go_wp2
        repeat (go_quiet (fail); try go_wp2)
        go_ret3
        exact ⟨by first | rfl | (simp [errW_none, errW_some] <;> rfl) | (simp [*, errW_none, errW_some] <;> rfl), by repeat (first | (with_reducible first | exact HB.out | apply below_alloc | apply pw_below_drewN | apply below_drew1) | exact HB.out)⟩
       ·rw [if_neg c37] at H
        have c37b0 : decide (x20_1 < 0) = false := decide_eq_false c37
        clear c37
        replace H := Option.bind_eq_some_iff.mp H
        obtain ⟨⟨t156, t157, t158⟩, A380, H⟩ := H
        replace H : (if t158 = true then (if 0 ≤ t156 then (if t156 < (x19_1.length : Int) then (if 0 ≤ (wrap64 (t157 - 1)) then (if (wrap64 (t157 - 1)) < (x19_1.length : Int) then (some ((rd_T76 x19_1 t156).f0, (rd_T76 x19_1 (wrap64 (t157 - 1))).f1, true)) else (none)) else (none)) else (none)) else (none)) else (some (0, 0, false))) = some (r1, r2, r3) := H
        have A38 := Aside0.mk A380
        clear A380
        by_cases c39 : t158 = true
        ·subst c39
         have H1 : (if 0 ≤ t156 then (if t156 < (x19_1.length : Int) then (if 0 ≤ (wrap64 (t157 - 1)) then (if (wrap64 (t157 - 1)) < (x19_1.length : Int) then (some ((rd_T76 x19_1 t156).f0, (rd_T76 x19_1 (wrap64 (t157 - 1))).f1, true)) else (none)) else (none)) else (none)) else (none)) = some (r1, r2, r3) := by rw [if_pos rfl] at H; exact H
         clear H
         have H := H1
         clear H1
         by_cases c40 : 0 ≤ t156
         ·rw [if_pos c40] at H
          have c40b0 : decide (0 ≤ t156) = true := decide_eq_true c40
          clear c40
          by_cases c41 : t156 < (x19_1.length : Int)
          ·rw [if_pos c41] at H
           have c41b0 : decide (t156 < (x19_1.length : Int)) = true := decide_eq_true c41
           clear c41
           obtain ⟨ji42, hji42⟩ : ∃ j_ : Int, (wrap64 (t157 - 1)) = j_ := ⟨_, rfl⟩
           replace H : (if 0 ≤ (ji42) then (if (ji42) < (x19_1.length : Int) then (some ((rd_T76 x19_1 t156).f0, (rd_T76 x19_1 (ji42)).f1, true)) else (none)) else (none)) = some (r1, r2, r3) := by first | (rw [hji42] at H; exact H) | (simp only [hji42] at H ⊢; exact H)
           (try rw [hji42] at A38)
           have hji42w : (IntKind.i64.wrap (t157 - 1)) = ji42 := (i64_w _).trans hji42
           by_cases c43 : 0 ≤ (ji42)
           ·rw [if_pos c43] at H
            have c43b0 : decide (0 ≤ (ji42)) = true := decide_eq_true c43
            clear c43
            by_cases c44 : (ji42) < (x19_1.length : Int)
            ·rw [if_pos c44] at H
             have c44b0 : decide ((ji42) < (x19_1.length : Int)) = true := decide_eq_true c44
             clear c44
             simp only [Option.some.injEq, Prod.mk.injEq] at H
             obtain ⟨rfl, rfl, rfl⟩ := H
             obtain ⟨Ao45, co45, eo45⟩ := Kd.R_slice HO_19.out
             subst eo45
             go_wp2_with (first | (go_at_call 47; (with_reducible refine (object_taken.calls k1 _ _ x19_1 x20_1 a3 a5 t156 t157 true _ ?side1 ?side2 A38.out).mono ?_); (case side1 => repeat (first | exact (Kd.R_reads' HO_19.out).2.2 | (with_reducible refine Kd.C_alloc ?_ _) | (with_reducible refine Kd.C_drewN ?_ _) | (with_reducible refine Kd.C_drew ?_))); (case side2 => exact (Kd.R_reads' HO_19.out).2.1); rintro e w' ⟨rfl, ⟨nd, rfl⟩⟩; (try first | exact ⟨rfl, _, World.drewN_drewN _ _ _⟩ | exact ⟨rfl, _, Eq.trans (World.drewN_drewN _ _ _) (congrArg (World.drewN _) (Nat.add_assoc _ _ _))⟩); have p159 : 0 ≤ (t156 : Int) := of_decide_eq_true (by first | (with_reducible assumption) | assumption); have q159 : t156 < (x19_1.length : Int) := of_decide_eq_true (by first | (with_reducible assumption) | assumption); obtain ⟨ad159, e159, hx159_0, hx159_1, hx159_2⟩ := at_T76 (Kd.R_reads' HO_19.out).2.2 t156 p159 q159; cases e159; replace p159 := eq_true p159; replace q159 := eq_true q159; have p160 : 0 ≤ ((ji42) : Int) := of_decide_eq_true (by first | (with_reducible assumption) | assumption); have q160 : (ji42) < (x19_1.length : Int) := of_decide_eq_true (by first | (with_reducible assumption) | assumption); obtain ⟨ad160, e160, hx160_0, hx160_1, hx160_2⟩ := at_T76 (Kd.R_reads' HO_19.out).2.2 (ji42) p160 q160; obtain rfl : ad159 = ad160 := (by injection e160); replace p160 := eq_true p160; replace q160 := eq_true q160))
             repeat (go_quiet (first | (go_at_call 47; (with_reducible refine (object_taken.calls k1 _ _ x19_1 x20_1 a3 a5 t156 t157 true _ ?side1 ?side2 A38.out).mono ?_); (case side1 => repeat (first | exact (Kd.R_reads' HO_19.out).2.2 | (with_reducible refine Kd.C_alloc ?_ _) | (with_reducible refine Kd.C_drewN ?_ _) | (with_reducible refine Kd.C_drew ?_))); (case side2 => exact (Kd.R_reads' HO_19.out).2.1); rintro e w' ⟨rfl, ⟨nd, rfl⟩⟩; (try first | exact ⟨rfl, _, World.drewN_drewN _ _ _⟩ | exact ⟨rfl, _, Eq.trans (World.drewN_drewN _ _ _) (congrArg (World.drewN _) (Nat.add_assoc _ _ _))⟩); have p159 : 0 ≤ (t156 : Int) := of_decide_eq_true (by first | (with_reducible assumption) | assumption); have q159 : t156 < (x19_1.length : Int) := of_decide_eq_true (by first | (with_reducible assumption) | assumption); obtain ⟨ad159, e159, hx159_0, hx159_1, hx159_2⟩ := at_T76 (Kd.R_reads' HO_19.out).2.2 t156 p159 q159; cases e159; replace p159 := eq_true p159; replace q159 := eq_true q159; have p160 : 0 ≤ ((ji42) : Int) := of_decide_eq_true (by first | (with_reducible assumption) | assumption); have q160 : (ji42) < (x19_1.length : Int) := of_decide_eq_true (by first | (with_reducible assumption) | assumption); obtain ⟨ad160, e160, hx160_0, hx160_1, hx160_2⟩ := at_T76 (Kd.R_reads' HO_19.out).2.2 (ji42) p160 q160; obtain rfl : ad159 = ad160 := (by injection e160); replace p160 := eq_true p160; replace q160 := eq_true q160)); try go_wp2_with (first | (go_at_call 47; (with_reducible refine (object_taken.calls k1 _ _ x19_1 x20_1 a3 a5 t156 t157 true _ ?side1 ?side2 A38.out).mono ?_); (case side1 => repeat (first | exact (Kd.R_reads' HO_19.out).2.2 | (with_reducible refine Kd.C_alloc ?_ _) | (with_reducible refine Kd.C_drewN ?_ _) | (with_reducible refine Kd.C_drew ?_))); (case side2 => exact (Kd.R_reads' HO_19.out).2.1); rintro e w' ⟨rfl, ⟨nd, rfl⟩⟩; (try first | exact ⟨rfl, _, World.drewN_drewN _ _ _⟩ | exact ⟨rfl, _, Eq.trans (World.drewN_drewN _ _ _) (congrArg (World.drewN _) (Nat.add_assoc _ _ _))⟩); have p159 : 0 ≤ (t156 : Int) := of_decide_eq_true (by first | (with_reducible assumption) | assumption); have q159 : t156 < (x19_1.length : Int) := of_decide_eq_true (by first | (with_reducible assumption) | assumption); obtain ⟨ad159, e159, hx159_0, hx159_1, hx159_2⟩ := at_T76 (Kd.R_reads' HO_19.out).2.2 t156 p159 q159; cases e159; replace p159 := eq_true p159; replace q159 := eq_true q159; have p160 : 0 ≤ ((ji42) : Int) := of_decide_eq_true (by first | (with_reducible assumption) | assumption); have q160 : (ji42) < (x19_1.length : Int) := of_decide_eq_true (by first | (with_reducible assumption) | assumption); obtain ⟨ad160, e160, hx160_0, hx160_1, hx160_2⟩ := at_T76 (Kd.R_reads' HO_19.out).2.2 (ji42) p160 q160; obtain rfl : ad159 = ad160 := (by injection e160); replace p160 := eq_true p160; replace q160 := eq_true q160)))
             go_ret3
             exact ⟨by first | rfl | (simp [errW_none, errW_some] <;> rfl) | (simp only [← hji42]; first | rfl | (simp [errW_none, errW_some] <;> rfl)) | (simp [*, errW_none, errW_some] <;> rfl), by repeat (first | (with_reducible first | exact HB.out | apply below_alloc | apply pw_below_drewN | apply below_drew1) | exact HB.out)⟩
            ·rw [if_neg c44] at H
             exact absurd H (by simp)
           ·rw [if_neg c43] at H
            exact absurd H (by simp)
          ·rw [if_neg c41] at H
           exact absurd H (by simp)
         ·rw [if_neg c40] at H
          exact absurd H (by simp)
        ·replace c39 := Bool.eq_false_iff.mpr c39
         subst c39
         have H1 : (some (0, 0, false)) = some (r1, r2, r3) := by rw [if_neg (show ¬ (false = true) by decide)] at H; exact H
         clear H
         have H := H1
         clear H1
         simp only [Option.some.injEq, Prod.mk.injEq] at H
         obtain ⟨rfl, rfl, rfl⟩ := H
         obtain ⟨Ao46, co46, eo46⟩ := Kd.R_slice HO_19.out
         subst eo46
         go_wp2_with (first | (go_at_call 47; (with_reducible refine (object_taken.calls k1 _ _ x19_1 x20_1 a3 a5 t156 t157 false _ ?side1 ?side2 A38.out).mono ?_); (case side1 => repeat (first | exact (Kd.R_reads' HO_19.out).2.2 | (with_reducible refine Kd.C_alloc ?_ _) | (with_reducible refine Kd.C_drewN ?_ _) | (with_reducible refine Kd.C_drew ?_))); (case side2 => exact (Kd.R_reads' HO_19.out).2.1); rintro e w' ⟨rfl, ⟨nd, rfl⟩⟩; (try first | exact ⟨rfl, _, World.drewN_drewN _ _ _⟩ | exact ⟨rfl, _, Eq.trans (World.drewN_drewN _ _ _) (congrArg (World.drewN _) (Nat.add_assoc _ _ _))⟩)))
         repeat (go_quiet (first | (go_at_call 47; (with_reducible refine (object_taken.calls k1 _ _ x19_1 x20_1 a3 a5 t156 t157 false _ ?side1 ?side2 A38.out).mono ?_); (case side1 => repeat (first | exact (Kd.R_reads' HO_19.out).2.2 | (with_reducible refine Kd.C_alloc ?_ _) | (with_reducible refine Kd.C_drewN ?_ _) | (with_reducible refine Kd.C_drew ?_))); (case side2 => exact (Kd.R_reads' HO_19.out).2.1); rintro e w' ⟨rfl, ⟨nd, rfl⟩⟩; (try first | exact ⟨rfl, _, World.drewN_drewN _ _ _⟩ | exact ⟨rfl, _, Eq.trans (World.drewN_drewN _ _ _) (congrArg (World.drewN _) (Nat.add_assoc _ _ _))⟩))); try go_wp2_with (first | (go_at_call 47; (with_reducible refine (object_taken.calls k1 _ _ x19_1 x20_1 a3 a5 t156 t157 false _ ?side1 ?side2 A38.out).mono ?_); (case side1 => repeat (first | exact (Kd.R_reads' HO_19.out).2.2 | (with_reducible refine Kd.C_alloc ?_ _) | (with_reducible refine Kd.C_drewN ?_ _) | (with_reducible refine Kd.C_drew ?_))); (case side2 => exact (Kd.R_reads' HO_19.out).2.1); rintro e w' ⟨rfl, ⟨nd, rfl⟩⟩; (try first | exact ⟨rfl, _, World.drewN_drewN _ _ _⟩ | exact ⟨rfl, _, Eq.trans (World.drewN_drewN _ _ _) (congrArg (World.drewN _) (Nat.add_assoc _ _ _))⟩))))
         go_ret3
         exact ⟨by first | rfl | (simp [errW_none, errW_some] <;> rfl) | (simp [*, errW_none, errW_some] <;> rfl), by repeat (first | (with_reducible first | exact HB.out | apply below_alloc | apply pw_below_drewN | apply below_drew1) | exact HB.out)⟩
   ·rw [if_neg c11] at H
    exact absurd H (by simp)
  ·rw [if_neg c10] at H
   exact absurd H (by simp)
 ·rw [if_neg c9] at H
  exact absurd H (by simp)

end Go.Proofs.YtcochbkdgjgaeaaDoor.X
