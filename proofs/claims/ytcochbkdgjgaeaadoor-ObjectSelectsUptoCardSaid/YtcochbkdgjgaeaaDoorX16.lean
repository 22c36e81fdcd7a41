-- Written by wip/xprint.py over the kit's print.py: the Lean function of each Go function, and the proof that the Go text comes to it.
import Derived.Test.YtcochbkdgjgaeaaDoorX0
import Derived.Test.YtcochbkdgjgaeaaDoorX3
import Derived.Test.YtcochbkdgjgaeaaDoorX8
import Derived.Test.YtcochbkdgjgaeaaDoorX15
namespace Go.Proofs.YtcochbkdgjgaeaaDoor.X
open Go.RowKit Go.Proofs.YtcochbkdgjgaeaaDoorW.PrintWords Go.Proofs.YtcochbkdgjgaeaaDoorW.PrintLast Go.Proofs.YtcochbkdgjgaeaaDoorW.PrintMore
attribute [local go_sem] max2_int min2_int max_two min_two max_three min_three max_four min_four   -- for this text's walks alone
set_option linter.unusedVariables false
set_option linter.unusedSimpArgs false

/-! ### lines_Split: function 48, by hand -/
/-- The lines, without their ends. -/
def splitR : List Int → List (List Int)
 | [] => [[]]
 | x :: l => if x = 10 then [] :: splitR l else match splitR l with
  | [] => [[x]]
  | p :: r => (x :: p) :: r
theorem splitR_ne (l : List Int) : splitR l ≠ [] := by
 cases l with
 | nil => simp [splitR]
 | cons x l =>
  unfold splitR
  by_cases h : x = 10
  ·rw [if_pos h]; simp
  ·rw [if_neg h]; cases splitR l <;> simp
theorem splitR_len (l : List Int) : ((splitR l).length : Int) = cnt 10 l + 1 := by
 induction l with
 | nil => rfl
 | cons x l ih =>
  unfold splitR cnt
  by_cases h : x = 10
  ·rw [if_pos h, if_pos h, List.length_cons]; omega
  ·rw [if_neg h, if_neg h]
   have h0 := splitR_ne l
   cases e : splitR l with
   | nil => exact absurd e h0
   | cons p r => rw [e] at ih; simp only [List.length_cons] at ih ⊢; omega
theorem idx_cases (l : List Int) : (idx 10 l = -1 ∧ splitR l = [l] ∧ cnt 10 l = 0) ∨ ∃ i : Nat, idx 10 l = (i : Int) ∧ i < l.length ∧ splitR l = l.take i :: splitR (l.drop (i + 1)) ∧ cnt 10 l = cnt 10 (l.drop (i + 1)) + 1 := by
 induction l with
 | nil => exact .inl ⟨rfl, rfl, rfl⟩
 | cons x l ih =>
  by_cases h : x = 10
  ·refine .inr ⟨0, by unfold idx; rw [if_pos h]; rfl, by simp, ?_, ?_⟩
   ·conv => lhs; unfold splitR
    rw [if_pos h]; rfl
   ·conv => lhs; unfold cnt
    rw [if_pos h]; simp; omega
  ·rcases ih with ⟨h1, h2, h3⟩ | ⟨i, h1, h2, h3, h4⟩
   ·refine .inl ⟨by unfold idx; rw [if_neg h, h1]; rfl, ?_, ?_⟩
    ·unfold splitR; rw [if_neg h, h2]
    ·unfold cnt; rw [if_neg h, h3]; rfl
   ·refine .inr ⟨i + 1, ?_, by simp; omega, ?_, ?_⟩
    ·unfold idx; rw [if_neg h, h1, if_neg (by omega)]; omega
    ·conv => lhs; unfold splitR
     rw [if_neg h, h3]; simp
    ·conv => lhs; unfold cnt
     rw [if_neg h, h4]; simp
theorem splitR_parts (l : List Int) : ∀ x ∈ splitR l, x.length ≤ l.length := by
 induction l with
 | nil => intro x hx; simp [splitR] at hx; simp [hx]
 | cons y l ih =>
  intro x hx
  unfold splitR at hx
  by_cases h : y = 10
  ·rw [if_pos h] at hx
   rcases List.mem_cons.1 hx with e | e
   ·simp [e]
   ·have := ih x e; simp; omega
  ·rw [if_neg h] at hx
   cases e : splitR l with
   | nil => exact absurd e (splitR_ne l)
   | cons p r =>
    rw [e] at hx ih
    rcases List.mem_cons.1 hx with e2 | e2
    ·have := ih p (by simp); rw [e2]; simp; omega
    ·have := ih x (by simp [e2]); simp; omega
/-- A slice that reads as these bytes. -/
def PieceV (w : World) (v : Value) (l : List Int) : Prop := ∃ A c, v = .slice A l.length c ∧ l.length ≤ c ∧ Kd.C (Kd.int .u8) w A l.length l
def Pcs (w : World) : List Value → List (List Int) → Prop
 | [], [] => True
 | v :: vs, l :: ls => PieceV w v l ∧ Pcs w vs ls
 | _, _ => False
theorem Pcs_len {w : World} : ∀ {vs : List Value} {ls : List (List Int)}, Pcs w vs ls → vs.length = ls.length
 | [], [], _ => rfl
 | _ :: vs, _ :: ls, h => by simp [Pcs_len h.2]
 | [], _ :: _, h => h.elim
 | _ :: _, [], h => h.elim
theorem Pcs_snoc {w : World} : ∀ {vs : List Value} {ls : List (List Int)} {v : Value} {l : List Int}, Pcs w vs ls → PieceV w v l → Pcs w (vs ++ [v]) (ls ++ [l])
 | [], [], _, _, _, h => ⟨h, trivial⟩
 | _ :: _, _ :: _, _, _, h1, h => ⟨h1.1, Pcs_snoc h1.2 h⟩
 | [], _ :: _, _, _, h, _ => h.elim
 | _ :: _, [], _, _, h, _ => h.elim
theorem Pcs_at {w : World} : ∀ {vs : List Value} {ls : List (List Int)} {j : Nat} {l : List Int}, Pcs w vs ls → ls[j]? = some l → ∃ v, vs[j]? = some v ∧ PieceV w v l
 | _ :: _, _ :: _, 0, _, h, e => by
  have e := Option.some.inj e
  subst e
  exact ⟨_, rfl, h.1⟩
 | _ :: _, _ :: _, j + 1, _, h, e => Pcs_at (j := j) h.2 e
 | [], [], _, _, _, e => by simp at e
 | [], _ :: _, _, _, h, _ => h.elim
 | _ :: _, [], _, _, h, _ => h.elim
set_option maxHeartbeats 2000000 in
set_option maxRecDepth 1000000 in
theorem index_calls (A0 : Option Addr) (c0 : Nat) (l0 : List Int) (B0 : Addr) (d0 : Nat) (w : World) (hr0 : Kd.C (Kd.int .u8) w A0 l0.length l0) (hc0 : l0.length ≤ c0) (hu : u8s l0 = true) (hb : w.cell? B0 = some (.int .u8 10)) :
  Calls Tryd.prog 56 #[.slice A0 l0.length c0, .slice (some B0) 1 d0] w fun e w' => e = .returned (.int .i64 (idx 10 l0)) ∧ Drawn0 w w' := by
 have hf : bytes_IndexByte.f l0 10 = some (idx 10 l0) := by unfold bytes_IndexByte.f; rw [hu]; rfl
 have HR := Aside0.mk hr0
 have HC := Aside0.mk hc0
 have HF := Aside0.mk hf
 clear hr0 hc0 hf hu
 go_enter Tryd.func56, Tryd.ntmps56
 go_wp2_with (go_at_call 57; refine (bytes_IndexByte.calls A0 c0 l0 10 _ _ HR.out HC.out HF.out).mono ?_; rintro e w' ⟨rfl, ⟨m1, rfl⟩⟩)
 go_ret
 exact ⟨rfl, ⟨⟨m1, rfl⟩⟩⟩
theorem piece_whole {w : World} {a : Option Addr} {l : List Int} {c : Nat} (hc : l.length ≤ c) (hr : Kd.C (Kd.int .u8) w a l.length l) : PieceV w (.slice a l.length c) l := ⟨a, c, rfl, hc, hr⟩
theorem piece_take {w : World} {a : Addr} {l : List Int} {i : Nat} (hi : i ≤ l.length) (hr : Kd.C (Kd.int .u8) w (some a) l.length l) : PieceV w (.slice (some a) i i) (l.take i) := by
 have hl : (l.take i).length = i := by rw [List.length_take]; omega
 have h := Kd.C_take hr hi
 rw [hl] at h
 exact ⟨some a, i, by rw [hl], by omega, by rw [hl]; exact h⟩
theorem tail_C {w : World} {a : Addr} {l : List Int} {i c : Nat} (hi : i ≤ l.length) (hc : l.length ≤ c) (hr : Kd.C (Kd.int .u8) w (some a) l.length l) : Kd.C (Kd.int .u8) w (some (if c = i then a else a.add i)) (l.drop i).length (l.drop i) := by
 have h := Kd.C_drop hr hi hc
 by_cases e : c = i
 ·rw [if_pos e] at h ⊢; exact h
 ·rw [if_neg e] at h ⊢
  rw [show i * (Kd.int .u8).sz = i from Nat.mul_one i] at h
  exact h
theorem u8s_drop' {l : List Int} (h : u8s l = true) (n : Nat) : u8s (l.drop n) = true := by
 unfold u8s at h ⊢
 rw [List.all_eq_true] at h ⊢
 exact fun x hx => h x (List.mem_of_mem_drop hx)
set_option maxHeartbeats 1000000 in
set_option maxRecDepth 1000000 in
theorem gen_calls (a1 : Addr) (c1 : Nat) (l0 : List Int) (B0 : Addr) (d0 : Nat) (w : World) (hr0 : Kd.C (Kd.int .u8) w (some a1) l0.length l0) (hc0 : l0.length ≤ c1) (hu : u8s l0 = true) (hb : w.cell? B0 = some (.int .u8 10)) (hcB : Kd.C (Kd.int .u8) w (some B0) 1 [10]) (hd0 : 1 ≤ d0) (hl : l0.length < 5864062014804) :
  Calls Tryd.prog 68 #[.slice (some a1) l0.length c1, .slice (some B0) 1 d0, .int .i64 0, .int .i64 (-1)] w fun e w' => ∃ (vs : List Value) (q : Nat), e = .returned (.slice (some ⟨w.heap.size, 0, none⟩) vs.length vs.length) ∧ Aside0 (Pcs w vs (splitR l0)) ∧ w' = (w.alloc (.cells vs.toArray 22)).drewN q := by
 have hsl := splitR_len l0
 have hcl : cnt 10 l0 ≤ (l0.length : Int) := by
  have : ∀ l : List Int, cnt 10 l ≤ (l.length : Int) := by
   intro l
   induction l with
   | nil => simp [cnt]
   | cons x l ih => unfold cnt; simp only [List.length_cons]; split <;> omega
  exact this l0
 have hcf : bytes_Count.f l0 [10] = some (cnt 10 l0) := by unfold bytes_Count.f; rw [hu]; rfl
 obtain ⟨N, hN⟩ : ∃ N : Nat, (splitR l0).length = N + 1 := ⟨(splitR l0).length - 1, by have := splitR_ne l0; cases h : splitR l0 with | nil => exact absurd h this | cons => simp⟩
 have hcn : cnt 10 l0 = (N : Int) := by omega
 rw [hcn] at hcl hcf
 have eN' : min ((N : Int) + 1) ((l0.length : Int) + 1) = ((N + 1 : Nat) : Int) := by omega
 have hmk := run_make_row' (P := Tryd.prog) 78 22 (.slice none 0 0) 24 Tryd.underlying78 (by kernel_rfl) rfl .i64 .i64 (N + 1) (by omega) (by omega)
 rw [show ((N + 1 : Nat) : Int) = (N : Int) + 1 from by omega] at hmk
 have HS := Aside0.mk (⟨hr0, hu, hb, hcB, hcf, hsl, hcn, hN⟩ : Kd.C (Kd.int .u8) w (some a1) l0.length l0 ∧ u8s l0 = true ∧ w.cell? B0 = some (.int .u8 10) ∧ Kd.C (Kd.int .u8) w (some B0) 1 [10] ∧ bytes_Count.f l0 [10] = some (N : Int) ∧ ((splitR l0).length : Int) = cnt 10 l0 + 1 ∧ cnt 10 l0 = (N : Int) ∧ (splitR l0).length = N + 1)
 clear hr0 hu hb hcB hcf hsl hcn hN
 have ad : ∀ (W : World) (j : Nat) (o : Obj), (W.drewN j).alloc o = (W.alloc o).drewN j := fun _ _ _ => rfl
 have sd : ∀ (W : World) (j : Nat) (x : Addr) (v : Value), (W.drewN j).setCell x v = (W.setCell x v).drewN j := fun _ _ _ _ => rfl
 go_enter Tryd.func68, Tryd.ntmps68
 go_wp2_with (go_at_call 43; refine (bytes_Count.calls (some a1) c1 l0 (some B0) d0 [10] (N : Int) _ HS.out.1 hc0 HS.out.2.2.2.1 hd0 HS.out.2.2.2.2.1).mono ?_; rintro e w' ⟨rfl, ⟨q0, rfl⟩⟩)
 go_loopg [0, 10] N (fun g s0 s10 wr => ∃ (done : List Value) (dls : List (List Int)) (a : Addr) (zs : List Int) (ln cap q : Nat), s0 = .slice (some a) ln cap ∧ s10 = .int .i64 done.length ∧ done.length ≤ N ∧ g = N - done.length ∧ zs.length = ln ∧ ln ≤ cap ∧ ln ≤ l0.length ∧
  wr = (w.alloc (.cells (Lib.cellsOfV done (N + 1)) 22)).drewN q ∧
  Aside0 (Pcs w done dls ∧ Kd.C (Kd.int .u8) w (some a) zs.length zs ∧ u8s zs = true ∧ cnt 10 zs = ((N - done.length : Nat) : Int) ∧ dls ++ splitR zs = splitR l0))
 case atStart => exact ⟨[], [], a1, l0, l0.length, c1, q0, rfl, rfl, Nat.zero_le _, rfl, rfl, hc0, Nat.le_refl _, by rw [Lib.cellsOfV_nil], ⟨trivial, HS.out.1, HS.out.2.1, by rw [HS.out.2.2.2.2.2.2.1]; rfl, rfl⟩⟩
 case round =>
  obtain ⟨done, dls, a, zs, ln, cap, q, rfl, rfl, hd, rfl, rfl, hcp, hln, rfl, A⟩ := hrel
  have hnext : (Lib.cellsOfV done (N + 1))[done.length]? = some (.slice none 0 0) := Lib.cellsOfV_next (by omega)
  have fin : splitR zs = [zs] → done.length = N ∧ (Lib.cellsOfV done (N + 1)).setIfInBounds done.length (.slice (some a) zs.length cap) = (done ++ [Value.slice (some a) zs.length cap]).toArray ∧ Pcs w (done ++ [.slice (some a) zs.length cap]) (splitR l0) := fun h => by
   have e := A.out.2.2.2.2
   rw [h] at e
   have e2 := Pcs_len A.out.1
   have e3 := HS.out.2.2.2.2.2.2.2
   rw [← e, List.length_append] at e3
   have e4 : done.length = N := by simp at e3; omega
   refine ⟨e4, ?_, ?_⟩
   ·rw [Lib.cellsOfV_set (by omega), ← e4, show done.length + 1 = (done ++ [Value.slice (some a) zs.length cap]).length by simp, Lib.cellsOfV_full]
   ·rw [← e]
    exact Pcs_snoc A.out.1 (piece_whole hcp A.out.2.1)
  have hcon : Calls Tryd.prog 56 #[.slice (some a) zs.length cap, .slice (some B0) 1 d0] ((w.alloc (.cells (Lib.cellsOfV done (N + 1)) 22)).drewN q) fun e w' => e = .returned (.int .i64 (idx 10 zs)) ∧ Drawn0 ((w.alloc (.cells (Lib.cellsOfV done (N + 1)) 22)).drewN q) w' :=
   index_calls (some a) cap zs B0 d0 _ (Kd.C_drewN (Kd.C_alloc A.out.2.1 _) _) hcp A.out.2.2.1 (by rw [World.cell?_drewN]; exact Lib.cell?_alloc_some _ HS.out.2.2.1)
  by_cases hlt : done.length < N
  ·have hltz : ((done.length : Nat) : Int) < (N : Int) := by omega
   rcases idx_cases zs with ⟨_, _, h3⟩ | ⟨i, hix, hi, hsp, hct⟩
   ·have := A.out.2.2.2.1
    omega
   ·rw [hix] at hcon
    have c0 : ¬ ((i : Int) < 0) := by omega
    have c1' : (0 : Int) ≤ ↑i := by omega
    have c2' : (↑i : Int) ≤ ↑cap := by omega
    have c3 : (0 : Int) ≤ ↑i + 1 := by omega
    have c4 : (↑i + 1 : Int) ≤ ↑zs.length := by omega
    have B := Aside0.mk (⟨Pcs_snoc A.out.1 (piece_take (i := i) (by omega) A.out.2.1), tail_C (i := i + 1) (by omega) hcp A.out.2.1, u8s_drop' A.out.2.2.1 (i + 1), by have := A.out.2.2.2.1; rw [hct] at this; simp only [List.length_append, List.length_cons, List.length_nil]; omega, by rw [← A.out.2.2.2.2, hsp]; simp⟩ :
     Pcs w (done ++ [.slice (some a) i i]) (dls ++ [zs.take i]) ∧ Kd.C (Kd.int .u8) w (some (if cap = i + 1 then a else a.add (i + 1))) (zs.drop (i + 1)).length (zs.drop (i + 1)) ∧ u8s (zs.drop (i + 1)) = true ∧ cnt 10 (zs.drop (i + 1)) = ((N - (done ++ [Value.slice (some a) i i]).length : Nat) : Int) ∧ (dls ++ [zs.take i]) ++ splitR (zs.drop (i + 1)) = splitR l0)
    clear hix hsp hct fin
    have HC := Aside0.mk hcon
    clear hcon
    by_cases hce : cap = i + 1
    ·subst hce
     go_wp2_with (go_at_call 56; refine HC.out.mono ?_; rintro e w' ⟨rfl, ⟨q', rfl⟩⟩)
     go_roundg (N - (done.length + 1))
     case measure => omega
     case rel =>
      have B2 := B.out
      rw [if_pos trivial] at B2
      exact ⟨done ++ [.slice (some a) i i], dls ++ [zs.take i], a, zs.drop (i + 1), zs.length - (i + 1), i + 1 - (i + 1), q + q', by first | rfl | (simp; done) | (simp; omega), by simp, by simp; omega, by simp, by simp, by omega, by omega, by rw [← Lib.cellsOfV_set (by omega)], ⟨B2⟩⟩
    ·go_wp2_with (go_at_call 56; refine HC.out.mono ?_; rintro e w' ⟨rfl, ⟨q', rfl⟩⟩)
     go_roundg (N - (done.length + 1))
     case measure => omega
     case rel =>
      have B2 := B.out
      rw [if_neg hce] at B2
      exact ⟨done ++ [.slice (some a) i i], dls ++ [zs.take i], a.add (i + 1), zs.drop (i + 1), zs.length - (i + 1), cap - (i + 1), q + q', by first | rfl | (simp [hce, Addr.add]; done), by simp, by simp; omega, by simp, by simp, by omega, by omega, by rw [← Lib.cellsOfV_set (by omega)], ⟨B2⟩⟩
  ·have hltz : ¬ (((done.length : Nat) : Int) < (N : Int)) := by omega
   have hsp : splitR zs = [zs] := by
    rcases idx_cases zs with ⟨_, h2, _⟩ | ⟨i, _, _, _, hct⟩
    ·exact h2
    ·have h1 := A.out.2.2.2.1
     have h2 : 0 ≤ cnt 10 (zs.drop (i + 1)) := by
      have : ∀ l : List Int, 0 ≤ cnt 10 l := by
       intro l
       induction l with
       | nil => simp [cnt]
       | cons x l ih => unfold cnt; split <;> omega
      exact this _
     omega
   have FF := Aside0.mk (fin hsp)
   clear fin hcon hsp
   go_wp2
   go_ret
   obtain ⟨f1, f2, f3⟩ := FF.out
   exact ⟨done ++ [.slice (some a) zs.length cap], by show Ending.returned (.slice (some ⟨w.heap.size, 0, none⟩) (done.length + 1) (N + 1)) = _; rw [← f1]; simp, ⟨f3⟩, q, by rw [← f2]⟩
set_option maxHeartbeats 2000000 in
set_option maxRecDepth 1000000 in
theorem gen_nil (c1 : Nat) (B0 : Addr) (d0 : Nat) (w : World) (hcB : Kd.C (Kd.int .u8) w (some B0) 1 [10]) (hd0 : 1 ≤ d0) :
  Calls Tryd.prog 68 #[.slice none 0 c1, .slice (some B0) 1 d0, .int .i64 0, .int .i64 (-1)] w fun e w' => ∃ (vs : List Value) (q : Nat), e = .returned (.slice (some ⟨w.heap.size, 0, none⟩) vs.length vs.length) ∧ Aside0 (Pcs w vs (splitR [])) ∧ w' = (w.alloc (.cells vs.toArray 22)).drewN q := by
 have hcf : bytes_Count.f [] [10] = some 0 := by rfl
 have hmk := run_make_row' (P := Tryd.prog) 78 22 (.slice none 0 0) 24 Tryd.underlying78 (by kernel_rfl) rfl .i64 .i64 1 (by omega) (by omega)
 rw [← Lib.cellsOfV_nil, show ((1 : Nat) : Int) = 1 from rfl] at hmk
 have hnext : (Lib.cellsOfV [] 1)[0]? = some (.slice none 0 0) := Lib.cellsOfV_next (by simp)
 have hset : (Lib.cellsOfV [] 1).setIfInBounds 0 (.slice none 0 c1) = #[.slice none 0 c1] := by
  rw [show (0 : Nat) = ([] : List Value).length from rfl, Lib.cellsOfV_set (by simp)]
  exact Lib.cellsOfV_full [Value.slice none 0 c1]
 have HT := Aside0.mk hset
 clear hset
 have HS := Aside0.mk hcB
 clear hcB
 have ad : ∀ (W : World) (j : Nat) (o : Obj), (W.drewN j).alloc o = (W.alloc o).drewN j := fun _ _ _ => rfl
 have sd : ∀ (W : World) (j : Nat) (x : Addr) (v : Value), (W.drewN j).setCell x v = (W.setCell x v).drewN j := fun _ _ _ _ => rfl
 go_enter Tryd.func68, Tryd.ntmps68
 go_wp2_with (go_at_call 43; refine (bytes_Count.calls none c1 [] (some B0) d0 [10] 0 _ (Kd.C_of_reads (d := (0 : Int)) (h1 := fun _ => rfl) ⟨rfl, by simp, fun h => absurd h (by simp)⟩) (Nat.zero_le _) HS.out hd0 hcf).mono ?_; rintro e w' ⟨rfl, ⟨q0, rfl⟩⟩)
 go_loopg [0, 10] 0 (fun g s0 s10 wr => s0 = .slice none 0 c1 ∧ s10 = .int .i64 0 ∧ wr = (w.alloc (.cells (Lib.cellsOfV [] 1) 22)).drewN q0)
 case atStart => exact ⟨rfl, rfl, rfl⟩
 case round =>
  obtain ⟨rfl, rfl, rfl⟩ := hrel
  go_wp2
  go_ret
  exact ⟨[.slice none 0 c1], _, rfl, ⟨⟨none, c1, rfl, Nat.zero_le _, Kd.C_of_reads (d := (0 : Int)) (h1 := fun _ => rfl) ⟨rfl, by simp, fun h => absurd h (by simp)⟩⟩, trivial⟩, by rw [HT.out]⟩
set_option maxHeartbeats 1000000 in
set_option maxRecDepth 1000000 in
/-- bytes.Split at a line end: the pieces lie in the text's own memory. -/
theorem bsplit_calls (A0 : Option Addr) (c0 : Nat) (l0 : List Int) (B0 : Addr) (d0 : Nat) (w : World) (hr0 : Kd.C (Kd.int .u8) w A0 l0.length l0) (hc0 : l0.length ≤ c0) (hu : u8s l0 = true) (hb : w.cell? B0 = some (.int .u8 10)) (hcB : Kd.C (Kd.int .u8) w (some B0) 1 [10]) (hd0 : 1 ≤ d0) (hl : l0.length < 5864062014804) :
  Calls Tryd.prog 59 #[.slice A0 l0.length c0, .slice (some B0) 1 d0] w fun e w' => ∃ (vs : List Value) (q : Nat), e = .returned (.slice (some ⟨w.heap.size, 0, none⟩) vs.length vs.length) ∧ Aside0 (Pcs w vs (splitR l0)) ∧ w' = (w.alloc (.cells vs.toArray 22)).drewN q := by
 have hg : Calls Tryd.prog 68 #[.slice A0 l0.length c0, .slice (some B0) 1 d0, .int .i64 0, .int .i64 (-1)] w fun e w' => ∃ (vs : List Value) (q : Nat), e = .returned (.slice (some ⟨w.heap.size, 0, none⟩) vs.length vs.length) ∧ Aside0 (Pcs w vs (splitR l0)) ∧ w' = (w.alloc (.cells vs.toArray 22)).drewN q := by
  cases A0 with
  | some a => exact gen_calls a c0 l0 B0 d0 w hr0 hc0 hu hb hcB hd0 hl
  | none =>
   have h0 : l0 = [] := by
    cases l0 with
    | nil => rfl
    | cons x l => obtain ⟨_, h1, _⟩ := (reads_u8 hr0).2 (by simp); cases h1
   subst h0
   exact gen_nil c0 B0 d0 w hcB hd0
 have HG := Aside0.mk hg
 clear hg hr0 hu hb hcB hc0 hd0 hl
 go_enter Tryd.func59, Tryd.ntmps59
 go_wp2_with fail
 refine HG.out.mono ?_
 rintro e w' ⟨vs, q, rfl, hp, rfl⟩
 go_wp2
 go_ret
 exact ⟨vs, q, rfl, hp, rfl⟩
theorem PieceV_below {w w' : World} {v : Value} {l : List Int} (h : PieceV w v l) (hb : Below w.heap.size w w') : PieceV w' v l := by
 obtain ⟨A, c, h1, h2, h3⟩ := h
 exact ⟨A, c, h1, h2, Kd.C_below h3 hb⟩
theorem Pcs_imp {w w' : World} (hi : ∀ v l, PieceV w v l → PieceV w' v l) : ∀ {vs : List Value} {ls : List (List Int)}, Pcs w vs ls → Pcs w' vs ls
 | [], [], _ => trivial
 | _ :: _, _ :: _, h => ⟨hi _ _ h.1, Pcs_imp hi h.2⟩
 | [], _ :: _, h => h.elim
 | _ :: _, [], h => h.elim
def lines_Split.f (l0 : List Int) : Option (List (List Int)) := if u8s l0 = true then (if l0.length < 5864062014804 then some (splitR l0) else none) else none
set_option maxHeartbeats 1000000 in
set_option maxRecDepth 1000000 in
theorem lines_Split.calls (A0 : Option Addr) (c0 : Nat) (l0 : List Int) (r : List (List Int)) (w : World) (hr0 : Kd.C (Kd.int .u8) w A0 l0.length l0) (hc0 : l0.length ≤ c0) (h : lines_Split.f l0 = some r) :
  Calls Tryd.prog 48 #[.slice A0 l0.length c0] w fun e w' => ∃ v0_ : Value, e = .returned (v0_) ∧ Kd.S (Kd.slice 5 (Kd.int .u8)) 22 w' w.heap.size (fun _ => True) v0_ r ∧ Below w.heap.size w w' := by
 unfold lines_Split.f at h
 by_cases hu : u8s l0 = true
 case neg => rw [if_neg hu] at h; cases h
 rw [if_pos hu] at h
 by_cases hl : l0.length < 5864062014804
 case neg => rw [if_neg hl] at h; cases h
 rw [if_pos hl] at h
 obtain rfl := Option.some.inj h
 clear h
 have hsl : ((splitR l0).length : Int) ≤ (l0.length : Int) + 1 := by
  have h1 := splitR_len l0
  have h2 : ∀ l : List Int, cnt 10 l ≤ (l.length : Int) := by
   intro l
   induction l with
   | nil => simp [cnt]
   | cons x l ih => unfold cnt; simp only [List.length_cons]; split <;> omega
  have h3 := h2 l0
  omega
 have HS := Aside0.mk (⟨hr0, hc0, hu, hl, hsl⟩ : Kd.C (Kd.int .u8) w A0 l0.length l0 ∧ l0.length ≤ c0 ∧ u8s l0 = true ∧ l0.length < 5864062014804 ∧ ((splitR l0).length : Int) ≤ (l0.length : Int) + 1)
 clear hr0 hc0 hu hl hsl
 have hb0 : (w.alloc (.cells #[.int .u8 10] 5)).cell? ⟨w.heap.size, 0, none⟩ = some (.int .u8 10) := by
  unfold World.cell?
  have e : (w.alloc (.cells #[.int .u8 10] 5)).heap[w.heap.size]? = some (.cells #[.int .u8 10] 5) := by
   show (w.heap.push _)[w.heap.size]? = _
   simp
  simp only [e]
  rfl
 have hC10 : Kd.C (Kd.int .u8) (w.alloc (.cells #[.int .u8 10] 5)) (some ⟨w.heap.size, 0, none⟩) 1 [10] := by
  refine Kd.C_of_reads (d := (0 : Int)) (h1 := fun _ => rfl) ⟨rfl, by simp, fun _ => ⟨_, rfl, fun j hj => ?_⟩⟩
  obtain rfl : j = 0 := by omega
  exact hb0
 have HX := Aside0.mk (⟨hb0, hC10⟩ : (w.alloc (.cells #[.int .u8 10] 5)).cell? ⟨w.heap.size, 0, none⟩ = some (.int .u8 10) ∧ Kd.C (Kd.int .u8) (w.alloc (.cells #[.int .u8 10] 5)) (some ⟨w.heap.size, 0, none⟩) 1 [10])
 clear hb0 hC10
 go_enter Tryd.func48, Tryd.ntmps48
 go_wp2_with fail
 refine (bsplit_calls A0 c0 l0 ⟨w.heap.size, 0, none⟩ 1 _ (Kd.C_alloc HS.out.1 _) HS.out.2.1 HS.out.2.2.1 HX.out.1 HX.out.2 (Nat.le_refl _) HS.out.2.2.2.1).mono ?_
 rintro e w' ⟨vs, q, rfl, hp, rfl⟩
 have hbel : Below w.heap.size w (((w.alloc (.cells #[.int .u8 10] 5)).alloc (.cells vs.toArray 22)).drewN q) := pw_below_drewN (below_alloc (below_alloc (Below.refl _ _) _) _) q
 have hpl := Pcs_len hp.out
 have hp2 : Pcs (((w.alloc (.cells #[.int .u8 10] 5)).alloc (.cells vs.toArray 22)).drewN q) vs (splitR l0) := Pcs_imp (fun _ _ h => PieceV_below h (pw_below_drewN (below_alloc (Below.refl _ _) _) q)) hp.out
 have hblk : (((w.alloc (.cells #[.int .u8 10] 5)).alloc (.cells vs.toArray 22)).drewN q).heap[(w.alloc (.cells #[.int .u8 10] 5)).heap.size]? = some (.cells vs.toArray 22) := by
  exact Array.getElem?_push_size
 have hgl : (w.alloc (.cells #[.int .u8 10] 5)).heap.size < (((w.alloc (.cells #[.int .u8 10] 5)).alloc (.cells vs.toArray 22)).drewN q).heap.size := by
  show _ < ((w.alloc (.cells #[.int .u8 10] 5)).heap.push _).size
  simp
 have hvl : ((vs.length : Nat) : Int) ≤ (l0.length : Int) + 1 := by rw [hpl]; exact HS.out.2.2.2.2
 generalize (w.alloc (.cells #[.int .u8 10] 5)).heap.size = g at hblk hgl ⊢
 generalize (((w.alloc (.cells #[.int .u8 10] 5)).alloc (.cells vs.toArray 22)).drewN q) = W1 at hblk hgl hbel hp2 ⊢
 clear hp HX
 have HP := Aside0.mk (⟨hp2, hbel, hpl, hblk, hgl, hvl⟩ : Pcs W1 vs (splitR l0) ∧ Below w.heap.size w W1 ∧ vs.length = (splitR l0).length ∧ W1.heap[g]? = some (.cells vs.toArray 22) ∧ g < W1.heap.size ∧ ((vs.length : Nat) : Int) ≤ (l0.length : Int) + 1)
 clear hp2 hbel hpl hblk hgl hvl
 go_wp2
 go_loopg [3, 10] vs.length (fun gk v3 v10 wr => ∃ k : Nat, v10 = .int .i64 k ∧ k ≤ vs.length ∧ gk = vs.length - k ∧ Aside0 (Kd.S (Kd.slice 5 (Kd.int .u8)) 22 wr W1.heap.size (fun _ => True) v3 ((splitR l0).take k)) ∧ Aside0 (Below W1.heap.size W1 wr))
 case atStart => exact ⟨0, rfl, Nat.zero_le _, rfl, ⟨Kd.S_nil _ _ _ _ _⟩, ⟨Below.refl _ _⟩⟩
 case round =>
  obtain ⟨k, rfl, hk, rfl, HO, HB⟩ := hrel
  by_cases hlt : k < vs.length
  ·obtain ⟨p, hp⟩ : ∃ p, (splitR l0)[k]? = some p := ⟨_, List.getElem?_eq_getElem (by rw [← HP.out.2.2.1]; exact hlt)⟩
   obtain ⟨v, hv, A, c, rfl, hpc, hpC⟩ := Pcs_at HP.out.1 hp
   have hpl : p.length < 140737488355328 := by
    have h1 := splitR_parts l0 p (List.mem_of_getElem? hp)
    have h2 := HS.out.2.2.2.1
    omega
   have hF : bytes_Clone.f p = some p := by unfold bytes_Clone.f; rw [if_pos hpl]
   have htk : (splitR l0).take (k + 1) = (splitR l0).take k ++ [p] := by rw [List.take_add_one, hp]; rfl
   have hl24 : ((splitR l0).take k).length < 5864062014805 := by
    have h1 := HP.out.2.2.2.2.2
    have h2 := HS.out.2.2.2.1
    rw [List.length_take]
    omega
   have HC := Aside0.mk (⟨hpc, hpC, hF, htk, hl24⟩ : p.length ≤ c ∧ Kd.C (Kd.int .u8) W1 A p.length p ∧ bytes_Clone.f p = some p ∧ (splitR l0).take (k + 1) = (splitR l0).take k ++ [p] ∧ ((splitR l0).take k).length < 5864062014805)
   have hkz : ((k : Nat) : Int) < ((vs.length : Nat) : Int) := by omega
   have hcell : wr.cell? ⟨g, k, none⟩ = some (.slice A p.length c) := by
    unfold World.cell?
    have e : wr.heap[g]? = some (.cells vs.toArray 22) := (HB.out.block g HP.out.2.2.2.2.1).trans HP.out.2.2.2.1
    simp only [e]
    rw [List.getElem?_toArray]
    exact hv
   clear hpc hpC hF htk hl24 hp hv hpl
   go_wp2_with (first | (go_at_call 60; refine (bytes_Clone.calls A c p p _ (Kd.C_below HC.out.2.1 HB.out) HC.out.1 HC.out.2.2.1).mono ?_; rintro e w46 ⟨v154, rfl, ho0, hb⟩; have n0_ := Aside0.mk (Kd.R_lower ho0 (below_size HB.out)); have n1_ := Aside0.mk (Kd.S_elder' HO.out (Kd.R_base ho0) hb); have n3_ := Aside0.mk (below_step HB.out hb); clear HO; clear HB; have HO155 := n0_; have HO := n1_; have HB := n3_; clear n0_ n1_ n3_; clear ho0 hb; obtain ⟨Ao14, co14, eo14⟩ := Kd.R_slice HO155.out; subst eo14) | ((with_reducible refine gate_builtin (b := .append) (xs := #[.tmp 14, .tmp 17]) rfl ?_); at_builtin; refine Kd.S_append (Kd.slice 5 (Kd.int .u8)) (w0 := W1) W1.heap.size rfl (.tmp 14) (.tmp 17) 78 22 (.slice none 0 0) 24 rfl Tryd.underlying78 (by kernel_rfl) rfl (by decide) (by omega) u3 ((splitR l0).take k) p [.slice Ao14 p.length co14] (fun _ => True) (fun k_ => some k_ = (.slice Ao14 p.length co14 : Value).ownBlock) rfl rfl ?aP (fun k_ hk_ => ((Kd.R_mono (ok' := fun k_ => ((fun _ => True)) k_ ∧ some k_ ≠ (u3 : Value).ownBlock) (Kd.R_apart' (HO155.out) (Kd.S_typed HO.out) (by decide)) (fun k_ hk => ⟨trivial, hk.2⟩))).1 k_ hk_.symm) ?aF ?aO ?aB ?aS ?aL ?_; (case aP => exact Kd.M_row (Kd.R_mono (Kd.R_tight rfl (Kd.R_mono (ok' := fun k_ => ((fun _ => True)) k_ ∧ some k_ ≠ (u3 : Value).ownBlock) (Kd.R_apart' (HO155.out) (Kd.S_typed HO.out) (by decide)) (fun k_ hk => ⟨trivial, hk.2⟩))) (fun _ h_ => h_))); (case aB => exact (by repeat (first | (with_reducible first | exact HB.out | apply below_alloc | apply pw_below_drewN | apply below_drew1) | exact HB.out))); (case aF => exact (fun _ _ => trivial)); (case aO => exact (by (with_reducible repeat (first | apply Kd.S_alloc | apply Kd.S_drewN | apply Kd.S_drew)); exact Kd.S_mono HO.out (fun k_ hk => ⟨trivial, fun e_ => hk.2 e_⟩))); (case aS => exact (below_size (by repeat (first | (with_reducible first | exact HB.out | apply below_alloc | apply pw_below_drewN | apply below_drew1) | exact HB.out)))); (case aL => have := HC.out.2.2.2.2; omega); intro v169 w13 ho hb hg hat; rw [← HC.out.2.2.2.1] at ho; have n0_ := Aside0.mk (hb); have n1_ := Aside0.mk (ho); clear HB; clear HO; clear HO155; have HB := n0_; have HO := n1_; clear n0_ n1_; clear ho hb hg hat))
   go_roundg (vs.length - (k + 1))
   case measure => omega
   case rel => exact ⟨k + 1, by have h1 := HP.out.2.2.2.2.2; have h2 := HS.out.2.2.2.1; simp only [Value.int.injEq, true_and]; unfold wrap64; omega, by omega, rfl, ⟨by (with_reducible repeat (first | apply Kd.S_alloc | apply Kd.S_drewN | apply Kd.S_drew)); exact HO.out⟩, ⟨by repeat (first | (with_reducible first | exact HB.out | apply below_alloc | apply pw_below_drewN | apply below_drew1) | exact HB.out)⟩⟩
  ·have hkn : ¬ ((k : Nat) : Int) < ((vs.length : Nat) : Int) := by omega
   go_wp2
   go_ret
   refine ⟨_, rfl, ?_, below_step HP.out.2.1 HB.out⟩
   have h1 := HO.out
   rw [List.take_of_length_le (by rw [← HP.out.2.2.1]; omega)] at h1
   exact Kd.S_lower h1 HP.out.2.1.size

end Go.Proofs.YtcochbkdgjgaeaaDoor.X
