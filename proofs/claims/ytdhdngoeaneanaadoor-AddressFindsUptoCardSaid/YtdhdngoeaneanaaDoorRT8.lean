/-
  The reference of patterns, by hand: word, passes, least.
-/
import Derived.Test.YtdhdngoeaneanaaDoorRT7
import Derived.Test.YtdhdngoeaneanaaDoorRT4
import Derived.Test.YtdhdngoeaneanaaDoorX67
import Derived.Test.YtdhdngoeaneanaaDoorX71
namespace Go.Proofs.YtdhdngoeaneanaaDoor.PT
open Go.RowKit Go.Proofs.YtdhdngoeaneanaaDoorW.PrintWords Go.Proofs.YtdhdngoeaneanaaDoorW.PrintMore
set_option linter.unusedVariables false
set_option maxRecDepth 100000
theorem ref_all (b : Int) (h : 0 ≤ b ∧ b ≤ 255) : ∃ r, X.quoinref06_Of.f 1 b false = some r ∧ (r == 2) = (X.class_Of.f 1 b false == some 2) := by
  obtain ⟨k, rfl⟩ := Int.eq_ofNat_of_zero_le h.1
  have h3 : ∀ k : Fin 256, (X.quoinref06_Of.f 1 (k.val : Int) false).isSome = true ∧ ((X.quoinref06_Of.f 1 (k.val : Int) false == some 2) = (X.class_Of.f 1 (k.val : Int) false == some 2)) := by decide +kernel
  obtain ⟨h4, h5⟩ := h3 ⟨k, by omega⟩
  obtain ⟨r, hr⟩ := Option.isSome_iff_exists.1 h4
  refine ⟨r, hr, ?_⟩
  simp only at hr h5
  rw [hr] at h5
  rw [← h5]
  rfl
theorem rword_plain {w : World} {A : Option Addr} {c : Nat} {line : List Int} (hr : Kd.C (Kd.int .u8) w A line.length line) (hc : line.length ≤ c) (hu : ∀ i, 0 ≤ rd line i ∧ rd line i ≤ 255) (i : Int) :
    Calls Tryd.prog 107 #[.slice A line.length c, .int .i64 i] w fun e w' => e = .returned (.bool (isW line i)) ∧ Drawn0 w w' := by
  refine X.quoinref11_word.calls 1 A c line i _ w hr hc ?_
  unfold X.quoinref11_word.f isW
  obtain ⟨r, hr, hr2⟩ := ref_all (rd line i) (hu i)
  by_cases h0 : i ≥ 0
  · rw [if_pos h0, decide_eq_true (show 0 ≤ i from h0)]
    by_cases h1 : i < (line.length : Int)
    · rw [if_pos h1, if_pos (show 0 ≤ i from h0), decide_eq_true h1, hr]
      simp only [Option.bind_some, Bool.true_and]
      rw [hr2]
    · rw [if_neg h1, decide_eq_false h1]; rfl
  · rw [if_neg h0, decide_eq_false (show ¬ 0 ≤ i from h0)]; rfl
theorem least_calls (a b : Int) (w : World) : Calls Tryd.prog 100 #[.int .i64 a, .int .i64 b] w fun e w' => e = .returned (.int .i64 (leastV a b)) ∧ Drawn0 w w' := by
  refine X.quoinref11_least.calls a b _ w ?_
  unfold X.quoinref11_least.f leastV
  split
  · rfl
  · split
    · split <;> rfl
    · rfl
set_option maxHeartbeats 2000000 in
set_option maxRecDepth 100000 in
theorem rpasses_calls {w : World} {A : Option Addr} {c : Nat} {line : List Int} (hr : Kd.C (Kd.int .u8) w A line.length line) (hc : line.length ≤ c) (hu : ∀ i, 0 ≤ rd line i ∧ rd line i ≤ 255) (x : RT) (hx : 0 ≤ x.1 ∧ x.1 ≤ 5) (p : Int) (hp : 0 ≤ p ∧ p ≤ 1048576) :
    Calls Tryd.prog 101 #[.agg (tcells x), .slice A line.length c, .int .i64 p] w fun e w' => e = .returned (.bool (passB line (RTd x) p)) ∧ Below w.heap.size w w' := by
  obtain ⟨k, S⟩ := x
  simp only at hx
  have HW : ∀ (W : World) (q : Int), Below w.heap.size w W → Aside0 _ := fun W q h => Aside0.mk (rword_plain (c := c) (Kd.C_below hr h) hc hu q)
  clear hr hu
  have hb := below_alloc (Below.refl w.heap.size w) (.cells (tcells (k, S)) 111)
  have hb0 := blk_new w (.cells (tcells (k, S)) 111)
  have HB := Aside0.mk hb
  have ck : (w.alloc (.cells (tcells (k, S)) 111)).cell? ⟨w.heap.size, 0, none⟩ = some (.int .i64 k) := (blk_cell hb0 0).trans rfl
  clear hb hb0
  by_cases e1 : k = 1
  · subst e1
    go_enter Tryd.func101, Tryd.ntmps101
    go_wp2_with fail
    exact bodyPost_ret (v := .bool true) (by simp [results, Tryd.results101, go_sem]) rfl ⟨rfl, HB.out⟩
  by_cases e2 : k = 2
  · subst e2
    have HP := Aside0.mk (show passB line (RTd (2, S)) p = (p == 0) from rfl)
    go_enter Tryd.func101, Tryd.ntmps101
    go_wp2_with fail
    exact bodyPost_ret (v := .bool (p == 0)) (by simp [results, Tryd.results101, go_sem]) rfl ⟨by rw [HP.out], HB.out⟩
  by_cases e3 : k = 3
  · subst e3
    have HP := Aside0.mk (show passB line (RTd (3, S)) p = (p == (line.length : Int)) from rfl)
    go_enter Tryd.func101, Tryd.ntmps101
    go_wp2_with fail
    exact bodyPost_ret (v := .bool (p == (line.length : Int))) (by simp [results, Tryd.results101, go_sem]) rfl ⟨by rw [HP.out], HB.out⟩
  by_cases e4 : k = 4
  · subst e4
    have HP := Aside0.mk (show passB line (RTd (4, S)) p = (isW line p && !isW line (p - 1)) from rfl)
    have HW1 := fun W h => HW W p h
    have HW2 := fun W h => HW W (p - 1) h
    clear HW
    cases h1 : isW line p
    case false =>
      rw [h1] at HP
      simp only [h1] at HW1
      clear h1
      go_enter Tryd.func101, Tryd.ntmps101
      go_wp2_with (go_at_call 107; first | ((with_reducible refine (HW1 _ HB.out).out.mono ?_); rintro e w' ⟨rfl, ⟨nd, rfl⟩⟩; have HB2 := Aside0.mk (pw_below_drewN HB.out nd)))
      exact bodyPost_ret (v := .bool false) (by simp [results, Tryd.results101, go_sem]) rfl ⟨by rw [HP.out]; simp, HB2.out⟩
    case true =>
      rw [h1] at HP
      simp only [h1] at HW1
      clear h1
      cases h2 : isW line (p - 1)
      all_goals
        rw [h2] at HP
        simp only [h2] at HW2
        clear h2
        go_enter Tryd.func101, Tryd.ntmps101
        go_wp2_with (go_at_call 107; first | ((with_reducible refine (HW1 _ HB.out).out.mono ?_); rintro e w' ⟨rfl, ⟨nd, rfl⟩⟩; have HB2 := Aside0.mk (pw_below_drewN HB.out nd)) | ((with_reducible refine (HW2 _ HB2.out).out.mono ?_); rintro e w' ⟨rfl, ⟨nd2, rfl⟩⟩))
        first
          | exact bodyPost_ret (v := .bool true) (by simp [results, Tryd.results101, go_sem]) rfl ⟨by rw [HP.out]; rfl, pw_below_drewN HB.out _⟩
          | exact bodyPost_ret (v := .bool false) (by simp [results, Tryd.results101, go_sem]) rfl ⟨by rw [HP.out]; rfl, pw_below_drewN HB.out _⟩
  by_cases e5 : k = 5
  · subst e5
    have HP := Aside0.mk (show passB line (RTd (5, S)) p = (isW line (p - 1) && !isW line p) from rfl)
    have HW1 := fun W h => HW W p h
    have HW2 := fun W h => HW W (p - 1) h
    clear HW
    cases h1 : isW line p
    case false =>
      rw [h1] at HP
      simp only [h1] at HW1
      clear h1
      cases h2 : isW line (p - 1)
      all_goals
        rw [h2] at HP
        simp only [h2] at HW2
        clear h2
        go_enter Tryd.func101, Tryd.ntmps101
        go_wp2_with (go_at_call 107; first | ((with_reducible refine (HW1 _ HB.out).out.mono ?_); rintro e w' ⟨rfl, ⟨nd, rfl⟩⟩; have HB2 := Aside0.mk (pw_below_drewN HB.out nd)) | ((with_reducible refine (HW2 _ HB2.out).out.mono ?_); rintro e w' ⟨rfl, ⟨nd2, rfl⟩⟩))
        first
          | exact bodyPost_ret (v := .bool true) (by simp [results, Tryd.results101, go_sem]) rfl ⟨by rw [HP.out]; rfl, pw_below_drewN HB.out _⟩
          | exact bodyPost_ret (v := .bool false) (by simp [results, Tryd.results101, go_sem]) rfl ⟨by rw [HP.out]; rfl, pw_below_drewN HB.out _⟩
    case true =>
      rw [h1] at HP
      simp only [h1] at HW1
      clear h1
      go_enter Tryd.func101, Tryd.ntmps101
      go_wp2_with (go_at_call 107; first | ((with_reducible refine (HW1 _ HB.out).out.mono ?_); rintro e w' ⟨rfl, ⟨nd, rfl⟩⟩; have HB2 := Aside0.mk (pw_below_drewN HB.out nd)))
      exact bodyPost_ret (v := .bool false) (by simp [results, Tryd.results101, go_sem]) rfl ⟨by rw [HP.out]; simp, HB2.out⟩
  obtain rfl : k = 0 := by omega
  have HP := Aside0.mk (show passB line (RTd (0, S)) p = false from rfl)
  go_enter Tryd.func101, Tryd.ntmps101
  go_wp2_with fail
  exact bodyPost_ret (v := .bool false) (by simp [results, Tryd.results101, go_sem]) rfl ⟨by rw [HP.out], HB.out⟩
/-- A thing out of its row. -/
theorem ld_thing {w : World} {ad : Addr} {n : Nat} {l : List RT} (h : kR.C w (some ad) n l) {i : Nat} (hi : i < n) (z : RT) : (Instr.loadAt 111 (.pointer (some (ad.add (i * 257))))).run Tryd.prog w = .ok (.agg (tcells (l.getD i z))) w := by
  obtain ⟨ad', cs, e, hc, hk, hcc⟩ := Kd.C_get h z (i : Int) (by omega) (by omega)
  injection e with e
  subst e
  rw [Int.toNat_natCast] at hk hcc
  have hk2 : cs = tcl (l.getD i z) := hk
  subst hk2
  have hl : (loadCells (ad.add (i * 257)) 257).run Tryd.prog w = .ok (tcells (l.getD i z)) w := by
    have h1 := run_loadCells_list (P := Tryd.prog) w (ad.add (i * 257)) (tcl (l.getD i z)) (fun j v hv => by
      rw [add_add]
      exact hcc j v hv)
    rwa [tcl_len] at h1
  have hagg : (isAgg 111).run Tryd.prog w = .ok true w := by kernel_rfl
  have hsz : (sizeOf 111).run Tryd.prog w = .ok 257 w := by kernel_rfl
  simp only [Instr.loadAt, Instr.sureAddr, Sem.run_bind, Sem.run_pure, Result.andThen_ok, loadVar, hagg, if_true, hsz]
  rw [hl]
  rfl
theorem th_cells {w : World} {ad : Addr} {n : Nat} {l : List RT} (h : kR.C w (some ad) n l) {i : Nat} (hi : i < n) (z : RT) : w.cell? (ad.add (i * 257)) = some (.int .i64 (l.getD i z).1) ∧ ∀ b : Nat, b < 256 → w.cell? (ad.add (i * 257 + 1 + b)) = some (.bool ((l.getD i z).2 b)) := by
  obtain ⟨ad', cs, e, hc, hk, hcc⟩ := Kd.C_get h z (i : Int) (by omega) (by omega)
  injection e with e
  subst e
  rw [Int.toNat_natCast] at hk hcc
  have hk2 : cs = tcl (l.getD i z) := hk
  subst hk2
  have hcc2 : ∀ j u, (tcl (l.getD i z))[j]? = some u → w.cell? (ad.add (i * 257 + j)) = some u := hcc
  have h0 := hcc2 0 (.int .i64 (l.getD i z).1) (by rw [tcl]; exact List.getElem?_cons_zero)
  rw [Nat.add_zero] at h0
  refine ⟨h0, fun b hb => ?_⟩
  rw [Nat.add_assoc, Nat.add_comm 1 b]
  refine hcc2 (b + 1) _ ?_
  rw [tcl, List.getElem?_cons_succ, Array.getElem?_toList]
  exact bset_get hb
end Go.Proofs.YtdhdngoeaneanaaDoor.PT
