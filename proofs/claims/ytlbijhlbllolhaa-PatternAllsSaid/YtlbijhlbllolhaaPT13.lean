/-
  Patterns, by hand: All.
-/
import Derived.Test.YtlbijhlbllolhaaPT12
namespace Go.Proofs.Ytlbijhlbllolhaa.PT
open Go.RowKit Go.Proofs.YtlbijhlbllolhaaW.PrintWords Go.Proofs.YtlbijhlbllolhaaW.PrintMore
set_option linter.unusedVariables false
/-- A pair of whole numbers: two cells. -/
def kP : Kd (Int × Int) := Kd.pair (Kd.int .i64) (Kd.int .i64)
/-- The matches from a place on. -/
def allE (E : List Int) : Nat → Int → List (Int × Int)
  | 0, _ => []
  | d + 1, from_ => if (firstV E (E.length + 2) from_).2 = true then ((firstV E (E.length + 2) from_).1, rd E (firstV E (E.length + 2) from_).1) :: allE E d (max (rd E (firstV E (E.length + 2) from_).1) ((firstV E (E.length + 2) from_).1 + 1)) else []
/-- What All comes to. -/
def allV (line : List Int) (l : List PTh) : List (Int × Int) := allE (endsV line l) (line.length + 2) 0
theorem kP_M (w : World) (base : Nat) (ok : Nat → Prop) (a b : Int) : kP.M w base ok (a, b) [.int .i64 a, .int .i64 b] := ⟨[_], [_], rfl, rfl, rfl⟩
theorem infoP : (Try.prog.info? 41).map (fun i => (i.zero, i.size, i.bytes)) = some (some (.agg #[.int .i64 0, .int .i64 0]), 2, 16) := by kernel_rfl
theorem allE_step (E : List Int) (d : Nat) (k : Int) : allE E (d + 1) k = if (firstV E (E.length + 2) k).2 = true then ((firstV E (E.length + 2) k).1, rd E (firstV E (E.length + 2) k).1) :: allE E d (max (rd E (firstV E (E.length + 2) k).1) ((firstV E (E.length + 2) k).1 + 1)) else [] := rfl
set_option maxHeartbeats 2000000 in
set_option maxRecDepth 100000 in
theorem all_calls {w : World} {A : Option Addr} {c : Nat} {line : List Int} {v : Value} {base : Nat} {pl : List PTh} (hr : Kd.C (Kd.int .u8) w A line.length line) (hu : ∀ i, 0 ≤ rd line i ∧ rd line i ≤ 255)
    (hn : line.length ≤ 1048576) (hc : line.length ≤ c) (hp : PatO w base v (some pl)) :
    Calls Try.prog 13 #[v, .slice A line.length c] w fun e w' => ∃ v, e = .returned v ∧ Below w.heap.size w w' ∧ kP.R 41 w' w.heap.size (fun _ => True) v (allV line pl) := by
  obtain ⟨b, A1, c1, l, rfl, hb, BK, HO, HS, hl, rfl⟩ := hp
  have HK : kTh.C w A1 l.length l := (Kd.R_reads' HO).2.2
  have HE := Aside0.mk (ends_calls hr hu (by omega) BK HK HS hl hc)
  have hl2 := endsV_len line (l.map den)
  have hF := Aside0.mk (endsV_fine line (l.map den))
  clear HO HS HK BK hb hr hu
  have HV := Aside0.mk (show allV line (l.map den) = allE (endsV line (l.map den)) (line.length + 2) 0 from rfl)
  generalize allV line (l.map den) = out at HV
  generalize endsV line (l.map den) = E at HE hl2 hF HV
  have HF : Aside0 (∀ (w' : World) (q : Int), 0 ≤ q → w'.heap[w.heap.size + 1]? = some (.cells (iv E) 3 (0, 0)) → Calls Try.prog 19 #[.slice (some ⟨w.heap.size + 1, 0, none⟩) (line.length + 1) (line.length + 1), .int .i64 q] w' fun e w'' => e = .returned (.tuple #[.int .i64 (firstV E (E.length + 2) q).1, .bool (firstV E (E.length + 2) q).2]) ∧ Drawn0 w' w'') := ⟨fun w' q h0 h => by
    have h2 := first_plain h (by omega) q h0
    rw [hl2] at h2 ⊢
    exact h2⟩
  have HL := Aside0.mk hl2
  clear hl2
  go_enter Try.func13, Try.ntmps13
  go_wp2_with (go_at_call 18; refine HE.out.mono ?_; rintro e w' ⟨rfl, hx⟩; have HX := Aside0.mk hx; clear hx)
  clear HE
  go_loopw [6, 7] (fun v6 v7 wl => ∃ (k d : Nat) (acc : List (Int × Int)), k ≤ line.length + 1 ∧ line.length + 1 < k + d ∧ v7 = .int .i64 k ∧ acc.length ≤ k ∧ Aside0 (Below w.heap.size w wl ∧ wl.heap[w.heap.size + 1]? = some (.cells (iv E) 3 (0, 0)) ∧ kP.R 41 wl w.heap.size (fun _ => True) v6 acc ∧ acc ++ allE E d k = out)) (fun _ v7 _ => line.length + 1 - (intOf v7).toNat)
  case atStart => exact ⟨0, line.length + 2, [], by omega, by omega, rfl, by simp, ⟨HX.out.1, HX.out.2, Kd.R_nil _ _ _ _ _, HV.out.symm⟩⟩
  case round =>
    obtain ⟨k, d, acc, hk, hd, rfl, hal, HA⟩ := hrel
    clear HX HV
    obtain ⟨d, rfl⟩ : ∃ d', d = d' + 1 := ⟨d - 1, by omega⟩
    have HQ := Aside0.mk (HF.out wr k (by omega) HA.out.2.1)
    have HC := Aside0.mk (allE_step E d k)
    have hsp := first_spec E (E.length + 2) k (by omega) (by omega)
    generalize firstV E (E.length + 2) (k : Int) = r at HQ HC hsp
    obtain ⟨r1, r2⟩ := r
    simp only at hsp HQ HC
    cases r2 with
    | false =>
      have HZ := Aside0.mk (show acc = out from by have h := HA.out.2.2.2; rw [HC.out] at h; simpa using h)
      clear HC hsp
      go_wp2_with (go_at_call 19; refine HQ.out.mono ?_; rintro e w'' ⟨rfl, ⟨nd, rfl⟩⟩)
      exact bodyPost_ret (v := u6) (by simp [results, Try.results13, go_sem]) rfl ⟨u6, rfl, pw_below_drewN HA.out.1 nd, by rw [← HZ.out]; exact Kd.R_drewN HA.out.2.2.1 nd⟩
    | true =>
      obtain ⟨h1, h2, h3, _⟩ := hsp.1 rfl
      clear hsp
      obtain ⟨j, rfl⟩ : ∃ j : Nat, r1 = (j : Int) := ⟨r1.toNat, by omega⟩
      have hEl := HL.out
      have hfj := hF.out.2 j (by omega)
      have hj : j < line.length + 1 := by omega
      have ce : wr.cell? ⟨w.heap.size + 1, j, none⟩ = some (.int .i64 (rd E (j : Int))) := (blk_cell HA.out.2.1 j).trans (iv_get (by omega))
      have HC' := Aside0.mk (show acc ++ [((j : Int), rd E (j : Int))] ++ allE E d (max (rd E (j : Int)) ((j : Int) + 1)) = out from by have h := HA.out.2.2.2; rw [HC.out] at h; simpa using h)
      clear HC hEl
      obtain ⟨m, hm⟩ : ∃ m : Nat, rd E (j : Int) = (m : Int) := ⟨(rd E (j : Int)).toNat, by omega⟩
      have hm1 : (j : Int) ≤ m := by omega
      have hm2 : m ≤ line.length := by omega
      have hkj : k ≤ j := by omega
      rw [hm] at ce HC'
      have HM := Aside0.mk hm
      clear hfj h1 h2 h3 hm
      obtain ⟨A6, c6, e6⟩ := Kd.R_slice HA.out.2.2.1
      subst e6
      have q1 : (0 ≤ (j : Int)) = True := eq_true (by omega)
      have q2 : ((j : Int) < (line.length : Int) + 1) = True := eq_true (by omega)
      go_wp2_with (first
        | (go_at_call 19; refine HQ.out.mono ?_; rintro e w'' ⟨rfl, ⟨nd, rfl⟩⟩)
        | (at_builtin; refine Kd.R_append kP (w0 := w) w.heap.size rfl (.tmp 24) (.tmp 31) 37 41 (.agg #[.int .i64 0, .int .i64 0]) 16 rfl Try.underlying37 infoP rfl (by decide) (by omega) (.slice A6 acc.length c6) acc ((j : Int), (m : Int)) [.int .i64 j, .int .i64 m] (fun _ => True) (fun _ => False) rfl rfl (kP_M _ _ _ _ _) (fun _ hk => hk.elim) (fun _ _ => trivial) (Kd.R_drewN HA.out.2.2.1 nd) (pw_below_drewN HA.out.1 nd) HA.out.1.size (by omega) ?_; intro v1 w1 hR hB hG hat; have BE := blk_grown (blk_drewN HA.out.2.1 nd) hG (Kd.R_ne (Kd.R_drewN HA.out.2.2.1 nd) (blk_drewN HA.out.2.1 nd) (by decide)); have cf := (blk_cell BE j).trans (iv_get (show j < E.length by have := HL.out; omega)); rw [HM.out] at cf; have HG := Aside0.mk (And.intro hB (And.intro BE hR)); clear hR hB hG hat BE))
      go_roundw
      case rel => exact ⟨max m (j + 1), d, _, by omega, by omega, by congr 1; omega, by simp only [List.length_append, List.length_singleton]; omega, ⟨HG.out.1, HG.out.2.1, HG.out.2.2, by rw [show ((max m (j + 1) : Nat) : Int) = max (m : Int) ((j : Int) + 1) from by omega]; exact HC'.out⟩⟩
      case measure => simp [intOf]; omega
end Go.Proofs.Ytlbijhlbllolhaa.PT
