/-
  PatternQuotes: the walk.
-/
import Derived.Test.YtlbijhlbllolhaaDoorPT12
import Derived.Test.YtlbijhlbllolhaaDoorQV
import Derived.Test.YtlbijhlbllolhaaDoorXS
namespace Go.Proofs.YtlbijhlbllolhaaDoor.WalkPatternQuotes
open Go.RowKit Go.Proofs.YtlbijhlbllolhaaDoorW.PrintWords Go.Proofs.YtlbijhlbllolhaaDoorW.PrintMore Go.Proofs.YtlbijhlbllolhaaDoor.X Go.Proofs.YtlbijhlbllolhaaDoor.XO Go.Proofs.YtlbijhlbllolhaaDoor.PT
set_option linter.unusedVariables false
theorem sum_len (l : List Int) : l.length ≤ (l.map szOne).sum := by
  induction l with
  | nil => simp
  | cons x l ih => have : szOne x = 1 := rfl; simp only [List.map_cons, List.sum_cons, List.length_cons]; omega
theorem u8_rd (l : List Int) (h : ∀ x ∈ l, 0 ≤ x ∧ x ≤ 255) : ∀ i, 0 ≤ rd l i ∧ rd l i ≤ 255 := by
  intro i
  unfold rd
  rw [List.getD_eq_getElem?_getD]
  cases e : l[i.toNat]? with
  | none => simp
  | some x => exact h x (List.mem_of_getElem? e)
theorem quote_u8 {l : List Int} (h : ∀ x ∈ l, 0 ≤ x ∧ x ≤ 255) : ∀ x ∈ quoteV l, 0 ≤ x ∧ x ≤ 255 := by
  intro x hx
  unfold quoteV at hx
  obtain ⟨b, hb, hx⟩ := List.mem_flatMap.1 hx
  have := h b hb
  split at hx
  · rcases List.mem_cons.1 hx with e | e
    · omega
    · rw [List.mem_singleton.1 e]; exact this
  · rw [List.mem_singleton.1 hx]; exact this
theorem str_inj {xs ys : List Int} (hx : ∀ x ∈ xs, 0 ≤ x ∧ x ≤ 255) (hy : ∀ x ∈ ys, 0 ≤ x ∧ x ≤ 255) (h : (strOfNums xs).toList = (strOfNums ys).toList) : xs = ys := by
  rw [ByteArray.toList_eq, ByteArray.toList_eq] at h
  have e : ∀ l : List Int, (∀ x ∈ l, 0 ≤ x ∧ x ≤ 255) → (strOfNums l).data.toList.map (fun b => (b.toNat : Int)) = l := by
    intro l
    unfold strOfNums
    induction l with
    | nil => intro _; rfl
    | cons a l ih =>
      intro h
      have h1 := h a (by simp)
      have h2 := ih (fun x hx => h x (by simp [hx]))
      simp only [List.map_cons, List.map_map] at h2 ⊢
      rw [h2]
      congr 1
      show ((a.toNat.toUInt8.toNat : Nat) : Int) = a
      rw [show a.toNat.toUInt8.toNat = a.toNat % 256 from rfl]
      omega
  rw [← e xs hx, ← e ys hy, h]
set_option maxHeartbeats 2000000 in
set_option maxRecDepth 100000 in
theorem walk (A0 : Option Addr) (c0 : Nat) (s : List Int) (A1 : Option Addr) (c1 : Nat) (line : List Int) (a2 : Int) (w : World) (hr0 : Kd.C (Kd.int .u8) w A0 s.length s) (hc0 : s.length ≤ c0) (hr1 : Kd.C (Kd.int .u8) w A1 line.length line) (hc1 : line.length ≤ c1) (o0 : (okSl 1 okU8) s) (o1 : (okSl 1 okU8) line) (o2 : okI64 a2) (hb : ((szSl szOne) s + (szSl szOne) line + szOne a2 ≤ 1048576)) :
    Calls Tryd.prog 3 #[.slice A0 s.length c0, .slice A1 line.length c1, .int .i64 a2] w fun e w' => e = .returned (.bool true) ∧ Below w.heap.size w w' := by
  have hl0 : s.length ≤ 1048576 := by have := sum_len s; unfold szSl at hb; omega
  have hl1 : line.length ≤ 1048576 := by have := sum_len line; unfold szSl at hb; omega
  have us : ∀ x ∈ s, 0 ≤ x ∧ x ≤ 255 := fun x hx => o0.2 x hx
  have ul : ∀ x ∈ line, 0 ≤ x ∧ x ≤ 255 := fun x hx => o1.2 x hx
  have hul := u8_rd line ul
  have H := Aside0.mk (And.intro hr0 (And.intro hr1 (And.intro us (And.intro ul hul))))
  have HA : ∀ W, Aside0 _ := fun W => ⟨alive_calls (w := W)⟩
  have HQ : Aside0 (∀ W, Below w.heap.size w W → Calls Tryd.prog 5 #[.slice A0 s.length c0] W fun e w' => ∃ v, e = .returned v ∧ (Kd.int .u8).R 5 w' W.heap.size (fun _ => True) v (quoteV s) ∧ Below W.heap.size W w') := ⟨fun W h => quote_calls (Kd.C_below hr0 h) (u8_rd s us) hc0 (by omega)⟩
  have hql := quoteV_len s
  have hqu := u8_rd _ (quote_u8 us)
  have HV := Aside0.mk (show (256 < (quoteV s).length → compileV (quoteV s) = (none, 0, 1)) ∧ ((quoteV s).length ≤ 256 → compileV (quoteV s) = (some (s.map lit), 0, 0)) from ⟨fun h => by unfold compileV; rw [if_pos h], fun h => compile_quote h⟩)
  generalize quoteV s = q at HQ hql hqu HV
  have HU := Aside0.mk hqu
  clear hr0 hr1 us ul hul o0 o1 hb hqu
  have g1 : ((q.length : Int) < (s.length : Int)) = False := eq_false (by omega)
  have g2 : (2 * (s.length : Int) < (q.length : Int)) = False := eq_false (by omega)
  by_cases hbig : 256 < q.length
  · have hv := HV.out.1 hbig
    have HC : Aside0 (∀ (W : World) (A : Option Addr) (c : Nat), Kd.C (Kd.int .u8) W A q.length q → Calls Tryd.prog 6 #[.slice A q.length c] W fun e w' => e = .returned (.tuple #[.pointer none, .int .i64 0, .int .i64 1]) ∧ Below W.heap.size W w') := ⟨fun W A c h => by
      have h2 := compile_calls (c := c) h HU.out
      rw [hv] at h2
      exact h2.mono fun e w' ⟨v, h3, h4, h5⟩ => ⟨by rw [h3, show v = .pointer none from h5], h4⟩⟩
    have g3 : (256 < (q.length : Int)) = True := eq_true (by omega)
    go_enter Tryd.func3, Tryd.ntmps3
    go_wp2_with (first
      | (go_at_call 4; (with_reducible refine (HA _).out.mono ?_); rintro e w1 ⟨rfl, hx⟩; have H1 := Aside0.mk hx; clear hx)
      | (go_at_call 5; (with_reducible refine (HQ.out _ H1.out).mono ?_); rintro e w2 ⟨v2, rfl, hq, hx⟩; have H2 := Aside0.mk (And.intro hx hq); clear hx hq; obtain ⟨A2, c2, e2⟩ := Kd.R_slice H2.out.2; subst e2)
      | (go_at_call 6; (with_reducible refine (HC.out _ _ _ (Kd.R_reads' H2.out.2).2.2).mono ?_); rintro e w3 ⟨rfl, hx⟩; have H3 := Aside0.mk hx; clear hx))
    exact bodyPost_ret (v := .bool true) (by simp [results, Tryd.results3, go_sem]) rfl ⟨rfl, below_step (below_step H1.out H2.out.1) H3.out⟩
  have hv := HV.out.2 (by omega)
  have HC : Aside0 (∀ (W : World) (A : Option Addr) (c : Nat), Kd.C (Kd.int .u8) W A q.length q → Calls Tryd.prog 6 #[.slice A q.length c] W fun e w' => ∃ v, e = .returned (.tuple #[v, .int .i64 0, .int .i64 0]) ∧ Below W.heap.size W w' ∧ PatO w' W.heap.size v (some (s.map lit))) := ⟨fun W A c h => by
    have h2 := compile_calls (c := c) h HU.out
    rw [hv] at h2
    exact h2⟩
  have HF : Aside0 (∀ (W : World) (v : Value) (base : Nat), Below w.heap.size w W → PatO W base v (some (s.map lit)) → Calls Tryd.prog 7 #[v, .slice A1 line.length c1, .int .i64 a2] W fun e w' => e = .returned (.tuple #[.int .i64 (findV line (s.map lit) a2).1, .int .i64 (findV line (s.map lit) a2).2.1, .bool (findV line (s.map lit) a2).2.2]) ∧ Below W.heap.size W w') := ⟨fun W v base h hp => find_calls (Kd.C_below H.out.2.1 h) H.out.2.2.2.2 (by omega) hc1 hp⟩
  have g3 : (256 < (q.length : Int)) = False := eq_false (by omega)
  by_cases hout : a2 < 0 ∨ a2 > line.length
  · rw [quote_out hout] at HF
    simp only at HF
    by_cases hneg : a2 < 0
    · have g4 : (a2 < 0) = True := eq_true hneg
      go_enter Tryd.func3, Tryd.ntmps3
      go_wp2_with (first
    | (go_at_call 4; (with_reducible refine (HA _).out.mono ?_); rintro e w1 ⟨rfl, hx⟩; have H1 := Aside0.mk hx; clear hx)
    | (go_at_call 5; (with_reducible refine (HQ.out _ H1.out).mono ?_); rintro e w2 ⟨v2, rfl, hq, hx⟩; have H2 := Aside0.mk (And.intro hx hq); clear hx hq; obtain ⟨A2, c2, e2⟩ := Kd.R_slice H2.out.2; subst e2)
    | (go_at_call 6; (with_reducible refine (HC.out _ _ _ (Kd.R_reads' H2.out.2).2.2).mono ?_); rintro e w3 ⟨v3, rfl, hx, hp⟩; have H3 := Aside0.mk (And.intro (below_step (below_step H1.out H2.out.1) hx) hp); clear hx hp)
    | (go_at_call 7; (with_reducible refine (HF.out _ _ _ H3.out.1 H3.out.2).mono ?_); rintro e w4 ⟨rfl, hx⟩; have H4 := Aside0.mk (below_step H3.out.1 hx); clear hx))
      exact bodyPost_ret (v := .bool true) (by simp [results, Tryd.results3, go_sem]) rfl ⟨rfl, H4.out⟩
    · have g4 : (a2 < 0) = False := eq_false hneg
      have g5 : ((line.length : Int) < a2) = True := eq_true (by omega)
      go_enter Tryd.func3, Tryd.ntmps3
      go_wp2_with (first
    | (go_at_call 4; (with_reducible refine (HA _).out.mono ?_); rintro e w1 ⟨rfl, hx⟩; have H1 := Aside0.mk hx; clear hx)
    | (go_at_call 5; (with_reducible refine (HQ.out _ H1.out).mono ?_); rintro e w2 ⟨v2, rfl, hq, hx⟩; have H2 := Aside0.mk (And.intro hx hq); clear hx hq; obtain ⟨A2, c2, e2⟩ := Kd.R_slice H2.out.2; subst e2)
    | (go_at_call 6; (with_reducible refine (HC.out _ _ _ (Kd.R_reads' H2.out.2).2.2).mono ?_); rintro e w3 ⟨v3, rfl, hx, hp⟩; have H3 := Aside0.mk (And.intro (below_step (below_step H1.out H2.out.1) hx) hp); clear hx hp)
    | (go_at_call 7; (with_reducible refine (HF.out _ _ _ H3.out.1 H3.out.2).mono ?_); rintro e w4 ⟨rfl, hx⟩; have H4 := Aside0.mk (below_step H3.out.1 hx); clear hx))
      exact bodyPost_ret (v := .bool true) (by simp [results, Tryd.results3, go_sem]) rfl ⟨rfl, H4.out⟩
  obtain ⟨f, rfl⟩ : ∃ f : Nat, a2 = (f : Int) := ⟨a2.toNat, by omega⟩
  have hfl : f ≤ line.length := by omega
  have g5 : ((line.length : Int) < (f : Int)) = False := eq_false (by omega)
  have g4 : ((f : Int) < 0) = False := eq_false (by omega)
  have HFD := Aside0.mk (And.intro (fun (i : Nat) (h1 : f ≤ i) (h2 : i ≤ line.length) h3 h4 => quote_found (line := line) (s := s) (f := f) H.out.2.2.2.2 H.out.2.2.1 h1 h2 h3 h4) (fun h => quote_none (line := line) (s := s) (f := f) H.out.2.2.2.2 H.out.2.2.1 hfl h))
  generalize findV line (s.map lit) (f : Int) = r at HF HFD
  obtain ⟨r1, r2, r3⟩ := r
  simp only at HF
  clear hout
  go_enter Tryd.func3, Tryd.ntmps3
  go_wp2_with (first
    | (go_at_call 4; (with_reducible refine (HA _).out.mono ?_); rintro e w1 ⟨rfl, hx⟩; have H1 := Aside0.mk hx; clear hx)
    | (go_at_call 5; (with_reducible refine (HQ.out _ H1.out).mono ?_); rintro e w2 ⟨v2, rfl, hq, hx⟩; have H2 := Aside0.mk (And.intro hx hq); clear hx hq; obtain ⟨A2, c2, e2⟩ := Kd.R_slice H2.out.2; subst e2)
    | (go_at_call 6; (with_reducible refine (HC.out _ _ _ (Kd.R_reads' H2.out.2).2.2).mono ?_); rintro e w3 ⟨v3, rfl, hx, hp⟩; have H3 := Aside0.mk (And.intro (below_step (below_step H1.out H2.out.1) hx) hp); clear hx hp)
    | (go_at_call 7; (with_reducible refine (HF.out _ _ _ H3.out.1 H3.out.2).mono ?_); rintro e w4 ⟨rfl, hx⟩; have H4 := Aside0.mk (below_step H3.out.1 hx); clear hx))
  clear HF HC HQ HA
  go_loopg [14] (line.length + 1 - f) (fun g v14 wl => ∃ (i nd : Nat), f ≤ i ∧ i + g = line.length + 1 ∧ v14 = .int .i64 i ∧ wl = w4.drewN nd ∧ Aside0 (∀ j, f ≤ j → j < i → ¬ occ line s j))
  case atStart => exact ⟨f, 0, Nat.le_refl _, by omega, rfl, rfl, ⟨fun j h1 h2 => by omega⟩⟩
  case round =>
    obtain ⟨i, nd, hi1, hi2, rfl, rfl, HN⟩ := hrel
    by_cases hfit : i + s.length ≤ line.length
    · obtain ⟨g, rfl⟩ : ∃ g, gk = g + 1 := ⟨gk - 1, by omega⟩
      have q1 : ((i : Int) ≤ (line.length : Int) - (s.length : Int)) = True := eq_true (by omega)
      have hl1' : ((line.take (i + s.length)).drop i).length = s.length := by rw [List.length_drop, List.length_take]; omega
      have hpo : (line.take (i + s.length)).drop i = (line.drop i).take s.length := by rw [List.drop_take]; congr 1; omega
      obtain ⟨i0, hi0, hsz⟩ : ∃ i, Tryd.prog.info? 5 = some i ∧ i.size = 1 := ⟨_, rfl, rfl⟩
      have hcut := cut_mid (P := Tryd.prog) 22 5 .i64 .i64 Tryd.underlying22 hi0 1 hsz A1 line.length c1 (i : Int) ((i : Int) + (s.length : Int)) (by omega) (by omega) (by omega) hc1
      have hC1 := Kd.C_mid (c := c1) (lo := i) (hi := i + s.length) (Kd.C_below H.out.2.1 H4.out) (by omega) (by omega) hc1
      rw [show ((i : Int) + (s.length : Int)).toNat = i + s.length from by omega, Int.toNat_natCast, show i + s.length - i = s.length from by omega] at hcut
      rw [hl1'] at hC1
      replace hC1 : (Kd.int .u8).C w4 (if c1 = i then A1 else Option.map (fun x => x.add (i * 1)) A1) s.length ((line.take (i + s.length)).drop i) := hC1
      generalize (if c1 = i then A1 else Option.map (fun x => x.add (i * 1)) A1) = AP at hcut hC1
      have hup : ∀ x ∈ (line.take (i + s.length)).drop i, 0 ≤ x ∧ x ≤ 255 := fun x hx => H.out.2.2.2.1 x (List.mem_of_mem_take (List.mem_of_mem_drop hx))
      have ho : occ line s i ↔ (line.take (i + s.length)).drop i = s := by unfold occ; rw [hpo]
      generalize (line.take (i + s.length)).drop i = piece at hC1 hup ho
      have k1 : ∀ n : Nat, (convert 22 9 (.slice AP s.length (c1 - i))).run Tryd.prog (w4.drewN n) = .ok (.string (strOfNums piece)) (w4.drewN n) := fun n => Kd.C_string (P := Tryd.prog) Tryd.underlying22 Tryd.underlying5 Tryd.underlying9 (Kd.C_drewN hC1 n)
      have k2 : ∀ n : Nat, (convert 22 9 (.slice A0 s.length c0)).run Tryd.prog (w4.drewN n) = .ok (.string (strOfNums s)) (w4.drewN n) := fun n => Kd.C_string (P := Tryd.prog) Tryd.underlying22 Tryd.underlying5 Tryd.underlying9 (Kd.C_drewN (Kd.C_below H.out.1 H4.out) n)
      by_cases hp : piece = s
      · have hv2 := HFD.out.1 i hi1 (by omega) (ho.2 hp) HN.out
        simp only [Prod.mk.injEq] at hv2
        obtain ⟨rfl, rfl, rfl⟩ := hv2
        subst hp
        go_wp2
        go_region
        go_wp2
        exact bodyPost_ret (v := .bool true) (by simp [results, Tryd.results3, go_sem]) rfl ⟨rfl, pw_below_drewN H4.out _⟩
      · have k3 : ((strOfNums piece).toList == (strOfNums s).toList) = false := beq_eq_false_iff_ne.2 (fun e => hp (str_inj hup H.out.2.2.1 e))
        have hno : ¬ occ line s i := fun e => hp (ho.1 e)
        go_wp2
        go_region
        go_wp2
        go_roundg g
        case measure => omega
        case rel => exact ⟨i + 1, _, by omega, by omega, by go_num, rfl, ⟨fun j h1 h2 h3 => by
          by_cases e : j = i
          · rw [e] at h3; exact hno h3
          · exact HN.out j h1 (by omega) h3⟩⟩
    · have hv2 := HFD.out.2 (fun j h1 h2 h3 => HN.out j h1 (by omega) h3)
      simp only [Prod.mk.injEq] at hv2
      obtain ⟨rfl, rfl, rfl⟩ := hv2
      have q1 : ((i : Int) ≤ (line.length : Int) - (s.length : Int)) = False := eq_false (by omega)
      go_wp2
      exact bodyPost_ret (v := .bool true) (by simp [results, Tryd.results3, go_sem]) rfl ⟨rfl, pw_below_drewN H4.out _⟩
end Go.Proofs.YtlbijhlbllolhaaDoor.WalkPatternQuotes
