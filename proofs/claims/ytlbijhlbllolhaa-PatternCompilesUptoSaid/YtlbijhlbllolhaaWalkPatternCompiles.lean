/-
  PatternCompiles: the walk.
-/
import Derived.Test.YtlbijhlbllolhaaRT5
import Derived.Test.YtlbijhlbllolhaaXS
namespace Go.Proofs.Ytlbijhlbllolhaa.WalkPatternCompiles
open Go.RowKit Go.Proofs.YtlbijhlbllolhaaW.PrintWords Go.Proofs.YtlbijhlbllolhaaW.PrintMore Go.Proofs.Ytlbijhlbllolhaa.X Go.Proofs.Ytlbijhlbllolhaa.XO Go.Proofs.Ytlbijhlbllolhaa.PT
set_option linter.unusedVariables false
theorem lens (l : List (List Int)) : ∀ x ∈ l, x.length ≤ (l.map (szSl szOne)).sum := by
  induction l with
  | nil => intro x hx; cases hx
  | cons y l ih =>
    intro x hx
    rw [List.map_cons, List.sum_cons]
    rcases List.mem_cons.1 hx with rfl | hx
    · have h := sum_len x
      have h2 : szSl szOne x = (x.map szOne).sum + 1 := rfl
      omega
    · have := ih x hx
      omega
theorem infoB : (Try.prog.info? 5).map (fun i => (i.zero, i.size, i.bytes)) = some (some (.int .u8 0), 1, 1) := by kernel_rfl
theorem infoBi : Try.prog.info? 5 = some (Option.get! (Try.prog.info? 5)) := by kernel_rfl
theorem C4_of {w : World} {base : Nat} {ok : Nat → Prop} {A : Option Addr} {c : Nat} {p : List Int} (h : (Kd.int .u8).R 5 w base ok (.slice A (p.length + 2) c) ([] ++ p ++ [42, 91])) : (Kd.int .u8).C w A (p.length + 2) (p ++ [42, 91]) ∧ (Kd.int .u8).C w A p.length p := by
  have h1 := (Kd.R_reads' h).2.2
  rw [List.nil_append] at h1
  have h2 := Kd.C_take (m := p.length) h1 (by simp)
  rw [List.take_left'] at h2
  · exact ⟨by simpa using h1, h2⟩
  · rfl
theorem str_add {p : List Int} (h : p.length ≤ 1048576) (w : World) : (Op.stringOp .add (strOfNums p) ({ data := #[42, 91] } : ByteArray)).run Try.prog w = .ok (.string (strOfNums p ++ ({ data := #[42, 91] } : ByteArray))) w := by
  have h1 := strOfNums_size p
  have h2 : ({ data := #[42, 91] } : ByteArray).size = 2 := rfl
  unfold Op.stringOp
  have hm : IntKind.i64.max = 9223372036854775807 := by decide
  rw [if_neg (by rw [h1, h2, hm]; omega)]
  rfl
theorem str_eq (p : List Int) : ((strOfNums (p ++ [42, 91])).toList == (strOfNums p ++ ({ data := #[42, 91] } : ByteArray)).toList) = true := by
  rw [show (strOfNums (p ++ [42, 91])) = (strOfNums p ++ ({ data := #[42, 91] } : ByteArray)) by rw [str_app, show strOfNums [42, 91] = ({ data := #[42, 91] } : ByteArray) from rfl]]
  exact beq_self_eq_true _
set_option maxHeartbeats 8000000 in
set_option maxRecDepth 100000 in
theorem walk (A0 : Option Addr) (c0 : Nat) (l0 : List (List Int)) (w : World) (hr0 : Kd.C (Kd.slice 5 (Kd.int .u8)) w A0 l0.length l0) (hc0 : l0.length ≤ c0) (o0 : (okSl 24 (okSl 1 okU8)) l0) (hb : ((szSl (szSl szOne)) l0 ≤ 1048576)) :
    Calls Try.prog 3 #[.slice A0 l0.length c0] w fun e w' => e = .returned (.bool true) ∧ Below w.heap.size w w' := by
  have hln : ∀ x ∈ l0, x.length ≤ 1048576 := fun x hx => by
    have h1 := lens l0 x hx
    unfold szSl at hb
    have h2 : (l0.map fun l => (l.map szOne).sum + 1) = l0.map (szSl szOne) := rfl
    rw [← h2] at h1
    omega
  have HO := Aside0.mk (And.intro hr0 (And.intro o0 hln))
  have hlm : l0.length ≤ 9223372036854775807 := Kd.C_max hr0
  clear hr0 o0 hb hln
  have HA : ∀ W, Aside0 _ := fun W => ⟨alive_calls (w := W)⟩
  go_enter Try.func3, Try.ntmps3
  go_wp2_with (go_at_call 8; (with_reducible refine (HA _).out.mono ?_); rintro e w1 ⟨rfl, hx⟩; have H1 := Aside0.mk hx; clear hx)
  clear HA
  go_loopw [3] (fun v3 wl => ∃ i : Nat, i ≤ l0.length ∧ v3 = .int .i64 i ∧ Aside0 (Below w.heap.size w wl)) (fun v3 _ => l0.length - (intOf v3).toNat)
  case atStart => exact ⟨0, by omega, rfl, H1⟩
  case round =>
    obtain ⟨i, hi, rfl, HB⟩ := hrel
    clear H1
    by_cases lt : i < l0.length
    · have q0 : decide ((i : Int) < (l0.length : Int)) = true := decide_eq_true (by omega)
      have q1 : (0 ≤ (i : Int)) = True := eq_true (by omega)
      have q2 : ((i : Int) < (l0.length : Int)) = True := eq_true (by omega)
      obtain ⟨ad0, c, rfl, hc, hk, hcc⟩ := Kd.C_get HO.out.1 ([] : List Int) (i : Int) (by omega) (by omega)
      rw [Int.toNat_natCast] at hk hcc
      have hm : l0.getD i [] ∈ l0 := by
        rw [List.getD_eq_getElem?_getD, List.getElem?_eq_getElem lt]
        exact List.getElem_mem lt
      have hok := HO.out.2.1.2 _ hm
      have hpl := HO.out.2.2 _ hm
      generalize l0.getD i [] = p at hk hok hpl
      obtain ⟨Ai, ci, rfl, hpc, hpr⟩ := hk
      have hu := ok_u8 hok
      have ca0 := hcc 0 _ rfl
      rw [show i * (Kd.slice 5 (Kd.int .u8)).sz + 0 = i from Nat.mul_one i] at ca0
      have HP := Aside0.mk (And.intro hpr (And.intro hu ca0))
      clear hcc hc hok hm ca0 hpr hu
      have ca1 := pw_cell_below (below_alloc HB.out (.cells #[] 5)) HP.out.2.2
      have hbs := HB.out.size
      have HE := Aside0.mk (show (Kd.int .u8).R 5 (wr.alloc (.cells #[] 5)) w.heap.size (fun _ => True) (.slice (some ⟨wr.heap.size, 0, none⟩) 0 0) [] from Kd.R_of_own (own_lit wr w.heap.size 5 .u8 [] hbs (by simp)) (fun _ _ => trivial))
      have HCP := fun W (h : Below w.heap.size w W) (A : Option Addr) (c : Nat) (hr : Kd.C (Kd.int .u8) W A p.length p) => Aside0.mk (compile_calls (c := c) hr HP.out.2.1)
      have HRC := fun W (h : Below w.heap.size w W) => Aside0.mk (rcompile_calls (c := ci) (Kd.C_below HP.out.1 h) HP.out.2.1)
      rcases compileV_or p with ⟨pl, hcv⟩ | ⟨a, e, hcv, he⟩
      · simp only [hcv] at HCP HRC
        clear hcv
        go_wp2_with (first
          | ((with_reducible refine gate_builtin (b := .append) (xs := #[.tmp 18, .tmp 22]) rfl ?_); at_builtin; refine Kd.R_append_rows (Kd.int .u8) (Rr := (Kd.int .u8).K (wr.alloc (.cells #[] 5))) (w0 := w) w.heap.size rfl (.tmp 18) (.tmp 22) 24 5 (.int .u8 0) 1 rfl Try.underlying24 infoB rfl (by decide) (by omega) (.slice (some ⟨wr.heap.size, 0, none⟩) 0 0) [] p Ai p.length ci (fun _ => True) (fun _ => False) rfl rfl HE.out (Kd.C_below HP.out.1 (below_alloc HB.out _)) (fun _ _ h => h) (fun _ h => h.elim) (fun _ _ => trivial) (below_alloc HB.out _) (by simp; omega) (by simp; omega) ?_; intro v1 w2 hR hB2 hG2 hat2; have H2 := Aside0.mk (And.intro hR hB2); clear hR hB2 hG2 hat2)
          | ((with_reducible refine gate_builtin (b := .append) (xs := #[.tmp 23, .tmp 24]) rfl ?_); at_builtin; refine Kd.R_append_rows (Kd.int .u8) (Rr := (Kd.int .u8).K w2) (w0 := w) w.heap.size rfl (.tmp 23) (.tmp 24) 24 5 (.int .u8 0) 1 rfl Try.underlying24 infoB rfl (by decide) (by omega) v1 ([] ++ p) [42, 91] (some ⟨w2.heap.size, 0, none⟩) 2 2 (fun _ => True) (fun _ => False) rfl rfl (Kd.R_alloc H2.out.1 _) (u8_C (xs := [42, 91]) (blk_new _ _) (by decide)) (fun _ _ h => h) (fun _ h => h.elim) (fun _ _ => trivial) (below_alloc H2.out.2 _) (by have := H2.out.2.size; simp; omega) (by simp; omega) ?_; intro v4 w4 hR4 hB4 hG4 hat4; obtain ⟨A4, c4, e4⟩ := Kd.R_slice hR4; have el : ([] ++ p ++ [42, 91] : List Int).length = p.length + 2 := (by simp); rw [el] at e4; subst e4; clear el; have hcut := cut_to 24 5 .i64 Try.underlying24 infoBi A4 (p.length + 2) c4 (p.length : Int) (by omega) (by omega) (Kd.R_reads' hR4).2.1; rw [Int.toNat_natCast] at hcut; have ca4 := pw_cell_below hB4 HP.out.2.2; have H4 := Aside0.mk (And.intro hR4 hB4); have HC4 := Aside0.mk (C4_of hR4); clear hR4 hB4 hG4 hat4)
          | (go_at_call 9; (with_reducible refine (HCP _ H4.out.2 _ _ HC4.out.2).out.mono ?_); rintro e w5 ⟨v5, rfl, hx, b5, A5, c5, l5, rfl, hp⟩; have H5 := Aside0.mk (below_step H4.out.2 hx); have ca5 := pw_cell_below hx ca4; have HC5 := Aside0.mk (Kd.C_below HC4.out.1 hx); clear hx hp)
          | (go_at_call 10; (with_reducible refine (HRC _ H5.out).out.mono ?_); rintro e w6 ⟨rfl, hx⟩; have H6 := Aside0.mk (below_step H5.out hx); have ca6 := pw_cell_below hx ca5; have HC6 := Aside0.mk (Kd.C_below HC5.out hx); have hs1 := fun n => Kd.C_string (src := 24) (dst := 9) (c := c4) Try.underlying24 Try.underlying5 Try.underlying9 (Kd.C_drewN HC6.out n); have hs2 := fun n => Kd.C_string (src := 24) (dst := 9) (c := ci) Try.underlying24 Try.underlying5 Try.underlying9 (Kd.C_drewN (Kd.C_below HP.out.1 H6.out) n); clear hx))
        have hse := str_eq p
        have hsa := str_add hpl
        go_quiet (fail)
        go_wp2
        go_roundw
        case rel => exact ⟨i + 1, by omega, by congr 1, ⟨pw_below_drewN H6.out _⟩⟩
        case measure => simp [intOf]; omega
      · simp only [hcv] at HCP HRC
        clear hcv
        have na : (a != a) = false := by simp
        rcases he with rfl | rfl
        all_goals
          go_wp2_with (first
            | ((with_reducible refine gate_builtin (b := .append) (xs := #[.tmp 18, .tmp 22]) rfl ?_); at_builtin; refine Kd.R_append_rows (Kd.int .u8) (Rr := (Kd.int .u8).K (wr.alloc (.cells #[] 5))) (w0 := w) w.heap.size rfl (.tmp 18) (.tmp 22) 24 5 (.int .u8 0) 1 rfl Try.underlying24 infoB rfl (by decide) (by omega) (.slice (some ⟨wr.heap.size, 0, none⟩) 0 0) [] p Ai p.length ci (fun _ => True) (fun _ => False) rfl rfl HE.out (Kd.C_below HP.out.1 (below_alloc HB.out _)) (fun _ _ h => h) (fun _ h => h.elim) (fun _ _ => trivial) (below_alloc HB.out _) (by simp; omega) (by simp; omega) ?_; intro v1 w2 hR hB2 hG2 hat2; have H2 := Aside0.mk (And.intro hR hB2); clear hR hB2 hG2 hat2)
            | ((with_reducible refine gate_builtin (b := .append) (xs := #[.tmp 23, .tmp 24]) rfl ?_); at_builtin; refine Kd.R_append_rows (Kd.int .u8) (Rr := (Kd.int .u8).K w2) (w0 := w) w.heap.size rfl (.tmp 23) (.tmp 24) 24 5 (.int .u8 0) 1 rfl Try.underlying24 infoB rfl (by decide) (by omega) v1 ([] ++ p) [42, 91] (some ⟨w2.heap.size, 0, none⟩) 2 2 (fun _ => True) (fun _ => False) rfl rfl (Kd.R_alloc H2.out.1 _) (u8_C (xs := [42, 91]) (blk_new _ _) (by decide)) (fun _ _ h => h) (fun _ h => h.elim) (fun _ _ => trivial) (below_alloc H2.out.2 _) (by have := H2.out.2.size; simp; omega) (by simp; omega) ?_; intro v4 w4 hR4 hB4 hG4 hat4; obtain ⟨A4, c4, e4⟩ := Kd.R_slice hR4; have el : ([] ++ p ++ [42, 91] : List Int).length = p.length + 2 := (by simp); rw [el] at e4; subst e4; clear el; have hcut := cut_to 24 5 .i64 Try.underlying24 infoBi A4 (p.length + 2) c4 (p.length : Int) (by omega) (by omega) (Kd.R_reads' hR4).2.1; rw [Int.toNat_natCast] at hcut; have ca4 := pw_cell_below hB4 HP.out.2.2; have H4 := Aside0.mk (And.intro hR4 hB4); have HC4 := Aside0.mk (C4_of hR4); clear hR4 hB4 hG4 hat4)
            | (go_at_call 9; (with_reducible refine (HCP _ H4.out.2 _ _ HC4.out.2).out.mono ?_); rintro e w5 ⟨v5, rfl, hx, rfl⟩; have H5 := Aside0.mk (below_step H4.out.2 hx); have ca5 := pw_cell_below hx ca4; have HC5 := Aside0.mk (Kd.C_below HC4.out.1 hx); clear hx)
            | (go_at_call 10; (with_reducible refine (HRC _ H5.out).out.mono ?_); rintro e w6 ⟨rfl, hx⟩; have H6 := Aside0.mk (below_step H5.out hx); have ca6 := pw_cell_below hx ca5; have HC6 := Aside0.mk (Kd.C_below HC5.out hx); have hs1 := fun n => Kd.C_string (src := 24) (dst := 9) (c := c4) Try.underlying24 Try.underlying5 Try.underlying9 (Kd.C_drewN HC6.out n); have hs2 := fun n => Kd.C_string (src := 24) (dst := 9) (c := ci) Try.underlying24 Try.underlying5 Try.underlying9 (Kd.C_drewN (Kd.C_below HP.out.1 H6.out) n); clear hx))
          have hse := str_eq p
          have hsa := str_add hpl
          go_quiet (fail)
          go_wp2
          go_roundw
          case rel => exact ⟨i + 1, by omega, by congr 1, ⟨pw_below_drewN H6.out _⟩⟩
          case measure => simp [intOf]; omega
    · have q0 : decide ((i : Int) < (l0.length : Int)) = false := decide_eq_false (by omega)
      go_wp2
      exact bodyPost_ret (v := .bool true) (by simp [results, Try.results3, go_sem]) rfl ⟨rfl, HB.out⟩
end Go.Proofs.Ytlbijhlbllolhaa.WalkPatternCompiles
