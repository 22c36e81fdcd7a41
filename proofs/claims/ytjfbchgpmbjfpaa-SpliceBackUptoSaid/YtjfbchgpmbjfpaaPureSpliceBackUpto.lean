/-
  SpliceBack, the pure statement: what was put in stands there, and taken out again leaves the list packed.
  Conditions: what comes in is of bulk at most 1048576.
-/
import Derived.Test.YtjfbchgpmbjfpaaSPB
import Derived.Test.YtjfbchgpmbjfpaaSaySpliceBackUpto
import Derived.Test.YtjfbchgpmbjfpaaX32
import Derived.Test.YtjfbchgpmbjfpaaX8
import Derived.Test.YtjfbchgpmbjfpaaX29
namespace Go.Proofs.Ytjfbchgpmbjfpaa.Pure
open Go.RowKit Go.Proofs.YtjfbchgpmbjfpaaW.PrintWords Go.Proofs.YtjfbchgpmbjfpaaW.PrintMore Go.Proofs.Ytjfbchgpmbjfpaa.X Go.Proofs.Ytjfbchgpmbjfpaa.XL Go.Proofs.Ytjfbchgpmbjfpaa.XO Go.Proofs.Ytjfbchgpmbjfpaa.SP
theorem back_awake : Ev (fun k => quoinlaw03_awake.f k) true := Ev.of quoinlaw03_awake.mono (k := 10) (by decide +kernel)
theorem szS_pos (s : S29) : 1 ≤ szS29 s := by unfold szS29; omega
theorem rd_pred (pre suf : List S29) (t s : S29) : rd_T29 (pre ++ t :: s :: suf) ((pre.length : Int) + 1 - 1) = t := by
  rw [show ((pre.length : Int) + 1 - 1) = (pre.length : Int) from by omega]
  exact rd_mid _ _ _
theorem Pk_tail : ∀ (pre suf : List S29), Pk (pre ++ suf) → Pk suf := by
  intro pre
  induction pre with
  | nil => intro suf h; exact h
  | cons a pre ih => intro suf h; exact ih suf h.2.2
theorem packed_l0 (l : List S29) (hl : l.length ≤ 9000000000000000) (hp : Pk l) (hr : l.all rt = true) : ∀ (suf pre : List S29), l = pre ++ suf →
    Ev (fun k => quoinlaw03_packed.l0 k l (pre.length : Int)) true := by
  intro suf
  induction suf with
  | nil =>
    intro pre h
    subst h
    refine Ev.step (fun k => rfl) (Ev.neg (by simp) ?_)
    exact Ev.now _
  | cons s suf ih =>
    intro pre h
    have hn := len_mid pre suf s
    rw [← h] at hn
    have h2 : l = (pre ++ [s]) ++ suf := by rw [h, snoc_eq]
    have hih := ih (pre ++ [s]) h2
    have hps : Pk (s :: suf) := Pk_tail pre _ (h ▸ hp)
    have hs := hps.1
    refine Ev.step (fun k => rfl) (Ev.pos (by omega) (Ev.pos (by omega) ?_))
    rw [show rd_T29 l (pre.length : Int) = s from by rw [h]; exact rd_mid _ _ _, wrap_len pre s (by omega)]
    refine Ev.neg (by omega) ?_
    rcases snoc_cases pre with rfl | ⟨m, t, rfl⟩
    · exact Ev.neg (by simp) hih
    · have e : wrap64 (((m ++ [t]).length : Int) - 1) = (m.length : Int) := by simp at hn ⊢; rw [wrap64_id (by omega) (by omega)]
      have hm : rd_T29 l (m.length : Int) = t := by rw [h, List.append_assoc]; exact rd_mid _ _ _
      have hpt : Pk (t :: s :: suf) := Pk_tail m _ (by rw [h] at hp; simpa using hp)
      have hrt : rt t = true := by
        rw [h, List.all_append, List.all_append] at hr
        simp only [Bool.and_eq_true, List.all_cons, List.all_nil, Bool.and_true] at hr
        exact hr.1.2
      have ht := rt_of hrt
      refine Ev.pos (by simp) ?_
      rw [e]
      refine Ev.pos (by omega) (Ev.pos (by simp at hn; omega) ?_)
      rw [hm, wrap64_id (n := t.f1 + t.f2) (by omega) (by omega)]
      by_cases h0 : t.f0 = s.f0
      · refine Ev.pos h0 ?_
        exact Ev.neg (fun h1 => hpt.2.1 s rfl ⟨h0, h1⟩) hih
      · exact Ev.neg h0 hih
theorem packed_ev (l : List S29) (hl : l.length ≤ 9000000000000000) (hp : Pk l) (hr : l.all rt = true) : Ev (fun k => quoinlaw03_packed.f k l) true := packed_l0 l hl hp hr l [] rfl
theorem SpliceBackUpto : Say.SpliceBackUpto := by
  intro l n s _ _ _ hb
  have h1 := szSl_length szS29 szS_pos l
  have hl : l.length ≤ 1048575 := by omega
  refine Ev.rounds (g := fun k => quoinlaw03_SpliceBack.f k l n s.f0 s.f1 s.f2) ?_
  refine Ev.bind back_awake (Ev.pos rfl ?_)
  refine Ev.bind (Insert_ev l (by omega) n s) ?_
  by_cases hs : rt s = true
  case neg =>
    have e : ins l n s = ([], 10) := by unfold ins; rw [if_neg hs]
    rw [e]
    exact Ev.neg (by decide) (Ev.now _)
  by_cases hf : fault l n n = 0
  case neg =>
    have e : ins l n s = ([], fault l n n) := by unfold ins; rw [if_pos hs, if_neg hf]
    rw [e]
    exact Ev.neg hf (Ev.now _)
  have hr : l.all rt = true := by
    by_cases h : l.all rt = true
    · exact h
    · unfold fault at hf; rw [if_neg h] at hf; exact absurd hf (by decide)
  have hn : 0 ≤ n ∧ n ≤ sumA 0 l := by
    unfold fault at hf
    rw [if_pos hr] at hf
    by_cases h : n < 0 ∨ n > n ∨ n > sumA 0 l
    · rw [if_pos h] at hf; exact absurd hf (by decide)
    · omega
  have hst := rt_of hs
  have ht0 := tot_nonneg hr
  have htb := tot_bound hr
  have hsum : sumA 0 l = tot l := by rw [sumA_tot hr 0 (by omega) (by omega)]; omega
  rw [hsum] at hn
  have e : ins l n s = (layAll [] (prt 0 n 0 l ++ [s] ++ prt n (tot l) 0 l), 0) := by unfold ins; rw [if_pos hs, if_pos hf, hsum]
  have g1 := part_rt 0 n l 0 (by decide) (by decide) hr
  have g2 := part_rt n (tot l) l 0 (by decide) (by decide) hr
  have g3 : (prt 0 n 0 l ++ [s] ++ prt n (tot l) 0 l).all rt = true := by rw [List.all_append, List.all_append, g1, g2]; simpa using hs
  obtain ⟨t1, b1⟩ := prt_spec 0 n l 0 (by omega) (by omega) hr
  obtain ⟨t2, b2⟩ := prt_spec n (tot l) l 0 (by omega) (by omega) hr
  have p1 := part_length 0 n 0 l
  have p2 := part_length n (tot l) 0 l
  obtain ⟨gI, pI, tI, bI⟩ := pk_spec g3
  have lI := layAll_length [] (prt 0 n 0 l ++ [s] ++ prt n (tot l) 0 l)
  have htt : tot (prt 0 n 0 l ++ [s] ++ prt n (tot l) 0 l) = tot l + s.f2 := by rw [tot_append, tot_append, t1, t2]; simp only [tot]; omega
  have bb : ∀ i : Int, 0 ≤ i → byte (layAll [] (prt 0 n 0 l ++ [s] ++ prt n (tot l) 0 l)) i = if i < n then byte l i else if i < n + s.f2 then some (s.f0, s.f1 + (i - n)) else byte l (i - s.f2) := by
    intro i hi
    rw [bI i hi, List.append_assoc, byte_append g1 _ i hi]
    have e1 : tot (prt 0 n 0 l) = n := by rw [t1]; omega
    rw [e1]
    by_cases h4 : i < n
    · rw [if_pos h4, if_pos h4, b1 i hi, if_pos (by omega)]
      congr 1
      omega
    · rw [if_neg h4, if_neg h4, List.cons_append, List.nil_append]
      simp only [byte]
      by_cases h5 : i < n + s.f2
      · rw [if_pos h5, if_pos (by omega)]
      · rw [if_neg h5, if_neg (by omega), b2 _ (by omega)]
        by_cases h6 : i - s.f2 < tot l
        · rw [if_pos (by omega)]
          congr 1
          omega
        · rw [if_neg (by omega), byte_none hr _ (by omega)]
  rw [e]
  generalize layAll [] (prt 0 n 0 l ++ [s] ++ prt n (tot l) 0 l) = I at *
  have hIl : I.length ≤ 1048575 * 2 + 1 := by simp at lI; omega
  rw [htt] at tI
  have hw : wrap64 (n + s.f2) = n + s.f2 := wrap64_id (by omega) (by omega)
  have hsI : sumA 0 I = tot l + s.f2 := by rw [sumA_tot gI 0 (by omega) (by omega), tI]; omega
  have hfI : fault I n (n + s.f2) = 0 := by
    unfold fault
    rw [if_pos gI, if_neg (by omega)]
  have eS : slice I n (n + s.f2) = (layAll [] (prt n (n + s.f2) 0 I), 0) := by unfold slice; rw [if_pos hfI]
  have eD : delete I n (n + s.f2) = (layAll [] (prt 0 n 0 I ++ prt (n + s.f2) (tot l + s.f2) 0 I), 0) := by unfold delete; rw [if_pos hfI, hsI]
  -- the slice is the span's pack, what is left is the list's
  have q1 := part_rt n (n + s.f2) I 0 (by decide) (by decide) gI
  obtain ⟨tq1, bq1⟩ := prt_spec n (n + s.f2) I 0 (by omega) (by omega) gI
  obtain ⟨_, pq1, _, bp1⟩ := pk_spec q1
  have hone : [s].all rt = true := by simpa using hs
  obtain ⟨_, ps1, _, bs1⟩ := pk_spec hone
  have c1 : layAll [] (prt n (n + s.f2) 0 I) = layAll [] [s] := by
    refine canon _ _ pq1 ps1 (fun i hi => ?_)
    rw [bp1 i hi, bs1 i hi, bq1 i hi]
    simp only [byte]
    by_cases h4 : i < s.f2
    · rw [if_pos (by omega), if_pos h4, bb _ (by omega), if_neg (by omega), if_pos (by omega)]
      simp only [Option.some.injEq, Prod.mk.injEq, true_and]
      omega
    · rw [if_neg (by omega), if_neg h4]
  have r1 := part_rt 0 n I 0 (by decide) (by decide) gI
  have r2 := part_rt (n + s.f2) (tot l + s.f2) I 0 (by decide) (by decide) gI
  obtain ⟨tr1, br1⟩ := prt_spec 0 n I 0 (by omega) (by omega) gI
  obtain ⟨tr2, br2⟩ := prt_spec (n + s.f2) (tot l + s.f2) I 0 (by omega) (by omega) gI
  have r3 : (prt 0 n 0 I ++ prt (n + s.f2) (tot l + s.f2) 0 I).all rt = true := by rw [List.all_append, r1, r2]; rfl
  obtain ⟨_, pd1, _, bd1⟩ := pk_spec r3
  obtain ⟨_, pl1, _, bl1⟩ := pk_spec hr
  have c2 : layAll [] (prt 0 n 0 I ++ prt (n + s.f2) (tot l + s.f2) 0 I) = layAll [] l := by
    refine canon _ _ pd1 pl1 (fun i hi => ?_)
    rw [bd1 i hi, bl1 i hi, byte_append r1 _ i hi]
    have e1 : tot (prt 0 n 0 I) = n := by rw [tr1]; omega
    rw [e1]
    by_cases h4 : i < n
    · rw [if_pos h4, br1 i hi, if_pos (by omega), bb _ (by omega), if_pos (by omega)]
      congr 1
      omega
    · rw [if_neg h4, br2 _ (by omega)]
      by_cases h5 : i < tot l
      · rw [if_pos (by omega), bb _ (by omega), if_neg (by omega), if_neg (by omega)]
        congr 1
        omega
      · rw [if_neg (by omega), byte_none hr _ (by omega)]
  have pks : pack [s] = layAll [] [s] := by unfold pack; rw [if_pos hone]
  have pkl : pack l = layAll [] l := by unfold pack; rw [if_pos hr]
  have lks : (layAll [] [s]).length ≤ 1 := by simpa using layAll_length [] [s]
  have lkl : (layAll [] l).length ≤ l.length := by simpa using layAll_length [] l
  refine Ev.pos rfl ?_
  rw [hw]
  refine Ev.bind (Slice_ev I (by omega) _ _) (Ev.bind (Delete_ev I (by omega) _ _) ?_)
  rw [eS, eD, c1, c2]
  refine Ev.pos rfl (Ev.pos rfl ?_)
  refine Ev.bind (packed_ev I (by omega) pI gI) (Ev.pos rfl ?_)
  refine Ev.bind (Size_ev I (by omega)) (Ev.bind (Size_ev l (by omega)) ?_)
  have z1 : size I = tot l + s.f2 := by unfold size; rw [if_pos gI, hsI]
  have z2 : size l = tot l := by unfold size; rw [if_pos hr, hsum]
  rw [z1, z2, wrap64_id (n := tot l + s.f2) (by omega) (by omega)]
  refine Ev.step (fun k => rfl) (Ev.neg (by simp) ?_)
  refine Ev.bind (Pack_ev [s] (by simp)) ?_
  rw [pks]
  refine Ev.bind (same_ev (layAll [] [s]) (by omega)) (Ev.pos rfl (Ev.bind (Pack_ev l (by omega)) ?_))
  rw [pkl]
  exact Ev.pass (same_ev (layAll [] l) (by omega))
end Go.Proofs.Ytjfbchgpmbjfpaa.Pure
