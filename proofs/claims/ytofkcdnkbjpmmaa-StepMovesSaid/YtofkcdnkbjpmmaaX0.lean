-- Written by wip/xprint.py over the kit's print.py: the Lean function of each Go function, and the proof that the Go text comes to it.
import Derived.Test.YtofkcdnkbjpmmaaProg
import Derived.Below
import Derived.Deep.Draws
import Derived.Deep.AppendLies
import Derived.Maps.AppendAt
import Derived.OwnWalk
import Derived.Laws.BytesArg
import Derived.Laws.MakeOwn
import Derived.Laws.OwnMore
import Derived.Deep.OwnRows
import Derived.Tactics
import Derived.Lib.ConvBytes
import Derived.Laws.Slices
import Derived.WalkKit
import Derived.KernelRfl
import Derived.RowKit3
import Derived.Deep.LoopGhost
import Derived.Deep.QuietTactic
import Derived.BigQuiet
import Derived.WideLaws
import Derived.Deep.DeepCutAuto
import Derived.Deep.CutBlock
import Derived.Deep.RegionHeld3
import Derived.Laws.Rows
import Derived.Lib.AppendStr
import Derived.ArgAppend
import Derived.Laws.IdiomCopy
import Derived.OrdersHeld
import Derived.Laws.BitsLemmas
import Derived.RowKit
import Derived.Lib.SlBytesConst
import Derived.Lib.Bytealg
import Derived.Lib.Bytes
import Derived.Shelf.Bytes.SlCountOne
import Derived.Shelf.Bytes.SlIndexAt
import Derived.Laws.Externs
import Derived.Lib.SliceRun
import Derived.Lib.SmallJoins
import Derived.Lib.SlSplitV
import Derived.Test.YtofkcdnkbjpmmaaWALL
namespace Go.Proofs.Ytofkcdnkbjpmmaa.X
open Go.RowKit Go.Proofs.YtofkcdnkbjpmmaaW.PrintWords Go.Proofs.YtofkcdnkbjpmmaaW.PrintLast Go.Proofs.YtofkcdnkbjpmmaaW.PrintMore
attribute [local go_sem] max2_int min2_int max_two min_two max_three min_three max_four min_four   -- for this text's walks alone
set_option linter.unusedVariables false
set_option linter.unusedSimpArgs false



def errW : Option Int → Value
  | none => .nilIface
  | some c => .iface 0 (.int .i64 c)
theorem errW_none : errW none = .nilIface := rfl
theorem errW_some (c : Int) : errW (some c) = .iface 0 (.int .i64 c) := rfl

theorem info3 : (Try.prog.info? 3).map (fun i => (i.zero, i.size, i.bytes)) = some (some (.int .i64 0), 1, 8) := by kernel_rfl
theorem info5 : (Try.prog.info? 5).map (fun i => (i.zero, i.size, i.bytes)) = some (some (.int .u8 0), 1, 1) := by kernel_rfl
-- the values' own types
/-! #### struct type 27 -/
structure S27 where
  f0 : Int
  f1 : Int
  f2 : Int
  f3 : ByteArray
def z27 : S27 := ⟨(0 : Int), (0 : Int), (0 : Int), (⟨#[]⟩ : ByteArray)⟩
def k27 : Kd S27 := Kd.iso (Kd.pair (Kd.int .i64) (Kd.pair (Kd.int .i64) (Kd.pair (Kd.int .i64) Kd.string))) (fun x : S27 => (x.f0, x.f1, x.f2, x.f3))
theorem k27_open {w : World} {x : S27} {cs : List Value} (h : k27.K w x cs) : cs = [.int .i64 x.f0, .int .i64 x.f1, .int .i64 x.f2, .string x.f3] := by
  obtain ⟨_, _, rfl, rfl, ⟨_, _, rfl, rfl, ⟨_, _, rfl, rfl, rfl⟩⟩⟩ := h
  exact rfl
def rd_T27 (xs : List S27) (i : Int) : S27 := xs.getD i.toNat z27
theorem at_T27 {w : World} {A : Option Addr} {n : Nat} {xs : List S27} (h : Kd.C k27 w A n xs) (i : Int) (h0 : 0 ≤ i) (h1 : i < n) : ∃ ad , A = some ad ∧ w.cell? (ad.add (i.toNat * 4)) = some (.int .i64 (rd_T27 xs i).f0) ∧ w.cell? ⟨(ad.add (i.toNat * 4)).block, (ad.add (i.toNat * 4)).off + 1, none⟩ = some (.int .i64 (rd_T27 xs i).f1) ∧ w.cell? ⟨(ad.add (i.toNat * 4)).block, (ad.add (i.toNat * 4)).off + 2, none⟩ = some (.int .i64 (rd_T27 xs i).f2) ∧ w.cell? ⟨(ad.add (i.toNat * 4)).block, (ad.add (i.toNat * 4)).off + 3, none⟩ = some (.string (rd_T27 xs i).f3) := by
  obtain ⟨ad, c, e, _, hK, hc0⟩ := Kd.C_get h z27 i h0 h1
  have hc : ∀ j u, c[j]? = some u → w.cell? (ad.add (i.toNat * 4 + j)) = some u := hc0
  obtain rfl := k27_open hK
  exact ⟨ad, e, hc 0 _ rfl, by rw [← add_field _ _ 1 (by omega)]; exact hc 1 _ rfl, by rw [← add_field _ _ 2 (by omega)]; exact hc 2 _ rfl, by rw [← add_field _ _ 3 (by omega)]; exact hc 3 _ rfl⟩

/-- Bytes: each from 0 to 255. -/
def u8s (l : List Int) : Bool := l.all fun x => decide (0 ≤ x ∧ x ≤ 255)
def cnt (c : Int) : List Int → Int
  | [] => 0
  | x :: l => (if x = c then 1 else 0) + cnt c l
def idx (c : Int) : List Int → Int
  | [] => -1
  | x :: l => if x = c then 0 else if idx c l = -1 then -1 else idx c l + 1
theorem u8_eq {x c : Int} (hx : 0 ≤ x ∧ x ≤ 255) (hc : 0 ≤ c ∧ c ≤ 255) : (UInt8.ofNat x.toNat == c.toNat.toUInt8) = decide (x = c) := by
  rw [Bool.eq_iff_iff, beq_iff_eq, decide_eq_true_iff]
  constructor
  · intro h
    have h1 := congrArg UInt8.toNat h
    rw [show c.toNat.toUInt8 = UInt8.ofNat c.toNat from rfl, UInt8.toNat_ofNat', UInt8.toNat_ofNat'] at h1
    omega
  · rintro rfl
    rfl
theorem u8s_cons {x : Int} {l : List Int} (h : u8s (x :: l) = true) : (0 ≤ x ∧ x ≤ 255) ∧ u8s l = true := by
  unfold u8s at h ⊢
  rw [List.all_cons, Bool.and_eq_true, decide_eq_true_iff] at h
  exact h
theorem cnt_eq {c : Int} (hc : 0 ≤ c ∧ c ≤ 255) : ∀ l : List Int, u8s l = true → ((Lib.countByte (Lib.bytesOf l) c.toNat.toUInt8 : Nat) : Int) = cnt c l := by
  intro l
  induction l with
  | nil => intro _; rfl
  | cons x l ih =>
    intro h
    obtain ⟨hx, hl⟩ := u8s_cons h
    have h1 := ih hl
    have h2 := u8_eq hx hc
    unfold Lib.countByte Lib.bytesOf at h1 ⊢
    rw [List.map_cons, List.count_cons, h2]
    unfold cnt
    by_cases he : x = c
    · simp only [he, decide_true, if_true]
      omega
    · simp only [he, decide_false, if_false]
      simp
      omega
theorem idx_eq {c : Int} (hc : 0 ≤ c ∧ c ≤ 255) : ∀ l : List Int, u8s l = true → Lib.indexByte (Lib.bytesOf l) c.toNat.toUInt8 = idx c l := by
  intro l
  induction l with
  | nil => intro _; rfl
  | cons x l ih =>
    intro h
    obtain ⟨hx, hl⟩ := u8s_cons h
    have h1 := ih hl
    have h2 := u8_eq hx hc
    unfold Lib.bytesOf at h1 ⊢
    rw [List.map_cons]
    unfold Lib.indexByte idx
    rw [h2, h1]
    by_cases he : x = c
    · simp [he]
    · simp [he]
theorem reads_u8 {w : World} {A : Option Addr} {l : List Int} (h : Kd.C (Kd.int .u8) w A l.length l) : l.length ≤ 9223372036854775807 ∧ (0 < l.length → ∃ ad, A = some ad ∧ ∀ j, j < l.length → w.cell? (ad.add j) = some (.int .u8 (l.getD j 0))) :=
  (Kd.reads_of_C (d := (0 : Int)) h).2
theorem read0_u8 {w : World} {A : Option Addr} {v : Int} (h : Kd.C (Kd.int .u8) w A 1 [v]) : ∃ ad, A = some ad ∧ w.cell? (ad.add 0) = some (.int .u8 v) := by
  obtain ⟨ad, e, hc⟩ := (reads_u8 (l := [v]) h).2 (by simp)
  exact ⟨ad, e, hc 0 (by simp)⟩

open Kd
section
variable {P : Program} {ops : Array Oper} {rest : List Oper} {o : Oper} {a : Act} {Q : Exit → Act → World → Prop}
/-- Bytes of a constant text, behind the conversion that marks their block: a row that is only read. -/
theorem Kd.V_conv {W : World} (e : Nat) (hgd : o.guard = none) {N : Tmp} (_hd : o.dst = some N) (xs : List Int) {cs : Array Value} (hcs : cs.toList = xs.map (Value.int .u8))
    (hrun : (execOp a.eval o).run P (W.alloc (.cells cs e)) = .ok (.value (.slice (some ⟨W.heap.size, 0, none⟩) xs.length xs.length)) (W.alloc (.cells cs e (cs.size, cs.size + 1)))) (hm : xs.length ≤ 9223372036854775807)
    (h : ∀ v1 w1, (Kd.int .u8).V e w1 W.heap.size (fun k => W.heap.size ≤ k) v1 xs → Below W.heap.size W w1 → wpList P ops Q rest (a.put o.dst v1) w1) : wpList P ops Q (o :: rest) a (W.alloc (.cells cs e)) := by
  refine event_run hgd hrun (h _ _ (V_mk (Nat.le_refl _) (fun W' hW => ?_)) (below_alloc (Below.refl _ _) _))
  have hblk : W'.heap[W.heap.size]? = some (.cells cs e (cs.size, cs.size + 1)) := by
    rw [hW _ (Nat.le_refl _) (by show W.heap.size < (W.heap.push _).size; simp)]
    show (W.heap.push _)[W.heap.size]? = _
    simp
  refine C_of_reads (d := (0 : Int)) (h1 := fun _ => rfl) ⟨rfl, hm, fun _ => ⟨_, rfl, fun j hj => ?_⟩⟩
  rw [add_plain]
  unfold World.cell?
  simp only [hblk]
  have h2 : cs[j]? = (cs.toList)[j]? := by simp
  rw [h2, hcs, List.getElem?_map, List.getElem?_eq_getElem hj, List.getD_eq_getElem?_getD, List.getElem?_eq_getElem hj]
  rfl
end

end Go.Proofs.Ytofkcdnkbjpmmaa.X
