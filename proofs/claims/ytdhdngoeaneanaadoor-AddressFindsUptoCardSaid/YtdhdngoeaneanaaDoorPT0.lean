/-
  Patterns, by hand: sets of bytes in memory.
-/
import Derived.Test.YtdhdngoeaneanaaDoorProg
import Derived.Test.YtdhdngoeaneanaaDoorWALL
import Derived.WalkKit
import Derived.BigCall
import Derived.BigGuard
import Derived.Deep.Draws
import Derived.Deep.QuietTactic
import Derived.BigQuiet
namespace Go.Proofs.YtdhdngoeaneanaaDoor.PT
open Go.RowKit Go.Proofs.YtdhdngoeaneanaaDoorW.PrintWords
/-- The cells of a set of bytes. -/
def bset (S : Nat → Bool) : Array Value := ((List.range 256).map fun i => Value.bool (S i)).toArray
theorem bset_size (S : Nat → Bool) : (bset S).size = 256 := by simp [bset]
theorem bset_get {S : Nat → Bool} {i : Nat} (_h : i < 256) : (bset S)[i]? = some (.bool (S i)) := by
  unfold bset
  simp [_h]
theorem bset_set (S : Nat → Bool) (i : Nat) (b : Bool) : (bset S).setIfInBounds i (.bool b) = bset (fun j => if j = i then b else S j) := by
  apply Array.ext
  · simp [bset]
  · intro j h1 h2
    have h1' : j < (bset S).size := by simpa using h1
    have hj : j < 256 := by simpa [bset] using h2
    rw [Array.getElem_setIfInBounds h1']
    by_cases e : i = j
    · subst e; simp [bset]
    · rw [if_neg e]
      have e2 : ¬ j = i := fun h => e h.symm
      simp [bset, e2]
theorem zset (w : World) : (zeroValue 120).run Tryd.prog w = .ok (.agg (bset fun _ => false)) w := by kernel_rfl
set_option maxHeartbeats 1000000 in
set_option maxRecDepth 100000 in
theorem one_calls (b : Int) (hb : 0 ≤ b ∧ b ≤ 255) (w : World) :
    Calls Tryd.prog 66 #[.int .u8 b] w fun e w' => e = .returned (.pointer (some ⟨w.heap.size, 0, none⟩)) ∧ w' = w.alloc (.cells (bset fun j => j == b.toNat) 120) := by
  go_enter Tryd.func66, Tryd.ntmps66
  have z := zset
  have hg := bset_get (S := fun _ => false) (i := b.toNat) (by omega)
  have hs := bset_set (fun _ => false) b.toNat true
  have HS := Aside0.mk hs
  clear hs
  go_wp2
  go_ret
  refine ⟨rfl, ?_⟩
  rw [HS.out]
  exact congrArg (fun S => w.alloc (.cells (bset S) 120)) (funext fun j => by by_cases e : j = b.toNat <;> simp [e])
set_option maxHeartbeats 1000000 in
set_option maxRecDepth 100000 in
theorem every_calls (w : World) :
    Calls Tryd.prog 62 #[] w fun e w' => e = .returned (.pointer (some ⟨w.heap.size, 0, none⟩)) ∧ w' = w.alloc (.cells (bset fun j => decide (j < 256)) 120) := by
  go_enter Tryd.func62, Tryd.ntmps62
  have z := zset
  go_wp2
  clear z
  go_loopw [3] (fun i wr => ∃ k : Nat, k ≤ 256 ∧ i = .int .i64 k ∧ Aside0 (wr = w.alloc (.cells (bset fun j => decide (j < k)) 120))) (fun i _ => 256 - (intOf i).toNat)
  case atStart => exact ⟨0, by omega, rfl, ⟨by congr 2⟩⟩
  case round =>
    obtain ⟨k, hk, rfl, hw⟩ := hrel
    have hw0 := hw.out
    subst hw0
    clear hw
    by_cases hlt : k < 256
    · have hg := bset_get (S := fun j => decide (j < k)) (i := k) hlt
      have HS := Aside0.mk (bset_set (fun j => decide (j < k)) k true)
      go_wp2
      go_roundw
      case rel =>
        refine ⟨k + 1, by omega, by go_num, ⟨?_⟩⟩
        rw [HS.out]
        exact congrArg (fun S => w.alloc (.cells (bset S) 120)) (funext fun j => by by_cases e : j = k <;> simp [e]; omega)
      case measure => simp [intOf]; omega
    · have he : k = 256 := by omega
      subst he
      go_wp2
      go_ret
      exact ⟨rfl, rfl⟩
end Go.Proofs.YtdhdngoeaneanaaDoor.PT
