/-
  Patterns, by hand: what All tells, plainly; pairs in memory.
-/
import Derived.Test.YtlbijhlbllolhaaPT13
namespace Go.Proofs.Ytlbijhlbllolhaa.PT
open Go.RowKit Go.Proofs.YtlbijhlbllolhaaW.PrintWords Go.Proofs.YtlbijhlbllolhaaW.PrintMore
set_option linter.unusedVariables false
/-- '==' of two whole numbers, of two pairs. -/
theorem eqi (d : Nat) (a c : Int) (w : World) : (Op.equalIn (d + 1) 3 (.int .i64 a) (.int .i64 c)).run Try.prog w = .ok (a == c) w := by
  simp only [Op.equalIn, Sem.run_bind, run_underlying Try.underlying3, Result.andThen_ok]
  simp
theorem eq2 (a b c e : Int) (w : World) : (Op.equalIn 10000 41 (.agg #[.int .i64 a, .int .i64 b]) (.agg #[.int .i64 c, .int .i64 e])).run Try.prog w = .ok ((a == c) && (b == e)) w := by
  rw [show (10000 : Nat) = 9999 + 1 from rfl, Op.equalIn]
  simp only [Sem.run_bind, run_underlying Try.underlying41, Result.andThen_ok]
  have hs : (sizeOf 3).run Try.prog w = .ok 1 w := by kernel_rfl
  have p0 : ∀ x y : Int, (part 3 #[.int .i64 x, .int .i64 y] 0).run Try.prog w = .ok (.int .i64 x) w := fun x y => by kernel_rfl
  have p1 : ∀ x y : Int, (part 3 #[.int .i64 x, .int .i64 y] 1).run Try.prog w = .ok (.int .i64 y) w := fun x y => by kernel_rfl
  simp only [hs, Result.andThen_ok]
  rw [Std.Legacy.Range.forIn_eq_forIn_range']
  simp only [Std.Legacy.Range.size, List.range'_succ, List.range'_zero, List.forIn_cons, List.forIn_nil, Nat.sub_zero, Nat.div_one, Nat.reduceAdd, Nat.reduceSub, Nat.mul_one, Sem.run_bind, p0, Result.andThen_ok, eqi 9998 a c]
  by_cases h1 : a = c <;> by_cases h2 : b = e <;> simp [h1, h2, p1, eqi 9998]
theorem kP_at {w : World} {A : Option Addr} {n : Nat} {xs : List (Int × Int)} (h : kP.C w A n xs) {i : Nat} (hi : i < n) : ∃ ad, A = some ad ∧ w.cell? (ad.add (i * 2)) = some (.int .i64 (xs.getD i (0, 0)).1) ∧ w.cell? ⟨(ad.add (i * 2)).block, (ad.add (i * 2)).off + 1, none⟩ = some (.int .i64 (xs.getD i (0, 0)).2) := by
  obtain ⟨ad, c, rfl, hc, hk, hcc⟩ := Kd.C_get h (0, 0) (i : Int) (by omega) (by omega)
  obtain ⟨c0, c1, rfl, e0, e1⟩ := hk
  rw [show c0 = [.int .i64 (xs.getD (i : Int).toNat (0, 0)).1] from e0, show c1 = [.int .i64 (xs.getD (i : Int).toNat (0, 0)).2] from e1] at hcc
  rw [Int.toNat_natCast] at hcc
  refine ⟨ad, rfl, hcc 0 _ rfl, ?_⟩
  rw [← add_field _ _ 1 (by omega)]
  exact hcc 1 _ rfl
/-- All, a step. -/
theorem all_step {line : List Int} {pl : List PTh} {d k : Nat} (hk : k ≤ line.length + 1) :
    (allE (endsV line pl) (d + 1) k = [] ∧ findV line pl k = (0, 0, false)) ∨
    ∃ a b : Nat, allE (endsV line pl) (d + 1) k = ((a : Int), (b : Int)) :: allE (endsV line pl) d ((max b (a + 1) : Nat) : Int) ∧ findV line pl k = ((a : Int), (b : Int), true) ∧ k ≤ a ∧ a ≤ b ∧ b ≤ line.length := by
  have hf := endsV_fine line pl
  have hl := endsV_len line pl
  rw [allE_step]
  unfold findV
  generalize endsV line pl = E at hf hl ⊢
  have hs := first_spec E (E.length + 2) k (by omega) (by omega)
  by_cases h : (k : Int) > line.length
  · rw [if_pos (show (k : Int) < 0 ∨ (k : Int) > line.length from .inr h)]
    generalize firstV E (E.length + 2) (k : Int) = r at hs ⊢
    obtain ⟨r1, r2⟩ := r
    cases r2 with
    | false => exact .inl ⟨if_neg (by simp), rfl⟩
    | true =>
      have := hs.1 rfl
      simp only at this
      omega
  · rw [if_neg (show ¬ ((k : Int) < 0 ∨ (k : Int) > line.length) by omega)]
    rw [show line.length + 1 + 2 = E.length + 2 from by omega]
    generalize firstV E (E.length + 2) (k : Int) = r at hs ⊢
    obtain ⟨r1, r2⟩ := r
    cases r2 with
    | false => exact .inl ⟨if_neg (by simp), if_neg (by simp)⟩
    | true =>
      obtain ⟨h1, h2, h3, h4⟩ := hs.1 rfl
      simp only at h1 h2 h3 h4 ⊢
      obtain ⟨a, rfl⟩ : ∃ a : Nat, r1 = (a : Int) := ⟨r1.toNat, by omega⟩
      have h5 := hf.2 a (by omega)
      obtain ⟨b, hb⟩ : ∃ b : Nat, rd E (a : Int) = (b : Int) := ⟨(rd E (a : Int)).toNat, by omega⟩
      rw [hb] at h5 ⊢
      refine .inr ⟨a, b, ?_, if_pos trivial, by omega, by omega, by omega⟩
      rw [if_pos trivial, show ((max b (a + 1) : Nat) : Int) = max (b : Int) ((a : Int) + 1) from by omega]
theorem all_len {line : List Int} {pl : List PTh} : ∀ (d k : Nat), k ≤ line.length + 1 → (allE (endsV line pl) d k).length + k ≤ line.length + 1 := by
  intro d
  induction d with
  | zero => intro k hk; simpa [allE] using hk
  | succ d ih =>
    intro k hk
    rcases all_step (line := line) (pl := pl) (d := d) hk with ⟨h, _⟩ | ⟨a, b, h, _, h1, h2, h3⟩
    · rw [h]; simpa using hk
    · rw [h]
      have h4 := ih (max b (a + 1)) (by omega)
      simp only [List.length_cons]
      omega
/-- What stands at place i of All's answer, and what Find tells there. -/
theorem all_at {line : List Int} {pl : List PTh} {d k i : Nat} {l : List (Int × Int)} (h : l.drop i = allE (endsV line pl) d k) (hk : k ≤ line.length + 1) (hd : line.length + 1 < k + d) (hi : i < l.length) :
    ∃ a b : Nat, l.getD i (0, 0) = ((a : Int), (b : Int)) ∧ findV line pl k = ((a : Int), (b : Int), true) ∧ k ≤ a ∧ a ≤ b ∧ b ≤ line.length ∧ l.drop (i + 1) = allE (endsV line pl) (d - 1) ((max b (a + 1) : Nat) : Int) := by
  obtain ⟨d, rfl⟩ : ∃ d', d = d' + 1 := ⟨d - 1, by omega⟩
  rw [List.drop_eq_getElem_cons hi] at h
  rcases all_step (line := line) (pl := pl) (d := d) hk with ⟨e, _⟩ | ⟨a, b, e, e2, h1, h2, h3⟩
  · rw [e] at h; cases h
  · rw [e] at h
    injection h with h4 h5
    refine ⟨a, b, ?_, e2, h1, h2, h3, h5⟩
    rw [List.getD_eq_getElem?_getD, List.getElem?_eq_getElem hi]
    exact h4
theorem all_end {line : List Int} {pl : List PTh} {d k i : Nat} {l : List (Int × Int)} (h : l.drop i = allE (endsV line pl) d k) (hk : k ≤ line.length + 1) (hd : line.length + 1 < k + d) (hi : l.length ≤ i) : findV line pl k = (0, 0, false) := by
  obtain ⟨d, rfl⟩ : ∃ d', d = d' + 1 := ⟨d - 1, by omega⟩
  rw [List.drop_eq_nil_of_le hi] at h
  rcases all_step (line := line) (pl := pl) (d := d) hk with ⟨_, e⟩ | ⟨a, b, e, e2, h1, h2, h3⟩
  · exact e
  · rw [e] at h; cases h
end Go.Proofs.Ytlbijhlbllolhaa.PT
