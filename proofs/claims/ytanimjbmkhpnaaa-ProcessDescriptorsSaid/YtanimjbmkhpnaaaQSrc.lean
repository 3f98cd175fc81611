/- The generator of inputs: what its numbers are. -/
import Derived.Test.YtanimjbmkhpnaaaY17
import Derived.Test.YtanimjbmkhpnaaaY13
namespace Go.Proofs.Ytanimjbmkhpnaaa.Gx
open Go.Gx Go.RowKit
theorem wrap_id {n : Int} (h1 : -9223372036854775808 ≤ n) (h2 : n < 9223372036854775808) : IntKind.wrap .i64 n = n := by
  unfold IntKind.wrap
  change (if (true && decide (n % 18446744073709551616 ≥ 9223372036854775808)) = true then n % 18446744073709551616 - 18446744073709551616 else n % 18446744073709551616) = n
  rw [Bool.true_and]
  by_cases h : n % 18446744073709551616 ≥ 9223372036854775808
  · rw [if_pos (decide_eq_true h)]; omega
  · rw [if_neg (by simpa using h)]; omega
theorem ck_true {α : Type} {c : Prop} [Decidable c] {x : Option α} (h : c) : ck c x = x := by simp [ck, h]
theorem at_lt {α : Type} {xs : List α} {i : Int} (h0 : 0 ≤ i) (h : i < xs.length) : ∃ u, at_ xs i = some u ∧ u ∈ xs := by
  have : i.toNat < xs.length := by omega
  exact ⟨xs[i.toNat], by simp [at_, h0, this], List.getElem_mem _⟩
theorem tmod_lo (u n : Int) (h : 0 < n) : -n < u.tmod n := by
  have := Int.emod_nonneg u (show n ≠ 0 by omega)
  have := Int.emod_lt_of_pos u h
  rw [Int.tmod_eq_emod]
  split <;> omega
theorem tmod_hi (u n : Int) (h : 0 < n) : u.tmod n < n := Int.tmod_lt_of_pos u h
/-- N: some number below n; one more was drawn. -/
theorem N_ok (s : kauditmake_Src) (n : Int) (hn : 1 ≤ n) (hn' : n < 4611686018427387904) (h0 : 0 ≤ s.at_) (h1 : s.at_ < 4611686018427387904) :
    ∃ r, f_kauditmake_Src_N s n = some (r, s.at_ + 1) ∧ 0 ≤ r ∧ r < n := by
  unfold f_kauditmake_Src_N
  have e1 : IntKind.wrap .i64 (s.at_ + 1) = s.at_ + 1 := wrap_id (by omega) (by omega)
  have e2 : IntKind.wrap .i64 (s.at_ + 1 - 1) = s.at_ := by rw [wrap_id] <;> omega
  have hn0 : ¬ n < 1 := by omega
  have hnz : n ≠ 0 := by omega
  simp only [hn0, decide_false, Bool.false_eq_true, if_false, e1, e2]
  have key : ∀ x : Int, ∃ r, f_kauditmake_Src_N_j1 s n x = some (r, s.at_ + 1) ∧ 0 ≤ r ∧ r < n := by
    intro x
    unfold f_kauditmake_Src_N_j1
    rw [ck_true hnz, e1]
    have a := tmod_lo x n (by omega)
    have b := tmod_hi x n (by omega)
    by_cases hx : x.tmod n < 0
    · refine ⟨x.tmod n + n, ?_, by omega, by omega⟩
      rw [wrap_id (by omega) (by omega)]
      simp [hx]
    · exact ⟨x.tmod n, by simp [hx], by omega, b⟩
  split
  · rename_i h
    have h' : s.at_ + 1 ≤ (s.l.length : Int) := by simpa using h
    obtain ⟨u, hu, _⟩ := at_lt (xs := s.l) h0 (by omega)
    rw [hu]
    exact key u
  · exact key _
theorem Pick_ok (s : kauditmake_Src) (l : List Int) (hl : l ≠ []) (hl' : l.length < 4611686018427387904) (h0 : 0 ≤ s.at_) (h1 : s.at_ < 4611686018427387904) :
    ∃ u, f_kauditmake_Src_Pick s l = some (u, s.at_ + 1) ∧ u ∈ l := by
  have := List.length_pos_iff.2 hl
  obtain ⟨r, hr, r0, r1⟩ := N_ok s l.length (by omega) (by omega) h0 h1
  obtain ⟨u, hu, hm⟩ := at_lt r0 r1
  exact ⟨u, by unfold f_kauditmake_Src_Pick; simp only [hr, Option.bind_some, hu], hm⟩
end Go.Proofs.Ytanimjbmkhpnaaa.Gx
