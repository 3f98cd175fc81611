/- Clean: short texts. -/
import Derived.Test.YtanimjbmkhpnaaaX20
import Derived.Test.YtanimjbmkhpnaaaPTable
namespace Go.Proofs.Ytanimjbmkhpnaaa.Gx
open Go.Gx Go.RowKit
theorem Word_ok (s : kauditmake_Src) (l : List ByteArray) (hl : l ≠ []) (hl' : l.length < 4611686018427387904) (h0 : 0 ≤ s.at_) (h1 : s.at_ < 4611686018427387904) :
    ∃ u, f_kauditmake_Src_Word s l = some (u, s.at_ + 1) ∧ u ∈ l := by
  have := List.length_pos_iff.2 hl
  obtain ⟨r, hr, r0, r1⟩ := N_ok s l.length (by omega) (by omega) h0 h1
  obtain ⟨u, hu, hm⟩ := at_lt r0 r1
  exact ⟨u, by unfold f_kauditmake_Src_Word; simp only [hr, Option.bind_some, hu], hm⟩
theorem clean_loop (a0 : kauditmake_Src) : ∀ (k : Nat) (x : Nat) (str : ByteArray) (c : Int), x ≤ 3 → x + 1 ≤ k → str.size + 2 * x ≤ 100 → 0 ≤ c → c + x < 1000000000 →
    ∃ str', f_kauditmake_Src_Clean_l1 a0 k str x c = some (str', c + x) ∧ str'.size ≤ 100 := by
  intro k
  induction k with
  | zero => intro x str c _ h; omega
  | succ k ih =>
    intro x str c hx hk hsz h0 h1
    rw [f_kauditmake_Src_Clean_l1]
    by_cases h : x = 0
    · subst h
      exact ⟨str, ite_f (by simp) (by simp), by omega⟩
    · obtain ⟨u, hu, hm⟩ := Word_ok ⟨a0.l, c⟩ [⟨#[97]⟩, ⟨#[98]⟩, ⟨#[99]⟩, ⟨#[108]⟩, ⟨#[109]⟩] (by simp) (by simp) h0 (by show c < _; omega)
      have hs : u.size = 1 := by
        simp only [List.mem_cons, List.not_mem_nil, or_false] at hm
        rcases hm with rfl | rfl | rfl | rfl | rfl <;> rfl
      have hs2 : ((⟨#[47]⟩ : ByteArray) ++ u).size = 2 := by rw [ByteArray.size_append, hs]; rfl
      have hs1 : (⟨#[47]⟩ : ByteArray).size = 1 := rfl
      obtain ⟨str', e, hle⟩ := ih (x - 1) (str ++ ((⟨#[47]⟩ : ByteArray) ++ u)) (c + 1) (by omega) (by omega) (by rw [ByteArray.size_append, hs2]; omega) (by omega) (by omega)
      refine ⟨str', ?_, hle⟩
      refine ite_t (by simp only [decide_eq_true_eq]; omega) (bind_of hu (ck_of ?_ (ck_of ?_ ?_)))
      · rw [hs, hs1]; unfold maxStr; omega
      · rw [hs2]; unfold maxStr; omega
      · have w : IntKind.wrap .i64 ((x : Int) - 1) = ((x - 1 : Nat) : Int) := by rw [wrap_id (by omega) (by omega)]; omega
        rw [w, e]
        congr 2
        omega
theorem Clean_ok (s : kauditmake_Src) (h0 : 0 ≤ s.at_) (h1 : s.at_ < 900000000) : ∃ str c, f_kauditmake_Src_Clean s = some (str, c) ∧ s.at_ ≤ c ∧ c ≤ s.at_ + 4 ∧ str.size ≤ 100 := by
  unfold f_kauditmake_Src_Clean
  obtain ⟨u, hu, hm⟩ := Pick_ok s [1, 1, 2, 2, 3] (by simp) (by simp) h0 (by omega)
  have hu' : 1 ≤ u ∧ u ≤ 3 := by
    simp only [List.mem_cons, List.not_mem_nil, or_false] at hm
    omega
  obtain ⟨n, rfl⟩ : ∃ n : Nat, u = n := ⟨u.toNat, by omega⟩
  obtain ⟨str', e, hle⟩ := clean_loop s (((n : Int) - 0).toNat + 1) n ⟨#[]⟩ (s.at_ + 1) (by omega) (by omega) (by show 0 + 2 * n ≤ 100; omega) (by omega) (by omega)
  exact ⟨str', s.at_ + 1 + n, bind_of hu (bind_of e rfl), by omega, by omega, hle⟩
end Go.Proofs.Ytanimjbmkhpnaaa.Gx
