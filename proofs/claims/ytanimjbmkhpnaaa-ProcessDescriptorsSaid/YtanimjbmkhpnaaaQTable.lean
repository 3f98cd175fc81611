/- Tables of processes: where a process is, copies. -/
import Derived.Test.YtanimjbmkhpnaaaY37
import Derived.Test.YtanimjbmkhpnaaaY54
import Derived.Test.YtanimjbmkhpnaaaY14
import Derived.Test.YtanimjbmkhpnaaaQSrc
namespace Go.Proofs.Ytanimjbmkhpnaaa.Gx
open Go.Gx Go.RowKit
theorem bind_of {α β : Type} {x : Option α} {f : α → Option β} {y : α} {z : Option β} (h : x = some y) (h' : f y = z) : x.bind f = z := by rw [h]; exact h'
theorem ck_of {α : Type} {c : Prop} [Decidable c] {x z : Option α} (h : c) (h' : x = z) : ck c x = z := by rw [ck_true h]; exact h'
theorem at_nat {α : Type} {xs : List α} {n : Nat} {u : α} (h : xs[n]? = some u) : at_ xs (n : Int) = some u := by simp [at_, h]
theorem ite_t {α : Type} {b : Bool} {x y z : α} (h : b = true) (h' : x = z) : (if b = true then x else y) = z := by rw [if_pos h]; exact h'
theorem ite_f {α : Type} {b : Bool} {x y z : α} (h : b = false) (h' : y = z) : (if b = true then x else y) = z := by rw [if_neg (by rw [h]; simp)]; exact h'
theorem wrap_u64 {n : Int} (h1 : 0 ≤ n) (h2 : n < 18446744073709551616) : IntKind.wrap .u64 n = n := by
  unfold IntKind.wrap
  change (if (false && decide (n % 18446744073709551616 ≥ 9223372036854775808)) = true then n % 18446744073709551616 - 18446744073709551616 else n % 18446744073709551616) = n
  rw [Bool.false_and, if_neg (by simp)]; omega
theorem half {i j : Int} (h0 : 0 ≤ i) (h1 : 0 ≤ j) (hi : i < 1000000000) (hj : j < 1000000000) : IntKind.wrap .i64 (((IntKind.wrap .u64 (IntKind.wrap .i64 (i + j))) : Int).fdiv (2 ^ (min (1 : Int).toNat (IntKind.bits .u64)))) = (i + j) / 2 := by
  rw [wrap_id (n := i + j) (by omega) (by omega), wrap_u64 (by omega) (by omega)]
  have e : (2 : Int) ^ (min (1 : Int).toNat (IntKind.bits .u64)) = 2 := rfl
  rw [e, Int.fdiv_eq_ediv_of_nonneg _ (by omega)]
  exact wrap_id (by omega) (by omega)
theorem cmp_ok (a b : Int) : f_cmp_Compare_int a b = some (if a < b then -1 else if b < a then 1 else 0) := by
  unfold f_cmp_Compare_int f_cmp_isNaN_int
  have e : ∀ x : Int, (x != x) = false := fun x => by simp
  simp only [Option.bind_some, e, Bool.false_eq_true, if_false, decide_eq_true_eq, gt_iff_lt]
  split <;> first | rfl | (split <;> rfl)
theorem placed (p : api_Process) (a : Int) : f_process_place_1 p a = some (if p.PID < a then -1 else if a < p.PID then 1 else 0) := by
  unfold f_process_place_1
  exact bind_of (cmp_ok _ _) rfl
/-- The numbers rise. -/
def srt (l : List api_Process) : Prop := ∀ (i j : Nat) (p q : api_Process), i < j → l[i]? = some p → l[j]? = some q → p.PID < q.PID
theorem place_loop (t : api_Table) (pid : Int) (hs : srt t.Processes) (hl : t.Processes.length < 1000000000) : ∀ (k : Nat) (i j : Nat), i ≤ j → j ≤ t.Processes.length → j - i + 1 ≤ k →
    (∀ m p, m < i → t.Processes[m]? = some p → p.PID < pid) → (∀ m p, j ≤ m → t.Processes[m]? = some p → pid ≤ p.PID) →
    ∃ n : Nat, f_process_place_l1 t pid k i j = f_process_place_j1 t pid (n : Int) ∧ n ≤ t.Processes.length ∧ (∀ m p, m < n → t.Processes[m]? = some p → p.PID < pid) ∧ (∀ m p, n ≤ m → t.Processes[m]? = some p → pid ≤ p.PID) := by
  intro k
  induction k with
  | zero => intro i j _ _ h; omega
  | succ k ih =>
    intro i j hij hj hk hlo hhi
    rw [f_process_place_l1]
    by_cases h : i < j
    · rw [half (by omega) (by omega) (by omega) (by omega)]
      have hm : ((i : Int) + j) / 2 = ((i + j) / 2 : Nat) := by omega
      rw [hm]
      have hmj : (i + j) / 2 < j := by omega
      have him : i ≤ (i + j) / 2 := by omega
      generalize (i + j) / 2 = m at hmj him
      have hm' : m < t.Processes.length := by omega
      have hg : t.Processes[m]? = some t.Processes[m] := List.getElem?_eq_getElem hm'
      generalize t.Processes[m] = u at hg
      have w : IntKind.wrap .i64 ((m : Int) + 1) = ((m + 1 : Nat) : Int) := by rw [wrap_id (by omega) (by omega)]; omega
      rw [if_pos (by simpa using h), at_nat hg]
      simp only [Option.bind_some, placed, w]
      by_cases hu : u.PID < pid
      · rw [if_pos hu]
        rw [if_pos (by decide)]
        refine ih (m + 1) j (by omega) hj (by omega) (fun a p ha hp => ?_) hhi
        by_cases ham : a = m
        · subst ham; rw [hg] at hp; obtain rfl := Option.some.inj hp; exact hu
        · exact Int.lt_trans (hs a m p u (by omega) hp hg) hu
      · rw [if_neg hu]
        have hneg : ¬ decide ((if pid < u.PID then (1 : Int) else 0) < 0) = true := by split <;> simp
        rw [if_neg hneg]
        refine ih i m him (by omega) (by omega) hlo (fun a p ha hp => ?_)
        by_cases ham : a = m
        · subst ham; rw [hg] at hp; obtain rfl := Option.some.inj hp; omega
        · have := hs m a u p (by omega) hg hp; omega
    · rw [if_neg (by simpa using h)]
      obtain rfl : i = j := by omega
      exact ⟨i, rfl, hj, hlo, hhi⟩
theorem place_ok (t : api_Table) (pid : Int) (hs : srt t.Processes) (hl : t.Processes.length < 1000000000) :
    ∃ n : Nat, n ≤ t.Processes.length ∧ (∀ m p, m < n → t.Processes[m]? = some p → p.PID < pid) ∧ (∀ m p, n ≤ m → t.Processes[m]? = some p → pid ≤ p.PID) ∧
      f_process_place t pid = some ((n : Int), match t.Processes[n]? with | some p => p.PID == pid | none => false) := by
  obtain ⟨n, h1, h2, h3, h4⟩ := place_loop t pid hs hl (t.Processes.length + 1) 0 t.Processes.length (by omega) (by omega) (by omega) (fun m p h => by omega) (fun m p h hp => by
    rw [List.getElem?_eq_none (by omega)] at hp; cases hp)
  refine ⟨n, h2, h3, h4, ?_⟩
  unfold f_process_place
  have e : ((((t.Processes.length : Int) : Int) - 0).toNat + 1) = t.Processes.length + 1 := by omega
  rw [e]
  refine h1.trans ?_
  unfold f_process_place_j1 f_process_place_j2
  rcases Nat.lt_or_ge n t.Processes.length with h | h
  · refine ite_t (by simpa using h) ?_
    have hg : t.Processes[n]? = some t.Processes[n] := List.getElem?_eq_getElem h
    generalize t.Processes[n] = u at hg
    refine bind_of (at_nat hg) (bind_of (placed _ _) ?_)
    rw [hg]
    have := h4 n u (by omega) hg
    have hlt : ¬ u.PID < pid := by omega
    rw [if_neg hlt]
    by_cases he : u.PID = pid
    · have : ¬ pid < u.PID := by omega
      simp [he]
    · have : pid < u.PID := by omega
      simp [this, he]
  · refine ite_f (by simpa using h) ?_
    rw [List.getElem?_eq_none h]
theorem place_at (t : api_Table) (pid : Int) (hs : srt t.Processes) (hl : t.Processes.length < 1000000000) {n : Nat} {p : api_Process} (hp : t.Processes[n]? = some p) (he : p.PID = pid) : f_process_place t pid = some ((n : Int), true) := by
  obtain ⟨m, _, h3, h4, h5⟩ := place_ok t pid hs hl
  have : m = n := by
    rcases Nat.lt_trichotomy m n with h | h | h
    · have hm : m < t.Processes.length := by
        rcases Nat.lt_or_ge n t.Processes.length with h' | h'
        · omega
        · rw [List.getElem?_eq_none h'] at hp; cases hp
      have hg : t.Processes[m]? = some t.Processes[m] := List.getElem?_eq_getElem hm
      have a := h4 m _ (Nat.le_refl _) hg
      have b := hs m n _ _ h hg hp
      omega
    · exact h
    · have := h3 n p h hp; omega
  subst this
  rw [h5, hp]
  simp [he]
theorem place_none (t : api_Table) (pid : Int) (hs : srt t.Processes) (hl : t.Processes.length < 1000000000) (hn : ∀ p ∈ t.Processes, p.PID ≠ pid) : ∃ n : Int, f_process_place t pid = some (n, false) := by
  obtain ⟨m, _, h3, h4, h5⟩ := place_ok t pid hs hl
  refine ⟨m, ?_⟩
  rw [h5]
  cases hg : t.Processes[m]? with
  | none => rfl
  | some p => simp [hn p (List.mem_of_getElem? hg)]
theorem clone_ok (l : List api_Descriptor) (h : l.length ≤ 1000) : f_own_List_api_Descriptor l = some l := by
  unfold f_own_List_api_Descriptor
  by_cases h0 : l = []
  · subst h0; rfl
  · refine ite_f ?_ ?_
    · have := List.length_pos_iff.2 h0
      simp only [beq_eq_false_iff_ne]; omega
    · refine bind_of (y := l) ?_ rfl
      unfold f_slices_Clone_api_Descriptor_api_Descriptor
      refine ck_of ?_ rfl
      unfold fits
      have : l.length * 32 ≤ 140737488355328 := by omega
      simpa using this
theorem process_ok (p : api_Process) (h : p.Open.length ≤ 1000) : f_own_Process p = some p := by
  unfold f_own_Process
  exact bind_of (clone_ok _ h) rfl
/-- Small enough to be copied. -/
def small (l : List api_Process) : Prop := l.length ≤ 1000 ∧ ∀ p ∈ l, p.Open.length ≤ 1000
theorem table_loop (t : api_Table) (hm : small t.Processes) : ∀ (k i : Nat) (xs : List api_Process), i ≤ t.Processes.length → t.Processes.length - i + 1 ≤ k → xs.length = t.Processes.length → (∀ j, j < i → xs[j]? = t.Processes[j]?) →
    f_own_Table_l1 t k xs i = some t := by
  intro k
  induction k with
  | zero => intro i xs _ h; omega
  | succ k ih =>
    intro i xs hi hk hx hj
    rw [f_own_Table_l1]
    by_cases h : i < t.Processes.length
    · have hg : t.Processes[i]? = some t.Processes[i] := List.getElem?_eq_getElem h
      have hu := List.getElem_mem h
      generalize t.Processes[i] = u at hg hu
      have hgx : xs[i]? = some xs[i] := List.getElem?_eq_getElem (by omega)
      generalize xs[i] = v at hgx
      have hl := hm.1
      refine ite_t (by simpa using h) (bind_of (at_nat hg) (bind_of (process_ok u (hm.2 u hu)) (bind_of (at_nat hgx) ?_)))
      have w : IntKind.wrap .i64 ((i : Int) + 1) = ((i + 1 : Nat) : Int) := by rw [wrap_id (by omega) (by omega)]; omega
      rw [w]
      refine ih (i + 1) _ (by omega) (by omega) (by simpa using hx) (fun j hj' => ?_)
      by_cases e : j = i
      · subst e
        rw [hg]
        show (xs.set j u)[j]? = some u
        rw [List.getElem?_set_self (by omega)]
      · have : (i : Int).toNat ≠ j := by omega
        rw [List.getElem?_set_ne this]
        exact hj j (by omega)
    · refine ite_f (by simpa using h) ?_
      unfold f_own_Table_j1
      have : xs = t.Processes := ?_
      · subst this; rfl
      apply List.ext_getElem?
      intro j
      by_cases e : j < t.Processes.length
      · exact hj j (by omega)
      · rw [List.getElem?_eq_none (by omega), List.getElem?_eq_none (by omega)]
theorem table_ok (t : api_Table) (hm : small t.Processes) : f_own_Table t = some t := by
  unfold f_own_Table
  have hl := hm.1
  by_cases h0 : t.Processes = []
  · refine ite_t (by simp [h0]) ?_
    cases t; simp_all; rfl
  · have := List.length_pos_iff.2 h0
    refine ite_f ?_ ?_
    · simp only [beq_eq_false_iff_ne]; omega
    · refine ck_of ?_ ?_
      · unfold makes
        simp only [decide_eq_true_eq]
        omega
      · have e : ((((t.Processes.length : Int) : Int) - 0).toNat + 1) = t.Processes.length + 1 := by omega
        rw [e]
        exact table_loop t hm _ 0 _ (by omega) (by omega) (by simp) (fun j h => by omega)
theorem get_at (t : api_Table) (pid : Int) (hs : srt t.Processes) (hm : small t.Processes) {n : Nat} {p : api_Process} (hp : t.Processes[n]? = some p) (he : p.PID = pid) : f_process_Get t pid = some (p, true) := by
  unfold f_process_Get
  have hl := hm.1
  refine bind_of (place_at t pid hs (by omega) hp he) (ite_t rfl (bind_of (at_nat hp) (bind_of (process_ok p (hm.2 p (List.mem_of_getElem? hp))) rfl)))
end Go.Proofs.Ytanimjbmkhpnaaa.Gx
