/- What the operations on tables answer. -/
import Derived.Test.YtanimjbmkhpnaaaY10
import Derived.Test.YtanimjbmkhpnaaaY16
import Derived.Test.YtanimjbmkhpnaaaQTable
namespace Go.Proofs.Ytanimjbmkhpnaaa.Gx
open Go.Gx Go.RowKit
theorem between_loop (m : Int) (l : List Int) (hl : l.length < 1000000) : ∀ (k i : Nat), i ≤ l.length → l.length - i + 1 ≤ k →
    f_process_between_l1 m l k i = some ((l.drop i).all fun n => decide (0 ≤ n) && decide (n ≤ m)) := by
  intro k
  induction k with
  | zero => intro i _ h; omega
  | succ k ih =>
    intro i hi hk
    rw [f_process_between_l1]
    by_cases h : i < l.length
    · have hg : l[i]? = some l[i] := List.getElem?_eq_getElem h
      have hd : l.drop i = l[i] :: l.drop (i + 1) := List.drop_eq_getElem_cons h
      rw [hd]
      generalize l[i] = u at hg
      have w : IntKind.wrap .i64 ((i : Int) + 1) = ((i + 1 : Nat) : Int) := by rw [wrap_id (by omega) (by omega)]; omega
      rw [if_pos (by simpa using h), at_nat hg]
      unfold f_process_between_j1 f_process_between_j2 f_process_between_j3
      rw [w]
      simp only [Option.bind_some, List.all_cons]
      by_cases h1 : u < 0
      · have h1' : ¬ 0 ≤ u := by omega
        have h0 : (i : Int) ≥ 0 := by omega
        simp [h1, h1', h0]
      · have h1' : 0 ≤ u := by omega
        by_cases h2 : u > m
        · have h2' : ¬ u ≤ m := by omega
          have h0 : (i : Int) ≥ 0 := by omega
          simp [h1, h2, h2', h0]
        · have h2' : u ≤ m := by omega
          simp only [h1, h2, h1', h2', decide_true, decide_false, Bool.false_eq_true, if_false, Bool.true_and]
          exact ih (i + 1) (by omega) (by omega)
    · rw [if_neg (by simpa using h), List.drop_eq_nil_of_le (by omega)]
      rfl
theorem between_ok (m : Int) (l : List Int) (hl : l.length < 1000000) : f_process_between m l = some (l.all fun n => decide (0 ≤ n) && decide (n ≤ m)) := by
  unfold f_process_between
  have e : ((((l.length : Int) : Int) - 0).toNat + 1) = l.length + 1 := by omega
  rw [e]
  have := between_loop m l hl (l.length + 1) 0 (by omega) (by omega)
  rw [List.drop_zero] at this
  exact this
theorem between_yes {m u : Int} (h0 : 0 ≤ u) (h1 : u ≤ m) : f_process_between m [u] = some true := by
  rw [between_ok _ _ (by simp)]; simp [h0, h1]
theorem between_no {m u : Int} (h : ¬ (0 ≤ u ∧ u ≤ m)) : f_process_between m [u] = some false := by
  rw [between_ok _ _ (by simp)]
  congr 1
  by_cases h0 : 0 ≤ u
  · have : ¬ u ≤ m := fun h1 => h ⟨h0, h1⟩
    simp [h0, this]
  · simp [h0]
/-- The process p stands at n. -/
structure Here (t : api_Table) (n : Nat) (p : api_Process) : Prop where
  srt : srt t.Processes
  small : small t.Processes
  at_ : t.Processes[n]? = some p
theorem Here.lt {t : api_Table} {n : Nat} {p : api_Process} (h : Here t n p) : n < t.Processes.length := by
  rcases Nat.lt_or_ge n t.Processes.length with k | k
  · exact k
  · have := h.at_; rw [List.getElem?_eq_none k] at this; cases this
theorem Here.place {t : api_Table} {n : Nat} {p : api_Process} (h : Here t n p) : f_process_place t p.PID = some ((n : Int), true) :=
  place_at t _ h.srt (by have := h.small.1; omega) h.at_ rfl
theorem Here.get {t : api_Table} {n : Nat} {p : api_Process} (h : Here t n p) : f_process_Get t p.PID = some (p, true) := get_at t _ h.srt h.small h.at_ rfl
theorem set_at {l : List api_Process} {n : Nat} (q : api_Process) (h : n < l.length) : at_ (l.set (n : Int).toNat q) (n : Int) = some q := by
  apply at_nat
  show (l.set n q)[n]? = some q
  rw [List.getElem?_set_self h]
theorem set_two' {l : List api_Process} {n : Nat} (q r : api_Process) : (l.set (n : Int).toNat q).set (n : Int).toNat r = l.set n r := List.set_set ..
theorem set_one {l : List api_Process} {n : Nat} (q : api_Process) : l.set (n : Int).toNat q = l.set n q := rfl
/-- Another process in its place. -/
theorem Here.set {t : api_Table} {n : Nat} {p : api_Process} (h : Here t n p) (q : api_Process) (hq : q.PID = p.PID) (ho : q.Open.length ≤ 1000) (nx ns : Int) : Here ⟨nx, ns, t.Processes.set n q⟩ n q := by
  have hl := h.lt
  refine ⟨?_, ⟨by simpa using h.small.1, fun x hx => ?_⟩, by simp [hl]⟩
  · intro i j a b hij ha hb
    have key : ∀ (k : Nat) (x : api_Process), (t.Processes.set n q)[k]? = some x → ∃ y, t.Processes[k]? = some y ∧ y.PID = x.PID := by
      intro k x hx
      by_cases hk : k = n
      · subst hk
        rw [List.getElem?_set_self hl] at hx
        obtain rfl := Option.some.inj hx
        exact ⟨p, h.at_, hq.symm⟩
      · rw [List.getElem?_set_ne (fun e => hk e.symm)] at hx
        exact ⟨x, hx, rfl⟩
    obtain ⟨a', ha', ea⟩ := key i a ha
    obtain ⟨b', hb', eb⟩ := key j b hb
    have := h.srt i j a' b' hij ha' hb'
    omega
  · rcases List.mem_or_eq_of_mem_set hx with hx | rfl
    · exact h.small.2 x hx
    · exact ho
def noTable : api_Table := ⟨0, 0, []⟩
theorem login_ok {t : api_Table} {n : Nat} {p : api_Process} (h : Here t n p) (a : Int) (hs : -9223372036854775808 ≤ t.NextSession) :
    f_process_Login t p.PID a = some (if 0 ≤ a ∧ a ≤ 4294967294 then
      if p.AUID ≠ 4294967295 ∧ p.EUID ≠ 0 then (noTable, 1)
      else if t.NextSession ≥ 1073741824 then (noTable, 11) else (⟨t.Next, t.NextSession + 1, t.Processes.set n { p with AUID := a, Session := t.NextSession }⟩, 0)
      else (noTable, 22)) := by
  unfold f_process_Login
  refine bind_of h.place (ite_t rfl (bind_of (table_ok t h.small) (bind_of (at_nat h.at_) ?_)))
  have e1 : t.NextSession < 1073741824 → f_process_Login_j1 a ((n : Int), true) t p = some (⟨t.Next, t.NextSession + 1, t.Processes.set n { p with AUID := a, Session := t.NextSession }⟩, 0) := by
    intro h3
    unfold f_process_Login_j1
    rw [wrap_id (by omega) (by omega)]
    rfl
  by_cases hu : 0 ≤ a ∧ a ≤ 4294967294
  · rw [if_pos hu]
    refine bind_of (between_yes hu.1 hu.2) (ite_t rfl ?_)
    by_cases h1 : p.AUID = 4294967295
    · rw [if_neg (show ¬ (p.AUID ≠ 4294967295 ∧ p.EUID ≠ 0) from fun k => k.1 h1)]
      refine ite_f (by simpa using h1) ?_
      by_cases h3 : t.NextSession ≥ 1073741824
      · rw [if_pos h3]; exact ite_t (by simpa using h3) rfl
      · rw [if_neg h3]
        exact ite_f (by simpa using h3) (e1 (by omega))
    · refine ite_t (by simpa using h1) ?_
      by_cases h2 : p.EUID = 0
      · rw [if_neg (show ¬ (p.AUID ≠ 4294967295 ∧ p.EUID ≠ 0) from fun k => k.2 h2)]
        refine ite_f (by simpa using h2) ?_
        by_cases h3 : t.NextSession ≥ 1073741824
        · rw [if_pos h3]; exact ite_t (by simpa using h3) rfl
        · rw [if_neg h3]
          exact ite_f (by simpa using h3) (e1 (by omega))
      · rw [if_pos (show p.AUID ≠ 4294967295 ∧ p.EUID ≠ 0 from ⟨h1, h2⟩)]
        exact ite_t (by simpa using h2) rfl
  · rw [if_neg hu]
    exact bind_of (between_no hu) (ite_f rfl rfl)
theorem fork_ok {t : api_Table} {n : Nat} {p : api_Process} (h : Here t n p) (hx : -9223372036854775808 ≤ t.Next) :
    f_process_Fork t p.PID = some (if t.Processes.length ≥ 16 ∨ t.Next ≥ 1073741824 then (noTable, 0, 11)
      else (⟨t.Next + 1, t.NextSession, t.Processes ++ [{ p with PID := t.Next, PPID := p.PID }]⟩, t.Next, 0)) := by
  unfold f_process_Fork
  refine bind_of h.place (ite_t rfl (bind_of (table_ok t h.small) (bind_of (at_nat h.at_) ?_)))
  by_cases h1 : t.Processes.length ≥ 16
  · rw [if_pos (show t.Processes.length ≥ 16 ∨ t.Next ≥ 1073741824 from .inl h1)]
    refine ite_t ?_ rfl
    simp only [decide_eq_true_eq]; omega
  · refine ite_f ?_ ?_
    · simp only [decide_eq_false_iff_not]; omega
    · by_cases h2 : t.Next ≥ 1073741824
      · rw [if_pos (show t.Processes.length ≥ 16 ∨ t.Next ≥ 1073741824 from .inr h2)]; exact ite_t (by simpa using h2) rfl
      · rw [if_neg (show ¬ (t.Processes.length ≥ 16 ∨ t.Next ≥ 1073741824) from fun k => k.elim h1 h2)]
        refine ite_f (by simpa using h2) (bind_of (process_ok p (h.small.2 p (List.mem_of_getElem? h.at_))) (ck_of ?_ ?_))
        · unfold fits
          simp only [List.length_cons, List.length_nil, decide_eq_true_eq]; omega
        · rw [wrap_id (by omega) (by omega)]
          rfl
theorem no_place {t : api_Table} {pid : Int} (hs : srt t.Processes) (hm : small t.Processes) (hn : ∀ p ∈ t.Processes, p.PID ≠ pid) : ∃ n : Int, f_process_place t pid = some (n, false) :=
  place_none t pid hs (by have := hm.1; omega) hn
end Go.Proofs.Ytanimjbmkhpnaaa.Gx
