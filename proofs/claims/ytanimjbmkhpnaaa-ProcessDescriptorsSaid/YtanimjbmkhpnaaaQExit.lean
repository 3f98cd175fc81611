/- Exit and kauditref09.Get: what they answer. -/
import Derived.Test.YtanimjbmkhpnaaaY25
import Derived.Test.YtanimjbmkhpnaaaY26
import Derived.Test.YtanimjbmkhpnaaaQOps
namespace Go.Proofs.Ytanimjbmkhpnaaa.Gx
open Go.Gx Go.RowKit
theorem up {i : Nat} (h : i < 1000000000) : IntKind.wrap .i64 ((i : Int) + 1) = ((i + 1 : Nat) : Int) := by rw [wrap_id (by omega) (by omega)]; omega
theorem take_up {α : Type} {l : List α} {i : Nat} {u : α} (h : l[i]? = some u) : l.take (i + 1) = l.take i ++ [u] := by
  rw [List.take_add_one, h]; rfl
theorem drop_up {α : Type} {l : List α} {i : Nat} {u : α} (h : l[i]? = some u) : l.drop i = u :: l.drop (i + 1) := by
  obtain ⟨hi, rfl⟩ := List.getElem?_eq_some_iff.1 h
  exact List.drop_eq_getElem_cons hi
theorem got {α : Type} {l : List α} {i : Nat} (h : i < l.length) : ∃ u, l[i]? = some u ∧ u ∈ l := ⟨l[i], List.getElem?_eq_getElem h, List.getElem_mem h⟩
/-- The list without one number. -/
def out (pid : Int) (l : List api_Process) : List api_Process := l.filter fun p => p.PID != pid
theorem exit_l1 (pid : Int) (t : api_Table) (n : Nat) (hl : t.Processes.length < 1000000) {p : api_Process} (hp : t.Processes[n]? = some p) (he : p.PID = pid) (hb : ∀ m q, m < n → t.Processes[m]? = some q → q.PID ≠ pid) :
    ∀ (k i : Nat), i ≤ n → n - i + 1 ≤ k → f_process_Exit_l1 pid t k i = f_process_Exit_j1 pid t (n : Int) := by
  have hn : n < t.Processes.length := (List.getElem?_eq_some_iff.1 hp).1
  intro k
  induction k with
  | zero => intro i _ h; omega
  | succ k ih =>
    intro i hi hk
    rw [f_process_Exit_l1, if_pos (by simp only [decide_eq_true_eq]; omega)]
    obtain ⟨u, hu, _⟩ := got (l := t.Processes) (i := i) (by omega)
    refine bind_of (at_nat hu) ?_
    by_cases e : i = n
    · subst e
      rw [hp] at hu; obtain rfl := Option.some.inj hu
      exact ite_t (by simpa using he) rfl
    · refine ite_f (by simpa using hb i u (by omega) hu) ?_
      rw [up (by omega)]
      exact ih (i + 1) (by omega) (by omega)
theorem exit_l2 (pid : Int) (t : api_Table) (ps : List api_Process) (hl : ps.length < 1000000) :
    ∀ (k : Nat) (xs : List api_Process) (w r : Nat), ps.length - r + 1 ≤ k → xs.length = ps.length → r ≤ ps.length → w < r → xs.take w = out pid (ps.take r) → xs.drop r = ps.drop r →
    ∃ (ys : List api_Process) (w' : Nat), f_process_Exit_l2 pid t k xs w r = f_process_Exit_j3 pid t ys w' ∧ ys.take w' = out pid ps ∧ w' ≤ ys.length ∧ ys.length = ps.length := by
  intro k
  induction k with
  | zero => intro xs w r h; omega
  | succ k ih =>
    intro xs w r hk hx hr hw h1 h2
    rw [f_process_Exit_l2]
    by_cases h : r < ps.length
    · rw [if_pos (by simp only [decide_eq_true_eq]; omega)]
      obtain ⟨u, hu, _⟩ := got (l := ps) (i := r) h
      have hux : xs[r]? = some u := by
        have a := drop_up hu
        rw [← h2] at a
        have b : (xs.drop r)[0]? = some u := by rw [a]; rfl
        simpa using b
      have hd : xs.drop (r + 1) = ps.drop (r + 1) := by
        have a := drop_up hu
        rw [← h2, drop_up hux] at a
        exact (List.cons.inj a).2
      by_cases e : u.PID = pid
      · obtain ⟨ys, w', a, b⟩ := ih xs w (r + 1) (by omega) hx (by omega) (by omega) (by rw [take_up hu, out, List.filter_append, ← out, ← h1]; simp [e]) hd
        refine ⟨ys, w', (bind_of (at_nat hux) (ite_t (by simpa using e) ?_)), b⟩
        rw [up (by omega)]
        exact a
      · obtain ⟨v, hv, _⟩ := got (l := xs) (i := w) (by omega)
        obtain ⟨ys, w', a, b⟩ := ih (xs.set w u) (w + 1) (r + 1) (by omega) (by simpa using hx) (by omega) (by omega) (by
            rw [take_up hu, out, List.filter_append, ← out, ← h1, take_up (u := u) (by rw [List.getElem?_set_self (by omega)]), List.take_set_of_le (by omega)]; simp [e]) (by rw [List.drop_set_of_lt (by omega)]; exact hd)
        refine ⟨ys, w', (bind_of (at_nat hux) (ite_f (by simpa using e) (bind_of (at_nat hv) ?_))), b⟩
        rw [up (by omega), up (by omega)]
        exact a
    · rw [if_neg (by simp only [decide_eq_true_eq]; omega)]
      obtain rfl : r = ps.length := by omega
      exact ⟨xs, w, rfl, by rw [h1, List.take_length], by omega, hx⟩
/-- Who had this parent has parent 1. -/
def orphan (pid : Int) (p : api_Process) : api_Process := if p.PPID = pid then { p with PPID := 1 } else p
theorem exit_l3 (pid : Int) (t : api_Table) (ps : List api_Process) (hl : ps.length < 1000000) :
    ∀ (k : Nat) (xs : List api_Process) (i : Nat), ps.length - i + 1 ≤ k → i ≤ ps.length → xs = (ps.take i).map (orphan pid) ++ ps.drop i →
    f_process_Exit_l3 pid t ps k xs i = some (⟨t.Next, t.NextSession, ps.map (orphan pid)⟩, 0) := by
  intro k
  induction k with
  | zero => intro xs i h; omega
  | succ k ih =>
    intro xs i hk hi hx
    rw [f_process_Exit_l3]
    by_cases h : i < ps.length
    · rw [if_pos (by simp only [decide_eq_true_eq]; omega)]
      obtain ⟨u, hu, _⟩ := got (l := ps) (i := i) h
      have hlen : ((ps.take i).map (orphan pid)).length = i := by simp; omega
      have hux : xs[i]? = some u := by rw [hx, List.getElem?_append_right (by omega), hlen]; simpa using hu
      rw [up (by omega)]
      refine bind_of (at_nat hux) ?_
      by_cases e : u.PPID = pid
      · refine ite_t (by simpa using e) (ih _ (i + 1) (by omega) (by omega) ?_)
        show xs.set i _ = _
        rw [hx, drop_up hu, List.set_append_right _ _ (by omega), hlen, Nat.sub_self, List.set_cons_zero, take_up hu, List.map_append, List.append_assoc]
        simp [orphan, e]
      · refine ite_f (by simpa using e) (ih _ (i + 1) (by omega) (by omega) ?_)
        rw [hx, drop_up hu, take_up hu, List.map_append, List.append_assoc]
        simp [orphan, e]
    · rw [if_neg (by simp only [decide_eq_true_eq]; omega)]
      obtain rfl : i = ps.length := by omega
      rw [hx]
      simp
      rfl
theorem exit_ok {t : api_Table} {n : Nat} {p : api_Process} (h : Here t n p) :
    f_process_Exit t p.PID = some (if p.PID = 1 then (noTable, 1) else (⟨t.Next, t.NextSession, (out p.PID t.Processes).map (orphan p.PID)⟩, 0)) := by
  unfold f_process_Exit
  have hn := h.lt
  have hl := h.small.1
  refine bind_of h.place (ite_t rfl (bind_of (table_ok t h.small) (bind_of (at_nat h.at_) ?_)))
  by_cases h1 : p.PID = 1
  · rw [if_pos h1]; exact ite_t (by simpa using h1) rfl
  · rw [if_neg h1]
    refine ite_f (by simpa using h1) ?_
    have e : ((((t.Processes.length : Int) : Int) - 0).toNat + 1) = t.Processes.length + 1 := by omega
    rw [e]
    have hb : ∀ m q, m < n → t.Processes[m]? = some q → q.PID ≠ p.PID := fun m q hm hq => by
      have := h.srt m n q p hm hq h.at_; omega
    refine (exit_l1 p.PID t n (by omega) h.at_ rfl hb _ 0 (by omega) (by omega)).trans ?_
    unfold f_process_Exit_j1 f_process_Exit_j2
    refine ite_f (by simp) ?_
    rw [up (by omega)]
    obtain ⟨ys, w, a, b, c, d⟩ := exit_l2 p.PID t t.Processes (by omega) ((((t.Processes.length : Int) : Int) - ((n + 1 : Nat) : Int)).toNat + 1) t.Processes n (n + 1) (by omega) rfl (by omega) (by omega) (by
        rw [take_up h.at_, out, List.filter_append]
        have e1 : (List.take n t.Processes).filter (fun q => q.PID != p.PID) = List.take n t.Processes := by
          rw [List.filter_eq_self]
          intro q hq
          obtain ⟨m, hm, rfl⟩ := List.mem_iff_getElem.1 hq
          have hm' : m < n ∧ m < t.Processes.length := by rw [List.length_take] at hm; omega
          have := hb m t.Processes[m] hm'.1 (List.getElem?_eq_getElem hm'.2)
          simpa using this
        rw [e1]; simp) rfl
    rw [a]
    unfold f_process_Exit_j3
    have ez : ∀ z : api_Process, cut (zeroed z ys w (ys.length : Int)) 0 w = out p.PID t.Processes := by
      intro z
      rw [← b]
      unfold cut zeroed
      show List.drop 0 (List.take w (List.take w ys ++ _)) = _
      rw [List.drop_zero, List.take_append_of_le_length (by simp; omega), List.take_take, Nat.min_self]
    refine ck_of ⟨by omega, by omega, by omega⟩ (ck_of ⟨by omega, by omega, ?_⟩ ?_)
    · unfold zeroed
      simp; omega
    · rw [ez]
      unfold f_process_Exit_j4 f_process_Exit_j5
      exact exit_l3 p.PID t _ (by have := List.length_filter_le (fun q : api_Process => q.PID != p.PID) t.Processes; unfold out; omega) _ _ 0 (by omega) (by omega) (by simp)
/-- The reference's Get finds it. -/
theorem rget_loop (t : api_Table) (pid : Int) (hm : small t.Processes) : ∀ (k i : Nat), t.Processes.length - i + 1 ≤ k → i ≤ t.Processes.length → (∀ m q, m < i → t.Processes[m]? = some q → q.PID ≠ pid) →
    (∃ r, f_kauditref09_Get_l1 t pid k i = some (r, true) ∧ r.PID = pid ∧ r ∈ t.Processes) ∨ (∃ r, f_kauditref09_Get_l1 t pid k i = some (r, false) ∧ ∀ q ∈ t.Processes, q.PID ≠ pid) := by
  have hl := hm.1
  intro k
  induction k with
  | zero => intro i h; omega
  | succ k ih =>
    intro i hk hi hb
    rw [f_kauditref09_Get_l1]
    by_cases h : i < t.Processes.length
    · rw [if_pos (by simp only [decide_eq_true_eq]; omega)]
      obtain ⟨u, hu, hu'⟩ := got (l := t.Processes) (i := i) h
      rw [at_nat hu]
      by_cases e : u.PID = pid
      · left
        refine ⟨u, ite_t (by simpa using e) (bind_of (y := u) ?_ rfl), e, hu'⟩
        unfold f_kauditref09_CopyProcess
        refine ck_of ?_ rfl
        have := hm.2 u hu'
        unfold fits
        simp only [List.length_nil, decide_eq_true_eq]; omega
      · have := ih (i + 1) (by omega) (by omega) (fun m q hm' hq => by
          by_cases hmi : m = i
          · subst hmi; rw [hu] at hq; obtain rfl := Option.some.inj hq; exact e
          · exact hb m q (by omega) hq)
        rw [Option.bind_some, if_neg (by simpa using e), up (by omega)]
        exact this
    · rw [if_neg (by simp only [decide_eq_true_eq]; omega)]
      right
      refine ⟨_, rfl, fun q hq => ?_⟩
      obtain ⟨m, hm', rfl⟩ := List.mem_iff_getElem.1 hq
      exact hb m _ (by omega) (List.getElem?_eq_getElem hm')
theorem rget (t : api_Table) (pid : Int) (hm : small t.Processes) :
    (∃ r, f_kauditref09_Get t pid = some (r, true) ∧ r.PID = pid ∧ r ∈ t.Processes) ∨ (∃ r, f_kauditref09_Get t pid = some (r, false) ∧ ∀ q ∈ t.Processes, q.PID ≠ pid) :=
  rget_loop t pid hm _ 0 (by omega) (by omega) (fun m q h => by omega)
end Go.Proofs.Ytanimjbmkhpnaaa.Gx
