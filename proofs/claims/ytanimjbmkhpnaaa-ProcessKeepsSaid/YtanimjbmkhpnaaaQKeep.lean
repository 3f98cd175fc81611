/- ProcessKeeps: the plain law. -/
import Derived.Test.YtanimjbmkhpnaaaY6
import Derived.Test.YtanimjbmkhpnaaaQExit
namespace Go.Proofs.Ytanimjbmkhpnaaa.Gx
open Go.Gx Go.RowKit
def okId (n : Int) : Prop := 0 ≤ n ∧ n < 4294967295
structure OkP (nx ns : Int) (p : api_Process) : Prop where
  pid : 1 ≤ p.PID ∧ p.PID < nx
  uid : okId p.UID
  euid : okId p.EUID
  gid : okId p.GID
  egid : okId p.EGID
  auid : 0 ≤ p.AUID ∧ p.AUID ≤ 4294967295
  ses : p.Session = 4294967295 ∨ (0 ≤ p.Session ∧ p.Session < ns)
  open_ : p.Open = []
structure Keep (t : api_Table) : Prop where
  nx : 2 ≤ t.Next ∧ t.Next ≤ 1073741824
  ns : 1 ≤ t.NextSession ∧ t.NextSession ≤ 1073741824
  len : t.Processes.length ≤ 16
  all : ∀ p ∈ t.Processes, OkP t.Next t.NextSession p
  srt : srt t.Processes
  head : ∃ q, t.Processes[0]? = some q ∧ q.PID = 1 ∧ q.PPID = 0
  par : ∀ p ∈ t.Processes, p.PID ≠ 1 → p.PPID < p.PID ∧ ∃ q ∈ t.Processes, q.PID = p.PPID
theorem Keep.small {t : api_Table} (h : Keep t) : small t.Processes := ⟨by have := h.len; omega, fun p hp => by rw [(h.all p hp).open_]; simp⟩
theorem Keep.here {t : api_Table} (h : Keep t) {n : Nat} {p : api_Process} (hp : t.Processes[n]? = some p) : Here t n p := ⟨h.srt, h.small, hp⟩
theorem Keep.here' {t : api_Table} (h : Keep t) {p : api_Process} (hp : p ∈ t.Processes) : ∃ n, Here t n p := by
  obtain ⟨n, hn, rfl⟩ := List.mem_iff_getElem.1 hp
  exact ⟨n, h.here (List.getElem?_eq_getElem hn)⟩
theorem Keep.uniq {t : api_Table} (h : Keep t) {p q : api_Process} (hp : p ∈ t.Processes) (hq : q ∈ t.Processes) (e : p.PID = q.PID) : p = q := by
  obtain ⟨n, hn, rfl⟩ := List.mem_iff_getElem.1 hp
  obtain ⟨m, hm, rfl⟩ := List.mem_iff_getElem.1 hq
  rcases Nat.lt_trichotomy n m with k | k | k
  · have := h.srt n m _ _ k (List.getElem?_eq_getElem hn) (List.getElem?_eq_getElem hm); omega
  · subst k; rfl
  · have := h.srt m n _ _ k (List.getElem?_eq_getElem hm) (List.getElem?_eq_getElem hn); omega
theorem ident_ok {n : Int} (h : okId n) : f_kauditref09_identity n = some true := by
  unfold f_kauditref09_identity
  refine ite_t (by simpa using h.1) ?_
  rw [decide_eq_true h.2]
theorem proc_ok {t : api_Table} (h : Keep t) {n : Nat} {p : api_Process} (hp : t.Processes[n]? = some p) : f_kauditref09_process t n = some true := by
  have hm := List.mem_of_getElem? hp
  have o := h.all p hm
  have hnl : n < t.Processes.length := (List.getElem?_eq_some_iff.1 hp).1
  have hlen := h.len
  have j3 : f_kauditref09_process_j3 p = some true := by
    unfold f_kauditref09_process_j3
    rw [o.open_, f_kauditref09_process_l1]
    exact ite_f (by rw [o.open_]; rfl) rfl
  have j2 : f_kauditref09_process_j2 t p = some true := by
    unfold f_kauditref09_process_j2
    refine bind_of (ident_ok o.uid) (ite_t rfl (bind_of (ident_ok o.euid) (ite_t rfl (bind_of (ident_ok o.gid) (ite_t rfl (bind_of (ident_ok o.egid) (ite_t rfl ?_)))))))
    have a1 := o.auid.1; have a2 := o.auid.2
    refine ite_f (by simp only [decide_eq_false_iff_not]; omega) (ite_f (by simp only [decide_eq_false_iff_not]; omega) ?_)
    rcases o.ses with e | ⟨e1, e2⟩
    · exact ite_f (by simp [e]) j3
    · by_cases e : p.Session = 4294967295
      · exact ite_f (by simp [e]) j3
      · exact ite_t (by simpa using e) (ite_f (by simp only [decide_eq_false_iff_not]; omega) (ite_f (by simp only [decide_eq_false_iff_not]; omega) j3))
  unfold f_kauditref09_process
  refine bind_of (at_nat hp) ?_
  have o1 := o.pid.2
  obtain ⟨q, hq, hq1, hq2⟩ := h.head
  by_cases h0 : n = 0
  · subst h0
    rw [hp] at hq; obtain rfl := Option.some.inj hq
    refine ite_t rfl (ite_f (by simp [hq1]) (ite_f (by simp [hq2]) (ite_f (by simp) (ite_f (by simp only [decide_eq_false_iff_not]; omega) ?_))))
    unfold f_kauditref09_process_j1
    exact ite_f (by simp) j2
  · refine ite_f (by simp only [beq_eq_false_iff_ne]; omega) (ite_t (by simp only [decide_eq_true_eq]; omega) ?_)
    obtain ⟨u, hu, _⟩ := got (l := t.Processes) (i := n - 1) (by omega)
    have w : IntKind.wrap .i64 ((n : Int) - 1) = ((n - 1 : Nat) : Int) := by rw [wrap_id (by omega) (by omega)]; omega
    rw [w]
    have l1 := h.srt (n - 1) n u p (by omega) hu hp
    refine bind_of (at_nat hu) (ite_f (by simp only [decide_eq_false_iff_not]; omega) (ite_f (by simp only [decide_eq_false_iff_not]; omega) ?_))
    unfold f_kauditref09_process_j1
    have l2 := h.srt 0 n q p (by omega) hq hp
    obtain ⟨b1, q', hq', e'⟩ := h.par p hm (by omega)
    refine ite_t (by simp only [decide_eq_true_eq]; omega) ?_
    rcases rget t p.PPID h.small with ⟨r, e, _⟩ | ⟨r, e, no⟩
    · exact bind_of e (ite_t rfl (ite_f (by simp only [decide_eq_false_iff_not]; omega) j2))
    · exact absurd e' (no q' hq')
theorem valid_loop {t : api_Table} (h : Keep t) : ∀ (k i : Nat), t.Processes.length - i + 1 ≤ k → i ≤ t.Processes.length → f_kauditref09_Valid_l1 t k i = some true := by
  have hlen := h.len
  intro k
  induction k with
  | zero => intro i h; omega
  | succ k ih =>
    intro i hk hi
    rw [f_kauditref09_Valid_l1]
    by_cases hh : i < t.Processes.length
    · obtain ⟨u, hu, _⟩ := got hh
      refine ite_t (by simp only [decide_eq_true_eq]; omega) (bind_of (proc_ok h hu) (ite_t rfl ?_))
      rw [up (by omega)]
      exact ih (i + 1) (by omega) (by omega)
    · exact ite_f (by simp only [decide_eq_false_iff_not]; omega) rfl
theorem valid_ok {t : api_Table} (h : Keep t) : f_kauditref09_Valid t = some true := by
  have a := h.nx; have b := h.ns; have c := h.len
  obtain ⟨q, hq, _⟩ := h.head
  have hl : 0 < t.Processes.length := (List.getElem?_eq_some_iff.1 hq).1
  unfold f_kauditref09_Valid
  iterate 6 refine ite_f (by simp only [decide_eq_false_iff_not]; omega) ?_
  exact valid_loop h _ 0 (by omega) (by omega)
/-! The steps keep it. -/
theorem okp_mono {nx ns nx' ns' : Int} {p : api_Process} (h : OkP nx ns p) (h1 : nx ≤ nx') (h2 : ns ≤ ns') : OkP nx' ns' p :=
  ⟨⟨h.pid.1, by have := h.pid.2; omega⟩, h.uid, h.euid, h.gid, h.egid, h.auid, h.ses.imp id (fun k => ⟨k.1, by have := k.2; omega⟩), h.open_⟩
theorem keep_fork {t : api_Table} (h : Keep t) {p : api_Process} (hp : p ∈ t.Processes) (h1 : t.Processes.length < 16) (h2 : t.Next < 1073741824) :
    Keep ⟨t.Next + 1, t.NextSession, t.Processes ++ [{ p with PID := t.Next, PPID := p.PID }]⟩ := by
  have a := h.nx
  have o := h.all p hp
  refine ⟨⟨by show 2 ≤ t.Next + 1; omega, by show t.Next + 1 ≤ _; omega⟩, h.ns, by simp; omega, ?_, ?_, ?_, ?_⟩
  · intro q hq
    rcases List.mem_append.1 hq with k | k
    · exact okp_mono (h.all q k) (by show t.Next ≤ t.Next + 1; omega) (Int.le_refl _)
    · obtain rfl := List.mem_singleton.1 k
      exact ⟨⟨by show 1 ≤ t.Next; omega, by show t.Next < t.Next + 1; omega⟩, o.uid, o.euid, o.gid, o.egid, o.auid, o.ses, o.open_⟩
  · intro i j x y hij hx hy
    have hj := (List.getElem?_eq_some_iff.1 hy).1
    rw [List.length_append, List.length_singleton] at hj
    have hx' : t.Processes[i]? = some x := by
      have := hx; rw [List.getElem?_append_left (by omega)] at this; exact this
    by_cases k : j < t.Processes.length
    · rw [List.getElem?_append_left k] at hy
      exact h.srt i j x y hij hx' hy
    · obtain rfl : j = t.Processes.length := by omega
      rw [List.getElem?_append_right (Nat.le_refl _), Nat.sub_self] at hy
      obtain rfl := Option.some.inj hy
      exact (h.all x (List.mem_of_getElem? hx')).pid.2
  · obtain ⟨q, hq, e⟩ := h.head
    refine ⟨q, ?_, e⟩
    rw [List.getElem?_append_left (List.getElem?_eq_some_iff.1 hq).1]
    exact hq
  · intro q hq h1
    rcases List.mem_append.1 hq with k | k
    · obtain ⟨b, r, hr, e⟩ := h.par q k h1
      exact ⟨b, r, List.mem_append_left _ hr, e⟩
    · obtain rfl := List.mem_singleton.1 k
      exact ⟨o.pid.2, p, List.mem_append_left _ hp, rfl⟩
theorem srt_iff {l : List api_Process} : srt l ↔ l.Pairwise fun p q => p.PID < q.PID := by
  rw [List.pairwise_iff_getElem]
  constructor
  · intro h i j hi hj hij
    exact h i j _ _ hij (List.getElem?_eq_getElem hi) (List.getElem?_eq_getElem hj)
  · intro h i j p q hij hp hq
    obtain ⟨hi, rfl⟩ := List.getElem?_eq_some_iff.1 hp
    obtain ⟨hj, rfl⟩ := List.getElem?_eq_some_iff.1 hq
    exact h i j hi hj hij
theorem orphan_pid (pid : Int) (p : api_Process) : (orphan pid p).PID = p.PID := by unfold orphan; split <;> rfl
theorem keep_exit {t : api_Table} (h : Keep t) (pid : Int) (hz : pid ≠ 0) (h1 : pid ≠ 1) : Keep ⟨t.Next, t.NextSession, (out pid t.Processes).map (orphan pid)⟩ := by
  obtain ⟨q0, hq0, e1, e2⟩ := h.head
  have m0 := List.mem_of_getElem? hq0
  have hout : ∀ q, q ∈ out pid t.Processes ↔ q ∈ t.Processes ∧ q.PID ≠ pid := fun q => by simp [out]
  have hmap : ∀ q, q ∈ t.Processes → q.PID ≠ pid → orphan pid q ∈ (out pid t.Processes).map (orphan pid) := fun q a b => List.mem_map_of_mem ((hout q).2 ⟨a, b⟩)
  have back : ∀ q, q ∈ (out pid t.Processes).map (orphan pid) → ∃ r, r ∈ t.Processes ∧ r.PID ≠ pid ∧ q = orphan pid r := fun q hq => by
    obtain ⟨r, hr, rfl⟩ := List.mem_map.1 hq
    exact ⟨r, ((hout r).1 hr).1, ((hout r).1 hr).2, rfl⟩
  have hps : ∃ tl, t.Processes = q0 :: tl := by
    cases hc : t.Processes with
    | nil => rw [hc] at hq0; cases hq0
    | cons a tl => rw [hc] at hq0; obtain rfl := Option.some.inj hq0; exact ⟨tl, rfl⟩
  refine ⟨h.nx, h.ns, ?_, ?_, ?_, ?_, ?_⟩
  · show ((out pid t.Processes).map (orphan pid)).length ≤ 16
    have := List.length_filter_le (fun q : api_Process => q.PID != pid) t.Processes
    have := h.len
    rw [List.length_map]; unfold out; omega
  · intro q hq
    obtain ⟨r, hr, hn, rfl⟩ := back q hq
    have o := h.all r hr
    unfold orphan
    split
    · exact ⟨o.pid, o.uid, o.euid, o.gid, o.egid, o.auid, o.ses, o.open_⟩
    · exact o
  · show srt ((out pid t.Processes).map (orphan pid))
    rw [srt_iff, List.pairwise_map]
    simp only [orphan_pid]
    exact (srt_iff.1 h.srt).filter _
  · obtain ⟨tl, etl⟩ := hps
    refine ⟨q0, ?_, e1, e2⟩
    have hk : (q0.PID != pid) = true := by simp [e1]; exact fun e => h1 e.symm
    have ho : orphan pid q0 = q0 := by unfold orphan; rw [if_neg (by rw [e2]; exact fun e => hz e.symm)]
    show ((out pid t.Processes).map (orphan pid))[0]? = some q0
    unfold out
    rw [etl, List.filter_cons_of_pos (p := fun q : api_Process => q.PID != pid) hk, List.map_cons, ho]; rfl
  · intro q hq hne
    obtain ⟨r, hr, hn, rfl⟩ := back q hq
    rw [orphan_pid] at hne
    obtain ⟨b, r', hr', e⟩ := h.par r hr hne
    have o := (h.all r hr).pid.1
    by_cases k : r.PPID = pid
    · have ep : (orphan pid r).PPID = 1 := by unfold orphan; rw [if_pos k]
      rw [orphan_pid, ep]
      refine ⟨by omega, orphan pid q0, hmap q0 m0 (by rw [e1]; exact fun e => h1 e.symm), by rw [orphan_pid, e1]⟩
    · have ep : (orphan pid r) = r := by unfold orphan; rw [if_neg k]
      rw [ep]
      exact ⟨b, orphan pid r', hmap r' hr' (by rw [e]; exact k), by rw [orphan_pid, e]⟩
theorem keep_login {t : api_Table} (h : Keep t) {n : Nat} {p : api_Process} (hp : t.Processes[n]? = some p) (a : Int) (h1 : 0 ≤ a ∧ a ≤ 4294967294) (h2 : t.NextSession < 1073741824) :
    Keep ⟨t.Next, t.NextSession + 1, t.Processes.set n { p with AUID := a, Session := t.NextSession }⟩ := by
  have hm := List.mem_of_getElem? hp
  have hn := (List.getElem?_eq_some_iff.1 hp).1
  have o := h.all p hm
  have s := h.ns
  have H := (h.here hp).set { p with AUID := a, Session := t.NextSession } rfl (by show p.Open.length ≤ _; rw [o.open_]; simp) t.Next (t.NextSession + 1)
  have keepm : ∀ q ∈ t.Processes, ∃ q' ∈ t.Processes.set n { p with AUID := a, Session := t.NextSession }, q'.PID = q.PID := by
    intro q hq
    obtain ⟨m, hm', rfl⟩ := List.mem_iff_getElem.1 hq
    by_cases k : m = n
    · subst k
      refine ⟨{ p with AUID := a, Session := t.NextSession }, List.mem_of_getElem? (List.getElem?_set_self hn), ?_⟩
      rw [List.getElem?_eq_getElem hm'] at hp; rw [Option.some.inj hp]
    · exact ⟨t.Processes[m], List.mem_of_getElem? (i := m) (by rw [List.getElem?_set_ne (fun e => k e.symm)]; exact List.getElem?_eq_getElem hm'), rfl⟩
  refine ⟨h.nx, ⟨by show 1 ≤ t.NextSession + 1; omega, by show t.NextSession + 1 ≤ _; omega⟩, by simpa using h.len, ?_, H.srt, ?_, ?_⟩
  · intro q hq
    rcases List.mem_or_eq_of_mem_set hq with k | rfl
    · exact okp_mono (h.all q k) (Int.le_refl _) (by show t.NextSession ≤ t.NextSession + 1; omega)
    · exact ⟨o.pid, o.uid, o.euid, o.gid, o.egid, ⟨h1.1, by show a ≤ _; omega⟩, .inr ⟨by show 0 ≤ t.NextSession; omega, by show t.NextSession < t.NextSession + 1; omega⟩, o.open_⟩
  · obtain ⟨q, hq, e1, e2⟩ := h.head
    by_cases k : n = 0
    · subst k
      rw [hp] at hq; obtain rfl := Option.some.inj hq
      exact ⟨{ p with AUID := a, Session := t.NextSession }, List.getElem?_set_self hn, e1, e2⟩
    · exact ⟨q, (List.getElem?_set_ne k).trans hq, e1, e2⟩
  · intro q hq hne
    rcases List.mem_or_eq_of_mem_set hq with k | rfl
    · obtain ⟨b, r, hr, e⟩ := h.par q k hne
      obtain ⟨r', hr', e'⟩ := keepm r hr
      exact ⟨b, r', hr', e'.trans e⟩
    · obtain ⟨b, r, hr, e⟩ := h.par p hm hne
      obtain ⟨r', hr', e'⟩ := keepm r hr
      exact ⟨b, r', hr', e'.trans e⟩
/-! The law. -/
theorem range9 (s : kauditmake_Src) (h0 : 0 ≤ s.at_) (h1 : s.at_ < 1000000) : ∃ r, f_kauditmake_Src_Range s 0 9 = some (r, s.at_ + 1) := by
  unfold f_kauditmake_Src_Range
  have e : IntKind.wrap .i64 ((IntKind.wrap .i64 ((9 : Int) - 0)) + 1) = 10 := by rw [wrap_id (n := 9 - 0) (by omega) (by omega), wrap_id (by omega) (by omega)]; rfl
  obtain ⟨r, hr, _⟩ := N_ok s 10 (by omega) (by omega) h0 (by omega)
  exact ⟨_, bind_of (by rw [e]; exact hr) rfl⟩
theorem pid_ok (s : kauditmake_Src) (t : api_Table) (h0 : 0 ≤ s.at_) (h1 : s.at_ < 100000) (hl : t.Processes.length ≤ 1000) : ∃ r a, f_kauditmake_Src_PID s t = some (r, a) ∧ 0 ≤ a ∧ a ≤ s.at_ + 2 := by
  unfold f_kauditmake_Src_PID
  by_cases e : t.Processes.length = 0
  · obtain ⟨r, hr⟩ := range9 s h0 (by omega)
    exact ⟨r, s.at_ + 1, ite_t (by simp [e]) (bind_of hr rfl), by omega, by omega⟩
  · obtain ⟨r, hr, _⟩ := N_ok s 24 (by omega) (by omega) h0 (by omega)
    by_cases e2 : r = 23
    · obtain ⟨r', hr'⟩ := range9 ⟨s.l, s.at_ + 1⟩ (by show 0 ≤ s.at_ + 1; omega) (by show s.at_ + 1 < _; omega)
      exact ⟨r', s.at_ + 1 + 1, ite_f (by simpa using e) (bind_of hr (ite_t (by simpa using e2) (bind_of hr' rfl))), by omega, by omega⟩
    · obtain ⟨r', hr', a, b⟩ := N_ok ⟨s.l, s.at_ + 1⟩ t.Processes.length (by omega) (by omega) (by show 0 ≤ s.at_ + 1; omega) (by show s.at_ + 1 < _; omega)
      obtain ⟨u, hu, _⟩ := at_lt a b
      exact ⟨u.PID, s.at_ + 1 + 1, ite_f (by simpa using e) (bind_of hr (ite_f (by simpa using e2) (bind_of hr' (bind_of hu rfl)))), by omega, by omega⟩
theorem keeps_j1 {o1 o2 : Int} {op : List api_Process} {most i : Int} {rec : Int → Int → Int → List api_Process → Int → Int → Int → Option Bool} {a s n1 n2 : Int} {np : List api_Process} {child err : Int}
    (hold : err ≠ 0 → rec a o1 o2 op most s (IntKind.wrap .i64 (i + 1)) = some true)
    (hnew : err = 0 → Keep ⟨n1, n2, np⟩ ∧ (child ≠ 0 → most < child) ∧ rec a n1 n2 np (max most child) s (IntKind.wrap .i64 (i + 1)) = some true) :
    f_kauditlaw09_ProcessKeeps_j1 o1 o2 op most i rec a s n1 n2 np child err = some true := by
  unfold f_kauditlaw09_ProcessKeeps_j1
  by_cases e : err = 0
  · obtain ⟨k, c, r⟩ := hnew e
    refine ite_f (by simp [e]) ?_
    by_cases e2 : child = 0
    · exact ite_f (by simp [e2]) (bind_of (valid_ok k) (ite_t rfl r))
    · refine ite_t (by simpa using e2) (ite_f ?_ (bind_of (valid_ok k) (ite_t rfl r)))
      have := c e2
      simp only [decide_eq_false_iff_not]; omega
  · exact ite_t (by simpa using e) (hold e)
theorem keeps_loop (z : List Int) : ∀ (k i : Nat) (a : Int) (t : api_Table) (most ses : Int), 20 - i + 1 ≤ k → i ≤ 20 → 0 ≤ a → a ≤ 5 * i → Keep t → 0 ≤ most → most < t.Next → ses < t.NextSession →
    f_kauditlaw09_ProcessKeeps_l1 z k a t.Next t.NextSession t.Processes most ses i = some true := by
  intro k
  induction k with
  | zero => intro i a t most ses h; omega
  | succ k ih =>
    intro i a t most ses hk hi ha0 ha1 K hm0 hm1 hs
    rw [f_kauditlaw09_ProcessKeeps_l1]
    by_cases h : i < 20
    · have hnx := K.nx; have hns := K.ns; have hlen := K.len
      obtain ⟨pid, a1, hpid, b1, b2⟩ := pid_ok ⟨z, a⟩ t ha0 (by show a < _; omega) (by omega)
      have b2 : a1 ≤ a + 2 := b2
      have T : (⟨t.Next, t.NextSession, t.Processes⟩ : api_Table) = t := rfl
      refine ite_t (by simp only [decide_eq_true_eq]; omega) (bind_of hpid ?_)
      have again : ∀ a', 0 ≤ a' → a' ≤ a + 5 → f_kauditlaw09_ProcessKeeps_l1 z k a' t.Next t.NextSession t.Processes most ses (IntKind.wrap .i64 ((i : Int) + 1)) = some true := by
        intro a' c1 c2
        rw [up (by omega)]
        exact ih (i + 1) a' t most ses (by omega) (by omega) c1 (by omega) K hm0 hm1 hs
      -- the draws
      obtain ⟨d1, hd1, _⟩ := N_ok ⟨z, a1⟩ 3 (by omega) (by omega) b1 (by show a1 < _; omega)
      obtain ⟨d2, hd2, _⟩ := N_ok ⟨z, a1 + 1⟩ 3 (by omega) (by omega) (by show 0 ≤ a1 + 1; omega) (by show a1 + 1 < _; omega)
      obtain ⟨d3, hd3, v1, v2⟩ := N_ok ⟨z, a1 + 1 + 1⟩ 9 (by omega) (by omega) (by show 0 ≤ a1 + 1 + 1; omega) (by show a1 + 1 + 1 < _; omega)
      by_cases hin : ∃ p ∈ t.Processes, p.PID = pid
      · obtain ⟨p, hp, rfl⟩ := hin
        obtain ⟨n, H⟩ := K.here' hp
        have o := K.all p hp
        refine bind_of (fork_ok H (by show -9223372036854775808 ≤ t.Next; omega)) (bind_of hd1 ?_)
        by_cases e1 : d1 = 0
        · refine ite_t (by simpa using e1) (bind_of (exit_ok H) ?_)
          refine keeps_j1 (fun _ => again _ (by show 0 ≤ a1 + 1; omega) (by show a1 + 1 ≤ _; omega)) (fun he => ?_)
          by_cases hp1 : p.PID = 1
          · rw [if_pos hp1] at he; cases he
          · rw [if_neg hp1]
            have K' := keep_exit K p.PID (by have := o.pid.1; omega) hp1
            refine ⟨K', fun h => absurd rfl h, ?_⟩
            have em : max most 0 = most := by omega
            rw [up (by omega), em]
            exact ih (i + 1) _ _ most ses (by omega) (by omega) (by show 0 ≤ a1 + 1; omega) (by show a1 + 1 ≤ _; omega) K' hm0 hm1 hs
        · refine ite_f (by simpa using e1) (bind_of hd2 ?_)
          by_cases e2 : d2 = 0
          · refine ite_t (by simpa using e2) (bind_of hd3 (bind_of (login_ok H d3 (by show -9223372036854775808 ≤ t.NextSession; omega)) ?_))
            rw [if_pos (show 0 ≤ d3 ∧ d3 ≤ 4294967294 by omega)]
            have bad : ∀ er : Int, er ≠ 0 → ((f_kauditref09_Get noTable p.PID).bind fun y346 => if ((noTable, er).2 == 0) = true then (if y346.2 = true then (if (decide (y346.1.Session ≤ ses)) = true then (some false) else (f_kauditlaw09_ProcessKeeps_j1 t.Next t.NextSession t.Processes most i (f_kauditlaw09_ProcessKeeps_l1 z k) (a1 + 1 + 1 + 1) y346.1.Session noTable.Next noTable.NextSession noTable.Processes 0 er)) else (f_kauditlaw09_ProcessKeeps_j1 t.Next t.NextSession t.Processes most i (f_kauditlaw09_ProcessKeeps_l1 z k) (a1 + 1 + 1 + 1) ses noTable.Next noTable.NextSession noTable.Processes 0 er)) else (f_kauditlaw09_ProcessKeeps_j1 t.Next t.NextSession t.Processes most i (f_kauditlaw09_ProcessKeeps_l1 z k) (a1 + 1 + 1 + 1) ses noTable.Next noTable.NextSession noTable.Processes 0 er)) = some true := by
              intro er her
              refine bind_of (y := (⟨0, 0, 0, 0, 0, 0, 0, 0, (⟨0, 0⟩ : api_File), (⟨#[]⟩ : ByteArray), (⟨#[]⟩ : ByteArray), ([] : List api_Descriptor), false⟩, false)) rfl (ite_f (by simpa using her) ?_)
              exact keeps_j1 (fun _ => again _ (by omega) (by omega)) (fun he => absurd he her)
            by_cases g1 : p.AUID ≠ 4294967295 ∧ p.EUID ≠ 0
            · rw [if_pos g1]; exact bad 1 (by decide)
            · rw [if_neg g1]
              by_cases g2 : t.NextSession ≥ 1073741824
              · rw [if_pos g2]; exact bad 11 (by decide)
              · rw [if_neg g2]
                have K' := keep_login K H.at_ d3 (by omega) (by omega)
                rcases rget _ p.PID K'.small with ⟨r, er, e3, e4⟩ | ⟨r, er, no⟩
                · refine bind_of er (ite_t rfl (ite_t rfl ?_))
                  have e5 : r = { p with AUID := d3, Session := t.NextSession } := K'.uniq e4 (List.mem_of_getElem? (List.getElem?_set_self H.lt)) e3
                  subst e5
                  refine ite_f (by simp only [decide_eq_false_iff_not]; omega) ?_
                  refine keeps_j1 (fun he => absurd rfl he) (fun _ => ⟨K', fun h => absurd rfl h, ?_⟩)
                  have em : max most 0 = most := by omega
                  rw [up (by omega), em]
                  exact ih (i + 1) _ _ most _ (by omega) (by omega) (by show 0 ≤ a1 + 1 + 1 + 1; omega) (by show a1 + 1 + 1 + 1 ≤ _; omega) K' hm0 hm1 (by show t.NextSession < t.NextSession + 1; omega)
                · exact absurd rfl (no { p with AUID := d3, Session := t.NextSession } (List.mem_of_getElem? (List.getElem?_set_self H.lt)))
          · refine ite_f (by simpa using e2) ?_
            refine keeps_j1 (fun _ => again _ (by show 0 ≤ a1 + 1 + 1; omega) (by show a1 + 1 + 1 ≤ _; omega)) (fun he => ?_)
            by_cases g : t.Processes.length ≥ 16 ∨ t.Next ≥ 1073741824
            · rw [if_pos g] at he; cases he
            · rw [if_neg g]
              have K' := keep_fork K hp (by omega) (by omega)
              refine ⟨K', fun _ => hm1, ?_⟩
              have em : max most t.Next = t.Next := by omega
              rw [up (by omega), em]
              exact ih (i + 1) _ _ _ ses (by omega) (by omega) (by show 0 ≤ a1 + 1 + 1; omega) (by show a1 + 1 + 1 ≤ _; omega) K' (by omega) (by show t.Next < t.Next + 1; omega) hs
      · have hno : ∀ p ∈ t.Processes, p.PID ≠ pid := fun p hp e => hin ⟨p, hp, e⟩
        obtain ⟨n, hpl⟩ := no_place K.srt K.small hno
        have hf : f_process_Fork t pid = some (noTable, 0, 3) := by unfold f_process_Fork; exact bind_of hpl (ite_f rfl rfl)
        have hx : f_process_Exit t pid = some (noTable, 3) := by unfold f_process_Exit; exact bind_of hpl (ite_f rfl rfl)
        have hlg : f_process_Login t pid d3 = some (noTable, 3) := by unfold f_process_Login; exact bind_of hpl (ite_f rfl rfl)
        refine bind_of hf (bind_of hd1 ?_)
        by_cases e1 : d1 = 0
        · refine ite_t (by simpa using e1) (bind_of hx ?_)
          exact keeps_j1 (fun _ => again _ (by show 0 ≤ a1 + 1; omega) (by show a1 + 1 ≤ _; omega)) (fun he => by cases he)
        · refine ite_f (by simpa using e1) (bind_of hd2 ?_)
          by_cases e2 : d2 = 0
          · refine ite_t (by simpa using e2) (bind_of hd3 (bind_of hlg ?_))
            refine bind_of (y := (⟨0, 0, 0, 0, 0, 0, 0, 0, (⟨0, 0⟩ : api_File), (⟨#[]⟩ : ByteArray), (⟨#[]⟩ : ByteArray), ([] : List api_Descriptor), false⟩, false)) rfl (ite_f rfl ?_)
            exact keeps_j1 (fun _ => again _ (by show 0 ≤ a1 + 1 + 1 + 1; omega) (by show a1 + 1 + 1 + 1 ≤ _; omega)) (fun he => by cases he)
          · refine ite_f (by simpa using e2) ?_
            exact keeps_j1 (fun _ => again _ (by show 0 ≤ a1 + 1 + 1; omega) (by show a1 + 1 + 1 ≤ _; omega)) (fun he => by cases he)
    · refine ite_f (by simp only [decide_eq_false_iff_not]; omega) ?_
      unfold f_kauditlaw09_ProcessKeeps_j2
      exact bind_of (y := true) (by kernel_rfl) rfl
def first : api_Process := ⟨1, 0, 0, 0, 0, 0, 4294967295, 4294967295, ⟨0, 1⟩, ⟨#[105, 110, 105, 116]⟩, ⟨#[47, 105, 110, 105, 116]⟩, [], true⟩
theorem keep_new : Keep ⟨2, 1, [first]⟩ := by
  refine ⟨⟨by decide, by decide⟩, ⟨by decide, by decide⟩, by decide, ?_, ?_, ⟨first, rfl, rfl, rfl⟩, ?_⟩
  · intro p hp
    obtain rfl := List.mem_singleton.1 hp
    exact ⟨⟨by decide, by decide⟩, ⟨by decide, by decide⟩, ⟨by decide, by decide⟩, ⟨by decide, by decide⟩, ⟨by decide, by decide⟩, ⟨by decide, by decide⟩, .inl rfl, rfl⟩
  · exact srt_iff.2 (List.pairwise_singleton _ _)
  · intro p hp h
    obtain rfl := List.mem_singleton.1 hp
    exact absurd rfl h
theorem keeps_law (z : List Int) : f_kauditlaw09_ProcessKeeps z = some true := by
  unfold f_kauditlaw09_ProcessKeeps
  refine bind_of (y := ⟨2, 1, [first]⟩) rfl ?_
  exact keeps_loop z _ 0 0 ⟨2, 1, [first]⟩ 1 0 (by decide) (by omega) (by omega) (by omega) keep_new (by omega) (by show (1 : Int) < 2; omega) (by show (0 : Int) < 1; omega)
end Go.Proofs.Ytanimjbmkhpnaaa.Gx
