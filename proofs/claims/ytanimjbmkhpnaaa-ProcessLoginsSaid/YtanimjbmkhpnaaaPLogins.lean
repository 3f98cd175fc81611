/- ProcessLogins: the plain law. -/
import Derived.Test.YtanimjbmkhpnaaaX4
import Derived.Test.YtanimjbmkhpnaaaPOps
import Derived.Test.YtanimjbmkhpnaaaPClean
namespace Go.Proofs.Ytanimjbmkhpnaaa.Gx
open Go.Gx Go.RowKit
/-- A table in which the process pid has the login identity A and the session 1. -/
structure LI (t : api_Table) (pid A : Int) (i : Int) : Prop where
  here : ∃ n p, Here t n p ∧ p.PID = pid ∧ p.AUID = A ∧ p.Session = 1 ∧ p.Open = []
  top : ∀ q ∈ t.Processes, q.PID < t.Next
  nx : 0 ≤ t.Next ∧ t.Next ≤ 3 + i
  ns : t.NextSession = 2
theorem li_tail {t : api_Table} {pid A i : Int} (h : LI t pid A i) (hA : 0 ≤ A ∧ A ≤ 65535) (Y : api_Process × Bool) (hY : Y.1.AUID = A ∧ Y.1.Session = 1) {K R : Option (Sum Unit Bool)} (hK : K = R) :
    ((f_process_Get t pid).bind fun y => if y.2 = true then (if (y.1.AUID != Y.1.AUID) = true then (some (Sum.inr (false))) else (if (y.1.Session != Y.1.Session) = true then (some (Sum.inr (false))) else ((f_process_Login t pid 3).bind fun z => if ((z.2 == 1) != (y.1.EUID != 0)) = true then (some (Sum.inr (false))) else K))) else (some (Sum.inr (false)))) = R := by
  obtain ⟨n, p, hp, rfl, ha, hs, _⟩ := h.here
  refine bind_of hp.get (ite_t rfl (ite_f (by simp [ha, hY.1]) (ite_f (by simp [hs, hY.2]) ?_)))
  have hns : ¬ t.NextSession ≥ 1073741824 := by rw [h.ns]; omega
  have hlog := login_ok hp 3 (by rw [h.ns]; omega)
  rw [if_pos (show (0 : Int) ≤ 3 ∧ (3 : Int) ≤ 4294967294 by omega), if_neg hns] at hlog
  by_cases he : p.EUID = 0
  · rw [if_neg (fun k => k.2 he)] at hlog
    exact bind_of hlog (ite_f (by simp [he]) hK)
  · rw [if_pos ⟨by omega, he⟩] at hlog
    exact bind_of hlog (ite_f (by simp [he]) hK)
theorem li_set {t : api_Table} {pid A i j : Int} {n : Nat} {p q : api_Process} (h : LI t pid A i) (hp : Here t n p) (e : p.PID = pid) (h1 : q.PID = p.PID) (h2 : q.AUID = A) (h3 : q.Session = 1) (h4 : q.Open = []) (hi : i ≤ j) : LI ⟨t.Next, t.NextSession, t.Processes.set n q⟩ pid A j := by
  refine ⟨⟨n, q, hp.set q h1 (by rw [h4]; exact Nat.zero_le _) _ _, by rw [h1, e], h2, h3, h4⟩, fun x hx => ?_, ⟨h.nx.1, by have := h.nx.2; show t.Next ≤ _; omega⟩, h.ns⟩
  rcases List.mem_or_eq_of_mem_set hx with hx | rfl
  · exact h.top x hx
  · have := h.top p (List.mem_of_getElem? hp.at_)
    rw [h1]; exact this
theorem LI.mono {t : api_Table} {pid A i j : Int} (h : LI t pid A i) (hi : i ≤ j) : LI t pid A j := ⟨h.here, h.top, ⟨h.nx.1, by have := h.nx.2; omega⟩, h.ns⟩
theorem here_app {t : api_Table} {n : Nat} {p : api_Process} (h : Here t n p) (q : api_Process) (nx ns : Int) (hl : t.Processes.length ≤ 999) (ho : q.Open.length ≤ 1000) (top : ∀ x ∈ t.Processes, x.PID < q.PID) : Here ⟨nx, ns, t.Processes ++ [q]⟩ t.Processes.length q := by
  refine ⟨?_, ⟨by simp; omega, fun x hx => ?_⟩, by simp⟩
  · intro i j a b hij ha hb
    have hj : j < t.Processes.length ∨ j = t.Processes.length := by
      rcases Nat.lt_or_ge j (t.Processes.length + 1) with k | k
      · omega
      · rw [List.getElem?_eq_none (by simp; omega)] at hb; cases hb
    have hi : (t.Processes)[i]? = some a := by
      have : i < t.Processes.length := by omega
      have e : (t.Processes ++ [q])[i]? = t.Processes[i]? := List.getElem?_append_left this
      rw [← e]; exact ha
    rcases hj with hj | rfl
    · have e : (t.Processes ++ [q])[j]? = t.Processes[j]? := List.getElem?_append_left hj
      exact h.srt i j a b hij hi (by rw [← e]; exact hb)
    · have e : (t.Processes ++ [q])[t.Processes.length]? = some q := by simp
      have : q = b := Option.some.inj (e.symm.trans hb)
      subst this
      exact top a (List.mem_of_getElem? hi)
  · rcases List.mem_append.1 hx with hx | hx
    · exact h.small.2 x hx
    · obtain rfl := List.mem_singleton.1 hx; exact ho
theorem li_fin {X : Option (Int × Int × Int × Int × List api_Process)} {a0 : List Int} {A i j : Int} {k : Nat} (hA : 0 ≤ A ∧ A ≤ 65535) (Y : api_Process × Bool) (hY : Y.1.AUID = A ∧ Y.1.Session = 1) {pid c : Int} (t : api_Table)
    (hX : X = some (pid, c, t.Next, t.NextSession, t.Processes)) (h : LI t pid A j) (hK : f_kauditlaw09_ProcessLogins_l1 a0 Y k pid i c t.Next t.NextSession t.Processes = some (Sum.inl ())) :
    (X.bind fun o_ => match o_ with | (x1, x2, x3, x4, x5) => (f_process_Get (⟨x3, x4, x5⟩ : api_Table) x1).bind fun y => if y.2 = true then (if (y.1.AUID != Y.1.AUID) = true then (some (Sum.inr (false))) else (if (y.1.Session != Y.1.Session) = true then (some (Sum.inr (false))) else ((f_process_Login (⟨x3, x4, x5⟩ : api_Table) x1 3).bind fun z => if ((z.2 == 1) != (y.1.EUID != 0)) = true then (some (Sum.inr (false))) else f_kauditlaw09_ProcessLogins_l1 a0 Y k x1 i x2 x3 x4 x5))) else (some (Sum.inr (false)))) = some (Sum.inl ()) := by
  subst hX
  exact li_tail h hA Y hY hK
theorem li_loop (a0 : List Int) (A : Int) (hA : 0 ≤ A ∧ A ≤ 65535) (Y : api_Process × Bool) (hY : Y.1.AUID = A ∧ Y.1.Session = 1) : ∀ (k : Nat) (i : Int) (pid c : Int) (t : api_Table), 0 ≤ i → i ≤ 8 → 9 - i ≤ k → 0 ≤ c → c ≤ 5 * i → LI t pid A i →
    f_kauditlaw09_ProcessLogins_l1 a0 Y k pid i c t.Next t.NextSession t.Processes = some (Sum.inl ()) := by
  intro k
  induction k with
  | zero => intro i pid c t h0 h8 hk; omega
  | succ k ih =>
    intro i pid c t h0 h8 hk hc hc' h
    rw [f_kauditlaw09_ProcessLogins_l1]
    have hT : (⟨t.Next, t.NextSession, t.Processes⟩ : api_Table) = t := rfl
    have w : IntKind.wrap .i64 (i + 1) = i + 1 := wrap_id (by omega) (by omega)
    by_cases hi : i < 8
    · refine ite_t (by simpa using hi) ?_
      obtain ⟨r, hr, r0, r4⟩ := N_ok ⟨a0, c⟩ 4 (by omega) (by omega) hc (by show c < _; omega)
      rw [w, hT]
      obtain ⟨n, p, hp, rfl, ha, hs, ho⟩ := h.here
      have go : ∀ {pid' c' : Int} (t' : api_Table), LI t' pid' A (i + 1) → 0 ≤ c' → c' ≤ 5 * (i + 1) → f_kauditlaw09_ProcessLogins_l1 a0 Y k pid' (i + 1) c' t'.Next t'.NextSession t'.Processes = some (Sum.inl ()) := fun t' h' g g' =>
        ih (i + 1) _ _ t' (by omega) (by omega) (by omega) g g' h'
      have same : LI t p.PID A (i + 1) := h.mono (by omega)
      have turned : ∀ q : api_Process, q.PID = p.PID → q.AUID = A → q.Session = 1 → q.Open = [] → LI ⟨t.Next, t.NextSession, t.Processes.set n q⟩ p.PID A (i + 1) := fun q g1 g2 g3 g4 => li_set h hp rfl g1 g2 g3 g4 (by omega)
      have c1 : (0 : Int) ≤ c + 1 ∧ c + 1 ≤ 5 * (i + 1) := by omega
      have c2 : (0 : Int) ≤ c + 1 + 1 ∧ c + 1 + 1 ≤ 5 * (i + 1) := by omega
      by_cases r_0 : r = 0
      · have hf := fork_ok hp (by have := h.nx.1; omega)
        by_cases hbig : t.Processes.length ≥ 16 ∨ t.Next ≥ 1073741824
        · rw [if_pos hbig] at hf
          exact li_fin hA Y hY t (bind_of hr (ite_t (by simpa using r_0) (bind_of hf (ite_f rfl rfl)))) same (go t same c1.1 c1.2)
        · rw [if_neg hbig] at hf
          have hnew : LI ⟨t.Next + 1, t.NextSession, t.Processes ++ [{ p with PID := t.Next, PPID := p.PID }]⟩ t.Next A (i + 1) := by
            refine ⟨⟨_, _, here_app hp _ _ _ (by omega) (by show p.Open.length ≤ 1000; rw [ho]; exact Nat.zero_le _) h.top, rfl, ha, hs, ho⟩, fun q hq => ?_, ⟨by have := h.nx.1; show 0 ≤ t.Next + 1; omega, by have := h.nx.2; show t.Next + 1 ≤ _; omega⟩, h.ns⟩
            show q.PID < t.Next + 1
            rcases List.mem_append.1 hq with hq | hq
            · have := h.top q hq; omega
            · obtain rfl := List.mem_singleton.1 hq
              show t.Next < t.Next + 1
              omega
          exact li_fin hA Y hY _ (bind_of hr (ite_t (by simpa using r_0) (bind_of hf (ite_t rfl rfl)))) hnew (go _ hnew c1.1 c1.2)
      · have n0 : ((r, c + 1).1 == 0) = false := by simpa using r_0
        by_cases r_1 : r = 1
        · have n1 : ((r, c + 1).1 == 1) = true := by simpa using r_1
          obtain ⟨u, hu, _, _⟩ := N_ok ⟨a0, c + 1⟩ 9 (by omega) (by omega) c1.1 (by show c + 1 < _; omega)
          have hf := setuid_ok hp u
          split at hf
          · split at hf
            · have hn := turned { p with UID := u, EUID := u } rfl ha hs ho
              exact li_fin hA Y hY _ (bind_of hr (ite_f n0 (ite_t n1 (bind_of hu (bind_of hf (ite_t rfl rfl)))))) hn (go _ hn c2.1 c2.2)
            · split at hf
              · have hn := turned { p with EUID := u } rfl ha hs ho
                exact li_fin hA Y hY _ (bind_of hr (ite_f n0 (ite_t n1 (bind_of hu (bind_of hf (ite_t rfl rfl)))))) hn (go _ hn c2.1 c2.2)
              · exact li_fin hA Y hY t (bind_of hr (ite_f n0 (ite_t n1 (bind_of hu (bind_of hf (ite_f rfl rfl)))))) same (go t same c2.1 c2.2)
          · exact li_fin hA Y hY t (bind_of hr (ite_f n0 (ite_t n1 (bind_of hu (bind_of hf (ite_f rfl rfl)))))) same (go t same c2.1 c2.2)
        · have n1 : ((r, c + 1).1 == 1) = false := by simpa using r_1
          by_cases r_2 : r = 2
          · have n2 : ((r, c + 1).1 == 2) = true := by simpa using r_2
            obtain ⟨u, hu, _, _⟩ := N_ok ⟨a0, c + 1⟩ 9 (by omega) (by omega) c1.1 (by show c + 1 < _; omega)
            have hf := setgid_ok hp u
            split at hf
            · split at hf
              · have hn := turned { p with GID := u, EGID := u } rfl ha hs ho
                exact li_fin hA Y hY _ (bind_of hr (ite_f n0 (ite_f n1 (ite_t n2 (bind_of hu (bind_of hf (ite_t rfl rfl))))))) hn (go _ hn c2.1 c2.2)
              · split at hf
                · have hn := turned { p with EGID := u } rfl ha hs ho
                  exact li_fin hA Y hY _ (bind_of hr (ite_f n0 (ite_f n1 (ite_t n2 (bind_of hu (bind_of hf (ite_t rfl rfl))))))) hn (go _ hn c2.1 c2.2)
                · exact li_fin hA Y hY t (bind_of hr (ite_f n0 (ite_f n1 (ite_t n2 (bind_of hu (bind_of hf (ite_f rfl rfl))))))) same (go t same c2.1 c2.2)
            · exact li_fin hA Y hY t (bind_of hr (ite_f n0 (ite_f n1 (ite_t n2 (bind_of hu (bind_of hf (ite_f rfl rfl))))))) same (go t same c2.1 c2.2)
          · have n2 : ((r, c + 1).1 == 2) = false := by simpa using r_2
            have r_3 : r = 3 := by omega
            have n3 : ((r, c + 1).1 == 3) = true := by simpa using r_3
            obtain ⟨str, c', hcl, g0, g1, _⟩ := Clean_ok ⟨a0, c + 1⟩ c1.1 (by show c + 1 < _; omega)
            have g0' : c + 1 ≤ c' := g0
            have g1' : c' ≤ c + 1 + 4 := g1
            have hf := exec_ok hp str ⟨#[97]⟩
            have hn := turned { p with Exe := str, Comm := ⟨#[97]⟩ } rfl ha hs ho
            exact li_fin hA Y hY _ (bind_of hr (ite_f n0 (ite_f n1 (ite_f n2 (ite_t n3 (bind_of hcl (bind_of hf (ite_t rfl rfl)))))))) hn (go _ hn (by omega) (by omega))
    · exact ite_f (by simpa using hi) rfl
def l_one : api_Process := ⟨1, 0, 0, 0, 0, 0, 4294967295, 4294967295, ⟨0, 1⟩, ⟨#[105, 110, 105, 116]⟩, ⟨#[47, 105, 110, 105, 116]⟩, [], true⟩
def l_two (A S : Int) : api_Process := ⟨2, 1, 0, 0, 0, 0, A, S, ⟨0, 1⟩, ⟨#[105, 110, 105, 116]⟩, ⟨#[47, 105, 110, 105, 116]⟩, [], true⟩
def lT (A S n : Int) : api_Table := ⟨3, n, [l_one, l_two A S]⟩
theorem l_new : f_process_New ⟨0, 1⟩ = some ⟨2, 1, [l_one]⟩ := by kernel_rfl
theorem l_fork : f_process_Fork ⟨2, 1, [l_one]⟩ 1 = some (lT 4294967295 4294967295 1, 2, 0) := by kernel_rfl
theorem l_awake : f_kauditlaw09_awake = some true := by kernel_rfl
theorem l_here (A S n : Int) : Here (lT A S n) 1 (l_two A S) := by
  refine ⟨?_, ⟨by show 2 ≤ 1000; omega, fun p hp => ?_⟩, rfl⟩
  · intro i j p q hij hp hq
    have hj : j < 2 := by
      rcases Nat.lt_or_ge j 2 with h | h
      · exact h
      · rw [List.getElem?_eq_none h] at hq; cases hq
    obtain rfl : j = 1 := by omega
    obtain rfl : i = 0 := by omega
    obtain rfl := Option.some.inj hp
    obtain rfl := Option.some.inj hq
    show (1 : Int) < 2
    omega
  · simp only [lT, List.mem_cons, List.not_mem_nil, or_false] at hp
    rcases hp with rfl | rfl <;> exact Nat.zero_le _
theorem logins (a0 : List Int) (a1 : Int) (h : 0 ≤ a1 ∧ a1 ≤ 65535) : f_kauditlaw09_ProcessLogins a0 a1 = some true := by
  unfold f_kauditlaw09_ProcessLogins
  have w : IntKind.wrap .i64 a1 = a1 := wrap_id (by omega) (by omega)
  rw [w]
  have hl := login_ok (l_here 4294967295 4294967295 1) a1 (by show -9223372036854775808 ≤ (1 : Int); omega)
  rw [if_pos (by omega)] at hl
  rw [if_neg (fun k => k.1 rfl), if_neg (show ¬ (lT 4294967295 4294967295 1).NextSession ≥ 1073741824 from by show ¬ (1 : Int) ≥ 1073741824; omega)] at hl
  have hl' : f_process_Login (lT 4294967295 4294967295 1) 2 a1 = some (lT a1 1 2, 0) := hl
  have hg : f_process_Get (lT a1 1 2) 2 = some (l_two a1 1, true) := (l_here a1 1 2).get
  refine bind_of l_new (bind_of l_fork (bind_of hl' (bind_of hg ?_)))
  refine ite_f rfl (ite_f rfl (ite_t rfl (ite_f (by simp [l_two]) (ite_f rfl ?_))))
  have loop := li_loop a0 a1 h (l_two a1 1, true) ⟨rfl, rfl⟩ 9 0 2 0 (lT a1 1 2) (by omega) (by omega) (by omega) (by omega) (by omega)
    ⟨⟨1, l_two a1 1, l_here a1 1 2, rfl, rfl, rfl, rfl⟩, fun q hq => by
      simp only [lT, List.mem_cons, List.not_mem_nil, or_false] at hq
      rcases hq with rfl | rfl
      · show (1 : Int) < 3; omega
      · show (2 : Int) < 3; omega, ⟨by show (0 : Int) ≤ 3; omega, by show (3 : Int) ≤ 3 + 0; omega⟩, rfl⟩
  have e9 : ((8 : Int) - 0).toNat + 1 = 9 := rfl
  rw [e9]
  exact bind_of loop (bind_of l_awake rfl)
theorem logins_law (a0 : List Int) (a1 : Int) (_ : ∀ n ∈ a0, (Lit.int .i64 n).wf = true) (_ : a0.length ≤ maxLen) (h1 : (Lit.int .u16 a1).wf = true) : f_kauditlaw09_ProcessLogins a0 a1 = some true := by
  simp only [Lit.wf, Bool.and_eq_true, decide_eq_true_eq] at h1
  exact logins a0 a1 h1
end Go.Proofs.Ytanimjbmkhpnaaa.Gx
