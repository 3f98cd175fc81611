/- ProcessDescriptors: the plain law. -/
import Derived.Test.YtanimjbmkhpnaaaY7
import Derived.Test.YtanimjbmkhpnaaaQExit
namespace Go.Proofs.Ytanimjbmkhpnaaa.Gx
open Go.Gx Go.RowKit
/-- The descriptors without one number. -/
def outD (fd : Int) (l : List api_Descriptor) : List api_Descriptor := l.filter fun d => d.FD != fd
theorem close_l1 (fd : Int) (y : Int × Bool) (t : api_Table) (p : api_Process) (hl : p.Open.length < 1000000) :
    ∀ (k i : Nat), p.Open.length - i + 1 ≤ k → i ≤ p.Open.length → (∀ m d, m < i → p.Open[m]? = some d → d.FD ≠ fd) →
    (∃ (n : Nat) (d : api_Descriptor), f_process_CloseFile_l1 fd y t p k i = f_process_CloseFile_j1 fd y t p (n : Int) ∧ p.Open[n]? = some d ∧ d.FD = fd ∧ ∀ m d, m < n → p.Open[m]? = some d → d.FD ≠ fd) ∨
    (f_process_CloseFile_l1 fd y t p k i = f_process_CloseFile_j1 fd y t p (-1) ∧ ∀ d ∈ p.Open, d.FD ≠ fd) := by
  intro k
  induction k with
  | zero => intro i h; omega
  | succ k ih =>
    intro i hk hi hb
    rw [f_process_CloseFile_l1]
    by_cases h : i < p.Open.length
    · obtain ⟨u, hu, _⟩ := got h
      rw [if_pos (by simp only [decide_eq_true_eq]; omega), at_nat hu, Option.bind_some, up (by omega)]
      by_cases e : u.FD = fd
      · left
        exact ⟨i, u, ite_t (by simpa using e) rfl, hu, e, hb⟩
      · rw [if_neg (by simpa using e)]
        exact ih (i + 1) (by omega) (by omega) (fun m d hm hd => by
          by_cases hmi : m = i
          · subst hmi; rw [hu] at hd; obtain rfl := Option.some.inj hd; exact e
          · exact hb m d (by omega) hd)
    · right
      refine ⟨ite_f (by simp only [decide_eq_false_iff_not]; omega) rfl, fun d hd => ?_⟩
      obtain ⟨m, hm', rfl⟩ := List.mem_iff_getElem.1 hd
      exact hb m _ (by omega) (List.getElem?_eq_getElem hm')
theorem close_l2 (fd : Int) (y : Int × Bool) (t : api_Table) (p : api_Process) (ps : List api_Descriptor) (hl : ps.length < 1000000) :
    ∀ (k : Nat) (xs : List api_Descriptor) (w r : Nat), ps.length - r + 1 ≤ k → xs.length = ps.length → r ≤ ps.length → w < r → xs.take w = outD fd (ps.take r) → xs.drop r = ps.drop r →
    ∃ (ys : List api_Descriptor) (w' : Nat), f_process_CloseFile_l2 fd y t p k xs w r = f_process_CloseFile_j3 y t p ys w' ∧ ys.take w' = outD fd ps ∧ w' ≤ ys.length ∧ ys.length = ps.length := by
  intro k
  induction k with
  | zero => intro xs w r h; omega
  | succ k ih =>
    intro xs w r hk hx hr hw h1 h2
    rw [f_process_CloseFile_l2]
    by_cases h : r < ps.length
    · rw [if_pos (by simp only [decide_eq_true_eq]; omega)]
      obtain ⟨u, hu, _⟩ := got (l := ps) (i := r) h
      have hux : xs[r]? = some u := by
        have a := drop_up hu
        rw [← h2] at a
        have b : (xs.drop r)[0]? = some u := by rw [a]; rfl
        simpa using b
      have hd : xs.drop (r + 1) = ps.drop (r + 1) := by
        have a := drop_up hu
        rw [← h2, drop_up hux] at a
        exact (List.cons.inj a).2
      by_cases e : u.FD = fd
      · obtain ⟨ys, w', a, b⟩ := ih xs w (r + 1) (by omega) hx (by omega) (by omega) (by rw [take_up hu, outD, List.filter_append, ← outD, ← h1]; simp [e]) hd
        refine ⟨ys, w', (bind_of (at_nat hux) (ite_t (by simpa using e) ?_)), b⟩
        rw [up (by omega)]
        exact a
      · obtain ⟨v, hv, _⟩ := got (l := xs) (i := w) (by omega)
        obtain ⟨ys, w', a, b⟩ := ih (xs.set w u) (w + 1) (r + 1) (by omega) (by simpa using hx) (by omega) (by omega) (by
            rw [take_up hu, outD, List.filter_append, ← outD, ← h1, take_up (u := u) (by rw [List.getElem?_set_self (by omega)]), List.take_set_of_le (by omega)]; simp [e]) (by rw [List.drop_set_of_lt (by omega)]; exact hd)
        refine ⟨ys, w', (bind_of (at_nat hux) (ite_f (by simpa using e) (bind_of (at_nat hv) ?_))), b⟩
        rw [up (by omega), up (by omega)]
        exact a
    · rw [if_neg (by simp only [decide_eq_true_eq]; omega)]
      obtain rfl : r = ps.length := by omega
      exact ⟨xs, w, rfl, by rw [h1, List.take_length], by omega, hx⟩
theorem close_no {t : api_Table} {n : Nat} {p : api_Process} (h : Here t n p) (fd : Int) (hno : ∀ d ∈ p.Open, d.FD ≠ fd) : f_process_CloseFile t p.PID fd = some (noTable, 9) := by
  unfold f_process_CloseFile
  have hl := h.small.2 p (List.mem_of_getElem? h.at_)
  refine bind_of h.place (ite_t rfl (bind_of (table_ok t h.small) (bind_of (at_nat h.at_) ?_)))
  rcases close_l1 fd ((n : Int), true) t p (by omega) _ 0 (Nat.le_refl _) (Nat.zero_le _) (fun m d hm => by omega) with ⟨m, d, _, hd, e, _⟩ | ⟨e, _⟩
  · exact absurd e (hno d (List.mem_of_getElem? hd))
  · refine Eq.trans e ?_
    unfold f_process_CloseFile_j1 f_process_CloseFile_j2 f_process_CloseFile_j4 f_process_CloseFile_j5
    exact ite_t rfl (ite_t (by simp) rfl)
theorem close_yes {t : api_Table} {n : Nat} {p : api_Process} (h : Here t n p) (fd : Int) (hyes : ∃ d ∈ p.Open, d.FD = fd) : f_process_CloseFile t p.PID fd = some (⟨t.Next, t.NextSession, t.Processes.set n { p with Open := outD fd p.Open }⟩, 0) := by
  unfold f_process_CloseFile
  have hl := h.small.2 p (List.mem_of_getElem? h.at_)
  refine bind_of h.place (ite_t rfl (bind_of (table_ok t h.small) (bind_of (at_nat h.at_) ?_)))
  rcases close_l1 fd ((n : Int), true) t p (by omega) _ 0 (Nat.le_refl _) (Nat.zero_le _) (fun m d hm => by omega) with ⟨m, d, e, hd, hfd, hb⟩ | ⟨_, e⟩
  · refine Eq.trans e ?_
    have hm : m < p.Open.length := (List.getElem?_eq_some_iff.1 hd).1
    unfold f_process_CloseFile_j1 f_process_CloseFile_j2
    refine ite_f (by simp only [beq_eq_false_iff_ne]; omega) ?_
    rw [up (by omega)]
    have hfil : (p.Open.take m).filter (fun q => q.FD != fd) = p.Open.take m := by
      rw [List.filter_eq_self]
      intro q hq
      obtain ⟨m', hm2, rfl⟩ := List.mem_iff_getElem.1 hq
      have hm' : m' < m ∧ m' < p.Open.length := by rw [List.length_take] at hm2; omega
      have := hb m' p.Open[m'] hm'.1 (List.getElem?_eq_getElem hm'.2)
      simpa using this
    obtain ⟨ys, w, a, b, c, d'⟩ := close_l2 fd ((n : Int), true) t p p.Open (by omega) ((((p.Open.length : Int) : Int) - ((m + 1 : Nat) : Int)).toNat + 1) p.Open m (m + 1) (by omega) rfl (by omega) (by omega) (by
        rw [take_up hd, outD, List.filter_append, hfil]; simp [hfd]) rfl
    rw [a]
    unfold f_process_CloseFile_j3
    have ez : ∀ z : api_Descriptor, cut (zeroed z ys w (ys.length : Int)) 0 w = outD fd p.Open := by
      intro z
      rw [← b]
      unfold cut zeroed
      show List.drop 0 (List.take w (List.take w ys ++ _)) = _
      rw [List.drop_zero, List.take_append_of_le_length (by simp; omega), List.take_take, Nat.min_self]
    have hlt : (outD fd p.Open).length < p.Open.length := by
      have h2 : outD fd p.Open = outD fd (p.Open.take m) ++ outD fd (p.Open.drop m) := by unfold outD; rw [← List.filter_append, List.take_append_drop]
      have h3 : (outD fd (p.Open.drop m)).length ≤ (p.Open.drop (m + 1)).length := by
        rw [drop_up hd]; unfold outD; rw [List.filter_cons_of_neg (by simp [hfd])]; exact List.length_filter_le _ _
      have h4 : (outD fd (p.Open.take m)).length ≤ (p.Open.take m).length := List.length_filter_le _ _
      rw [h2, List.length_append]
      rw [List.length_drop] at h3
      rw [List.length_take] at h4
      omega
    refine ck_of ⟨by omega, by omega, by omega⟩ (ck_of ⟨by omega, by omega, ?_⟩ ?_)
    · unfold zeroed; simp; omega
    · rw [ez]
      unfold f_process_CloseFile_j4 f_process_CloseFile_j5
      refine ite_f (by simp only [beq_eq_false_iff_ne]; omega) ?_
      rfl
  · obtain ⟨d, hd, h1⟩ := hyes
    exact absurd h1 (e d hd)
/-! OpenFile: the least free number. -/
theorem open_l1 (f : api_File) (g : Int) (y : Int × Bool) (t : api_Table) (p : api_Process) (hl : p.Open.length < 1000000) :
    ∀ (k i : Nat), p.Open.length - i + 1 ≤ k → i ≤ p.Open.length → (∀ m d, m < i → p.Open[m]? = some d → d.FD = m) →
    ∃ n : Nat, f_process_OpenFile_l1 f g y t p k i = f_process_OpenFile_j1 f g y t p (n : Int) ∧ n ≤ p.Open.length ∧ (∀ m d, m < n → p.Open[m]? = some d → d.FD = m) ∧ ∀ d, p.Open[n]? = some d → d.FD ≠ n := by
  intro k
  induction k with
  | zero => intro i h; omega
  | succ k ih =>
    intro i hk hi hb
    rw [f_process_OpenFile_l1]
    by_cases h : i < p.Open.length
    · obtain ⟨u, hu, _⟩ := got h
      rw [if_pos (by simp only [decide_eq_true_eq]; omega), at_nat hu, Option.bind_some, up (by omega)]
      by_cases e : u.FD = i
      · rw [if_pos (by simpa using e)]
        exact ih (i + 1) (by omega) (by omega) (fun m d hm hd => by
          by_cases hmi : m = i
          · subst hmi; rw [hu] at hd; obtain rfl := Option.some.inj hd; exact e
          · exact hb m d (by omega) hd)
      · exact ⟨i, ite_f (by simpa using e) rfl, hi, hb, fun d hd => by rw [hu] at hd; obtain rfl := Option.some.inj hd; exact e⟩
    · exact ⟨i, ite_f (by simp only [decide_eq_false_iff_not]; omega) rfl, hi, hb, fun d hd => by rw [List.getElem?_eq_none (by omega)] at hd; cases hd⟩
theorem open_full {t : api_Table} {n : Nat} {p : api_Process} (h : Here t n p) (f : api_File) (g : Int) (hf : p.Open.length ≥ 8) : f_process_OpenFile t p.PID f g = some (noTable, 0, 24) := by
  unfold f_process_OpenFile
  exact bind_of h.place (ite_t rfl (bind_of (table_ok t h.small) (bind_of (at_nat h.at_) (ite_t (by simp only [decide_eq_true_eq]; omega) rfl))))
theorem open_ok {t : api_Table} {n : Nat} {p : api_Process} (h : Here t n p) (f : api_File) (g : Int) (hf : p.Open.length < 8) :
    ∃ x : Nat, x ≤ p.Open.length ∧ (∀ m d, m < x → p.Open[m]? = some d → d.FD = m) ∧ (∀ d, p.Open[x]? = some d → d.FD ≠ x) ∧
      f_process_OpenFile t p.PID f g = some ((⟨t.Next, t.NextSession, t.Processes.set n { p with Open := p.Open.take x ++ [((⟨x, f, g⟩ : api_Descriptor) : api_Descriptor)] ++ p.Open.drop x }⟩ : api_Table), (x : Int), 0) := by
  obtain ⟨x, e, h1, h2, h3⟩ := open_l1 f g ((n : Int), true) t p (by omega) ((((p.Open.length : Int) : Int) - 0).toNat + 1) 0 (by omega) (by omega) (fun m d hm => by omega)
  refine ⟨x, h1, h2, h3, ?_⟩
  unfold f_process_OpenFile
  refine bind_of h.place (ite_t rfl (bind_of (table_ok t h.small) (bind_of (at_nat h.at_) (ite_f (by simp only [decide_eq_false_iff_not]; omega) (Eq.trans e ?_)))))
  unfold f_process_OpenFile_j1
  refine bind_of (y := p.Open.take x ++ [(⟨x, f, g⟩ : api_Descriptor)] ++ p.Open.drop x) ?_ rfl
  unfold f_slices_Insert_api_Descriptor_api_Descriptor
  refine ck_of ⟨by omega, by omega⟩ (ck_of ?_ rfl)
  unfold fits
  simp only [List.length_cons, List.length_nil, decide_eq_true_eq]; omega
/-! The invariant. -/
def rise (l : List api_Descriptor) : Prop := l.Pairwise fun a b => a.FD < b.FD
theorem rise_get {l : List api_Descriptor} (h : rise l) {i j : Nat} {a b : api_Descriptor} (hij : i < j) (ha : l[i]? = some a) (hb : l[j]? = some b) : a.FD < b.FD := by
  obtain ⟨hi, rfl⟩ := List.getElem?_eq_some_iff.1 ha
  obtain ⟨hj, rfl⟩ := List.getElem?_eq_some_iff.1 hb
  exact List.pairwise_iff_getElem.1 h i j hi hj hij
theorem rise_gap {l : List api_Descriptor} (h : rise l) : ∀ (k i : Nat) (a b : api_Descriptor), l[i]? = some a → l[i + k]? = some b → a.FD + k ≤ b.FD := by
  intro k
  induction k with
  | zero => intro i a b ha hb; rw [Nat.add_zero, ha] at hb; obtain rfl := Option.some.inj hb; omega
  | succ k ih =>
    intro i a b ha hb
    have hlt : i + (k + 1) < l.length := (List.getElem?_eq_some_iff.1 hb).1
    obtain ⟨c, hc, _⟩ := got (l := l) (i := i + k) (by omega)
    have h1 := ih i a c ha hc
    have h2 := rise_get h (show i + k < i + (k + 1) by omega) hc hb
    omega
structure Inv (t : api_Table) (o : List Bool) (p : api_Process) : Prop where
  tab : t.Processes = [p]
  pid : p.PID = 1
  len : o.length = 8
  rise : rise p.Open
  low : ∀ d ∈ p.Open, 0 ≤ d.FD ∧ d.FD < 8
  same : ∀ i : Nat, i < 8 → (o[i]? = some true ↔ ∃ d ∈ p.Open, d.FD = i)
theorem Inv.count {t : api_Table} {o : List Bool} {p : api_Process} (h : Inv t o p) : p.Open.length ≤ 8 := by
  rcases Nat.lt_or_ge 8 p.Open.length with k | k
  · obtain ⟨a, ha, ma⟩ := got (l := p.Open) (i := 0) (by omega)
    obtain ⟨b, hb, mb⟩ := got (l := p.Open) (i := 8) (by omega)
    have := rise_gap h.rise 8 0 a b ha hb
    have := (h.low a ma).1
    have := (h.low b mb).2
    omega
  · exact k
theorem Inv.here {t : api_Table} {o : List Bool} {p : api_Process} (h : Inv t o p) : Here t 0 p := by
  refine ⟨?_, ⟨?_, ?_⟩, ?_⟩
  · rw [h.tab]
    intro i j a b hij ha hb
    have := (List.getElem?_eq_some_iff.1 hb).1
    simp at this; omega
  · rw [h.tab]; simp
  · rw [h.tab]; intro q hq; obtain rfl := List.mem_singleton.1 hq; have := h.count; omega
  · rw [h.tab]; rfl
theorem Inv.index {t : api_Table} {o : List Bool} {p : api_Process} (h : Inv t o p) {m : Nat} {d : api_Descriptor} (hd : p.Open[m]? = some d) : (m : Int) ≤ d.FD := by
  have hlt : m < p.Open.length := (List.getElem?_eq_some_iff.1 hd).1
  obtain ⟨a, ha, ma⟩ := got (l := p.Open) (i := 0) (by omega)
  have := rise_gap h.rise m 0 a d ha (by rw [Nat.zero_add]; exact hd)
  have := (h.low a ma).1
  omega
/-- Eight are open: all. -/
theorem Inv.full {t : api_Table} {o : List Bool} {p : api_Process} (h : Inv t o p) (h8 : p.Open.length ≥ 8) : ∀ i : Nat, i < 8 → o[i]? = some true := by
  intro i hi
  have hc := h.count
  obtain ⟨d, hd, md⟩ := got (l := p.Open) (i := i) (by omega)
  obtain ⟨b, hb, mb⟩ := got (l := p.Open) (i := i + (7 - i)) (by omega)
  have h1 := h.index hd
  have h2 := rise_gap h.rise (7 - i) i d b hd hb
  have h3 := (h.low b mb).2
  exact (h.same i hi).2 ⟨d, md, by omega⟩
theorem Inv.free {t : api_Table} {o : List Bool} {p : api_Process} (h : Inv t o p) {x : Nat} (hx : x ≤ p.Open.length) (h1 : ∀ m d, m < x → p.Open[m]? = some d → d.FD = m) (h2 : ∀ d, p.Open[x]? = some d → d.FD ≠ x) (h8 : p.Open.length < 8) :
    (∀ i : Nat, i < x → o[i]? = some true) ∧ (∀ d ∈ p.Open, d.FD ≠ x) ∧ (∀ d ∈ p.Open.drop x, (x : Int) < d.FD) ∧ (∀ d ∈ p.Open.take x, d.FD < x) := by
  have big : ∀ m d, x ≤ m → p.Open[m]? = some d → (x : Int) < d.FD := by
    intro m d hm hd
    have hlt : m < p.Open.length := (List.getElem?_eq_some_iff.1 hd).1
    obtain ⟨b, hb, mb⟩ := got (l := p.Open) (i := x) (by omega)
    have a1 := h.index hb
    have a2 := h2 b hb
    have a3 := rise_gap h.rise (m - x) x b d hb (by rw [show x + (m - x) = m by omega]; exact hd)
    omega
  refine ⟨fun i hi => ?_, fun d hd e => ?_, fun d hd => ?_, fun d hd => ?_⟩
  · obtain ⟨d, hd, md⟩ := got (l := p.Open) (i := i) (by omega)
    exact (h.same i (by omega)).2 ⟨d, md, h1 i d hi hd⟩
  · obtain ⟨m, hm, rfl⟩ := List.mem_iff_getElem.1 hd
    have hg := List.getElem?_eq_getElem hm
    rcases Nat.lt_or_ge m x with k | k
    · have := h1 m _ k hg; omega
    · have := big m _ k hg; omega
  · obtain ⟨m, hm, rfl⟩ := List.mem_iff_getElem.1 hd
    rw [List.length_drop] at hm
    refine big (x + m) _ (by omega) ?_
    rw [List.getElem_drop]
    exact List.getElem?_eq_getElem (by omega)
  · obtain ⟨m, hm, rfl⟩ := List.mem_iff_getElem.1 hd
    rw [List.length_take] at hm
    rw [List.getElem_take]
    have := h1 m _ (by omega) (List.getElem?_eq_getElem (by omega))
    omega
theorem inv_close {t : api_Table} {o : List Bool} {p : api_Process} (h : Inv t o p) (fd : Nat) (hfd : fd < 8) : Inv ⟨t.Next, t.NextSession, t.Processes.set 0 { p with Open := outD fd p.Open }⟩ (o.set fd false) { p with Open := outD fd p.Open } := by
  refine ⟨by show t.Processes.set 0 _ = _; rw [h.tab]; rfl, h.pid, by simpa using h.len, h.rise.filter _, fun d hd => h.low d (List.mem_filter.1 hd).1, fun i hi => ?_⟩
  have hl := h.len
  show (o.set fd false)[i]? = some true ↔ ∃ d ∈ outD fd p.Open, d.FD = i
  by_cases e : i = fd
  · subst e
    rw [List.getElem?_set_self (by omega)]
    constructor
    · intro k; cases k
    · rintro ⟨d, hd, k⟩
      have := (List.mem_filter.1 hd).2
      simp [k] at this
  · rw [List.getElem?_set_ne (fun k => e k.symm), h.same i hi]
    constructor
    · rintro ⟨d, hd, k⟩
      exact ⟨d, List.mem_filter.2 ⟨hd, by simp [k]; omega⟩, k⟩
    · rintro ⟨d, hd, k⟩
      exact ⟨d, (List.mem_filter.1 hd).1, k⟩
theorem inv_open {t : api_Table} {o : List Bool} {p : api_Process} (h : Inv t o p) (f : api_File) (g : Int) {x : Nat} (hx : x < 8) (h0 : ∀ d ∈ p.Open, d.FD ≠ x) (h1 : ∀ d ∈ p.Open.drop x, (x : Int) < d.FD) (h2 : ∀ d ∈ p.Open.take x, d.FD < x) :
    Inv ⟨t.Next, t.NextSession, t.Processes.set 0 { p with Open := p.Open.take x ++ [(⟨x, f, g⟩ : api_Descriptor)] ++ p.Open.drop x }⟩ (o.set x true) { p with Open := p.Open.take x ++ [(⟨x, f, g⟩ : api_Descriptor)] ++ p.Open.drop x } := by
  have hl := h.len
  have mem : ∀ d, d ∈ p.Open.take x ++ [(⟨x, f, g⟩ : api_Descriptor)] ++ p.Open.drop x ↔ d ∈ p.Open ∨ d = ⟨x, f, g⟩ := by
    intro d
    have e : d ∈ p.Open ↔ d ∈ p.Open.take x ∨ d ∈ p.Open.drop x := by rw [← List.mem_append, List.take_append_drop]
    rw [e]
    simp only [List.mem_append, List.mem_singleton]
    constructor
    · rintro ((k | k) | k)
      · exact .inl (.inl k)
      · exact .inr k
      · exact .inl (.inr k)
    · rintro ((k | k) | k)
      · exact .inl (.inl k)
      · exact .inr k
      · exact .inl (.inr k)
  refine ⟨by show t.Processes.set 0 _ = _; rw [h.tab]; rfl, h.pid, by simpa using hl, ?_, fun d hd => ?_, fun i hi => ?_⟩
  · show List.Pairwise _ (p.Open.take x ++ [(⟨x, f, g⟩ : api_Descriptor)] ++ p.Open.drop x)
    rw [List.pairwise_append, List.pairwise_append]
    have hr : (p.Open.take x ++ p.Open.drop x).Pairwise fun a b => a.FD < b.FD := by rw [List.take_append_drop]; exact h.rise
    rw [List.pairwise_append] at hr
    refine ⟨⟨hr.1, List.pairwise_singleton _ _, fun a ha b hb => ?_⟩, hr.2.1, fun a ha b hb => ?_⟩
    · obtain rfl := List.mem_singleton.1 hb; exact h2 a ha
    · rcases List.mem_append.1 ha with k | k
      · exact hr.2.2 a k b hb
      · obtain rfl := List.mem_singleton.1 k; exact h1 b hb
  · rcases (mem d).1 hd with k | rfl
    · exact h.low d k
    · exact ⟨by show (0 : Int) ≤ (x : Int); omega, by show (x : Int) < 8; omega⟩
  · show (o.set x true)[i]? = some true ↔ ∃ d ∈ p.Open.take x ++ [(⟨x, f, g⟩ : api_Descriptor)] ++ p.Open.drop x, d.FD = i
    by_cases e : i = x
    · subst e
      rw [List.getElem?_set_self (by omega)]
      exact ⟨fun _ => ⟨⟨i, f, g⟩, (mem _).2 (.inr rfl), rfl⟩, fun _ => rfl⟩
    · rw [List.getElem?_set_ne (fun k => e k.symm), h.same i hi]
      constructor
      · rintro ⟨d, hd, k⟩; exact ⟨d, (mem d).2 (.inl hd), k⟩
      · rintro ⟨d, hd, k⟩
        rcases (mem d).1 hd with k2 | rfl
        · exact ⟨d, k2, k⟩
        · exact absurd (show (x : Int) = i from k) (by omega)
/-! The law. -/
theorem d_free (a b : Int) (l : List api_Process) (o : List Bool) (i : Int) (y : Int × Int) (rec : Int → Int → Int → List api_Process → List Bool → Int → Option Bool) (ho : o.length = 8) : ∀ (k j : Nat), 8 - j + 1 ≤ k → j ≤ 8 → (∀ m, m < j → o[m]? = some true) →
    ∃ n : Nat, f_kauditlaw09_ProcessDescriptors_l2 a b l o i y rec k j = f_kauditlaw09_ProcessDescriptors_j2 a b l o i y rec (n : Int) ∧ n ≤ 8 ∧ (∀ m, m < n → o[m]? = some true) ∧ (n < 8 → o[n]? = some false) := by
  intro k
  induction k with
  | zero => intro j h; omega
  | succ k ih =>
    intro j hk hj hb
    rw [f_kauditlaw09_ProcessDescriptors_l2]
    by_cases h : j < 8
    · obtain ⟨u, hu, _⟩ := got (l := o) (i := j) (by omega)
      rw [if_pos (by simp only [decide_eq_true_eq]; omega), ck_true ⟨by omega, by omega⟩, at_nat hu, Option.bind_some, up (by omega)]
      cases u with
      | true =>
        rw [if_pos rfl]
        exact ih (j + 1) (by omega) (by omega) (fun m hm => by
          by_cases e : m = j
          · subst e; exact hu
          · exact hb m (by omega))
      | false => exact ⟨j, rfl, hj, hb, fun _ => hu⟩
    · exact ⟨j, ite_f (by simp only [decide_eq_false_iff_not]; omega) rfl, hj, hb, fun k => absurd k h⟩
theorem d_loop (z : List Int) : ∀ (k i : Nat) (a : Int) (t : api_Table) (o : List Bool) (p : api_Process), 24 - i + 1 ≤ k → i ≤ 24 → 0 ≤ a → a ≤ 2 * i → Inv t o p →
    f_kauditlaw09_ProcessDescriptors_l1 z k a t.Next t.NextSession t.Processes o i = some true := by
  intro k
  induction k with
  | zero => intro i a t o p h; omega
  | succ k ih =>
    intro i a t o p hk hi ha0 ha1 I
    rw [f_kauditlaw09_ProcessDescriptors_l1]
    have hlen := I.len
    have H := I.here
    have hpid := I.pid
    by_cases h : i < 24
    · obtain ⟨d, hd, d0, d1⟩ := N_ok ⟨z, a⟩ 3 (by omega) (by omega) ha0 (by show a < _; omega)
      refine ite_t (by simp only [decide_eq_true_eq]; omega) (bind_of hd ?_)
      by_cases e1 : d = 0
      · obtain ⟨fd, hfd, f0, f1⟩ := N_ok ⟨z, a + 1⟩ 8 (by omega) (by omega) (by show 0 ≤ a + 1; omega) (by show a + 1 < _; omega)
        obtain ⟨fd, rfl⟩ := Int.eq_ofNat_of_zero_le f0
        have hf8 : fd < 8 := by omega
        obtain ⟨u, hu, _⟩ := got (l := o) (i := fd) (by omega)
        refine ite_t (by simpa using e1) (bind_of hfd ?_)
        by_cases e2 : ∃ q ∈ p.Open, q.FD = fd
        · have hut : u = true := by
            have := (I.same fd hf8).2 e2
            rw [hu] at this; exact Option.some.inj this
          subst hut
          have hc := (congrArg (fun q => f_process_CloseFile t q (fd : Int)) hpid.symm).trans (close_yes H (fd : Int) e2)
          refine bind_of hc (ck_of ⟨by show (0 : Int) ≤ fd; omega, by show (fd : Int) < 8; omega⟩ (bind_of (at_nat hu) (ite_f rfl (ite_f rfl ?_))))
          unfold f_kauditlaw09_ProcessDescriptors_j1
          refine ite_t rfl (ck_of ⟨by show (0 : Int) ≤ fd; omega, by show (fd : Int) < 8; omega⟩ (bind_of (at_nat hu) ?_))
          rw [up (by omega)]
          exact ih (i + 1) _ _ _ _ (by omega) (by omega) (by show 0 ≤ a + 1 + 1; omega) (by show a + 1 + 1 ≤ _; omega) (inv_close I fd hf8)
        · have huf : u = false := by
            cases u with
            | false => rfl
            | true => exact absurd ((I.same fd hf8).1 hu) e2
          subst huf
          have hc := close_no H (fd : Int) (fun q hq k => e2 ⟨q, hq, k⟩)
          rw [hpid] at hc
          refine bind_of hc (ck_of ⟨by show (0 : Int) ≤ fd; omega, by show (fd : Int) < 8; omega⟩ (bind_of (at_nat hu) (ite_f rfl (ite_t rfl (ite_f rfl ?_)))))
          unfold f_kauditlaw09_ProcessDescriptors_j1
          refine ite_f rfl ?_
          rw [up (by omega)]
          exact ih (i + 1) _ t _ p (by omega) (by omega) (by show 0 ≤ a + 1 + 1; omega) (by show a + 1 + 1 ≤ _; omega) I
      · refine ite_f (by simpa using e1) ?_
        obtain ⟨fr, hfr, b1, b2, b3⟩ := d_free t.Next t.NextSession t.Processes o i (d, a + 1) (f_kauditlaw09_ProcessDescriptors_l1 z k) hlen (((8 : Int) - (0)).toNat + 1) 0 (by omega) (by omega) (fun m hm => by omega)
        refine Eq.trans hfr ?_
        unfold f_kauditlaw09_ProcessDescriptors_j2
        by_cases h8 : p.Open.length ≥ 8
        · have hall := I.full h8
          have hfr8 : fr = 8 := by
            rcases Nat.lt_or_ge fr 8 with k2 | k2
            · have a1 := b3 k2
              rw [hall fr k2] at a1; cases a1
            · omega
          have ho := (congrArg (fun q => f_process_OpenFile t q ⟨0, 1⟩ 1) hpid.symm).trans (open_full H ⟨0, 1⟩ 1 h8)
          refine bind_of ho (ite_t (by simp [hfr8]) (ite_f rfl ?_))
          rw [up (by omega)]
          exact ih (i + 1) _ t _ p (by omega) (by omega) (by show 0 ≤ a + 1; omega) (by show a + 1 ≤ _; omega) I
        · obtain ⟨x, x1, x2, x3, ho⟩ := open_ok H ⟨0, 1⟩ 1 (by omega)
          obtain ⟨c1, c2, c3, c4⟩ := I.free x1 x2 x3 (by omega)
          have ho := (congrArg (fun q => f_process_OpenFile t q ⟨0, 1⟩ 1) hpid.symm).trans ho
          have hxn : ¬ o[x]? = some true := fun e => by
            obtain ⟨q, hq, k2⟩ := (I.same x (by omega)).1 e
            exact c2 q hq k2
          have hxf : fr = x := by
            rcases Nat.lt_trichotomy fr x with k2 | k2 | k2
            · have a1 := b3 (by omega)
              rw [c1 fr k2] at a1; cases a1
            · exact k2
            · exact absurd (b2 x k2) hxn
          subst hxf
          obtain ⟨u, hu, _⟩ := got (l := o) (i := fr) (by omega)
          refine bind_of ho (ite_f (by simp only [beq_eq_false_iff_ne]; omega) (ite_f rfl (ite_f (by simp) (ck_of ⟨by omega, by omega⟩ (bind_of (at_nat hu) ?_)))))
          rw [up (by omega)]
          exact ih (i + 1) _ _ _ _ (by omega) (by omega) (by show 0 ≤ a + 1; omega) (by show a + 1 ≤ _; omega) (inv_open I _ _ (by omega) c2 c3 c4)
    · refine ite_f (by simp only [decide_eq_false_iff_not]; omega) ?_
      unfold f_kauditlaw09_ProcessDescriptors_j3
      exact bind_of (y := true) (by kernel_rfl) rfl
def first' : api_Process := ⟨1, 0, 0, 0, 0, 0, 4294967295, 4294967295, ⟨0, 1⟩, ⟨#[105, 110, 105, 116]⟩, ⟨#[47, 105, 110, 105, 116]⟩, [], true⟩
theorem descriptors_law (z : List Int) : f_kauditlaw09_ProcessDescriptors z = some true := by
  unfold f_kauditlaw09_ProcessDescriptors
  refine bind_of (y := ⟨2, 1, [first']⟩) rfl ?_
  refine d_loop z _ 0 0 ⟨2, 1, [first']⟩ (List.replicate 8 false) first' (by decide) (by omega) (by omega) (by omega) ⟨rfl, rfl, rfl, List.Pairwise.nil, (fun d hd => by cases hd), fun i hi => ⟨fun e => ?_, fun ⟨d, hd, _⟩ => by cases hd⟩⟩
  rw [List.getElem?_replicate] at e
  split at e <;> cases e
end Go.Proofs.Ytanimjbmkhpnaaa.Gx
