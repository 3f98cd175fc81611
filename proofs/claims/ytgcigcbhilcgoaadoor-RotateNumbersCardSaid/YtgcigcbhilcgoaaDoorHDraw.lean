/- A region whose order is drawn: what only reads is taken first; what it reads need stay as it is only as long as it may still come. -/
import Derived.Test.YtgcigcbhilcgoaaDoorHCtl
namespace Go.Gx
open Go.RowKit
section
variable {P : Program} {ops : Array Oper} {Q : Exit → Act → World → Prop} {κ : Act → World → Prop} {a : Act} {w w0 w' : World} {n : Nat} {l : List (Nat × Value)} {M Y : FP} {A A' Ac : List VP} {L L' : List (List SP)}
  {d : Nat} {op : Op} {ty : TypeId} {pos : String} {af : Array Edge} {gd : Option (Nat × Bool)} {v : Value} {S : World → Prop} {D Lo : List Nat}

/-- j comes behind i: an edge leads there, or several, one behind the other. -/
def anc (ops : Array Oper) : Nat → Nat → Nat → Bool
  | 0, _, _ => false
  | k + 1, j, i => match ops[j]? with | some o => o.after.any (fun e => Region.binds .any e && (e.on == i || anc ops k e.on i)) | none => false
/-- What is listed is closed: all that it comes behind is listed, too. -/
def Down (ops : Array Oper) (listed : Array Bool) : Prop := ∀ k o, ops[k]? = some o → listed.getD k false = true → ∀ e ∈ o.after, Region.binds .any e = true → listed.getD e.on false = true
def downB (ops : Array Oper) (listed : Array Bool) : Bool := (List.range ops.size).all fun k => match ops[k]? with | some o => !listed.getD k false || o.after.all (fun e => !Region.binds .any e || listed.getD e.on false) | none => true
theorem down_of {listed : Array Bool} (h : downB ops listed = true) : Down ops listed := by
  intro k o ho hk e he hb
  have hlt : k < ops.size := (Array.getElem?_eq_some_iff.1 ho).1
  have := List.all_eq_true.1 h k (List.mem_range.2 hlt)
  simp only [ho, hk, Bool.not_true, Bool.false_or] at this
  have h2 := Array.all_eq_true_iff_forall_mem.1 this e he
  simpa [hb] using h2
theorem down_step {listed : Array Bool} {j : Nat} (h : Down ops listed) (hj : j ∈ Region.ready .any ops listed) : Down ops (listed.setIfInBounds j true) := by
  intro k o ho hk e he hb
  obtain ⟨_, oj, hoj, hall⟩ := mem_ready.1 hj
  by_cases hkj : j = k
  · subst hkj
    rw [ho] at hoj
    obtain rfl := Option.some.inj hoj
    exact getD_set_true (hall e he hb)
  · rw [getD_set_ne false hkj] at hk
    exact getD_set_true (h k o ho hk e he hb)
theorem anc_listed {listed : Array Bool} (hd : Down ops listed) : ∀ (k j i : Nat), (∀ o, ops[j]? = some o → ∀ e ∈ o.after, Region.binds .any e = true → listed.getD e.on false = true) → anc ops k j i = true → listed.getD i false = true
  | 0, _, _, _, h => by simp [anc] at h
  | k + 1, j, i, hj, h => by
    simp only [anc] at h
    split at h
    · rename_i o ho
      obtain ⟨e, he, hb⟩ : ∃ e ∈ o.after, (Region.binds .any e && (e.on == i || anc ops k e.on i)) = true := by
        obtain ⟨n, hn, hb⟩ := Array.any_eq_true.1 h
        exact ⟨_, Array.getElem_mem hn, hb⟩
      simp only [Bool.and_eq_true, Bool.or_eq_true, beq_iff_eq] at hb
      have hl := hj o ho e he hb.1
      rcases hb.2 with h2 | h2
      · rw [← h2]; exact hl
      · exact anc_listed hd k e.on i (fun o2 ho2 => hd e.on o2 ho2 hl) h2
    · cases h
/-- Behind operation j something of D may still come. -/
def needs (ops : Array Oper) (D : List Nat) (j : Nat) : Bool := D.any fun i => !anc ops ops.size j i
theorem needs_no {b : Bool} (h0 : b = false) (h : b = true) : False := by rw [h0] at h; cases h
/-- Whatever order is picked: behind an operation of Lo S holds (if something of D may still come); behind any other the world is as it was. -/
def wpAnyJ (P : Program) (ops : Array Oper) (Q : Exit → Act → World → Prop) (S : World → Prop) (D Lo : List Nat) : Nat → Array Bool → Act → World → Prop
  | 0, listed, a, w => Region.ready .any ops listed = [] ∧ Q .normal a w
  | fuel + 1, listed, a, w =>
    (Region.ready .any ops listed = [] → Q .normal a w) ∧
    ∀ i ∈ Region.ready .any ops listed, wpOp P ops Q i (fun a' w' => (if i ∈ Lo then (needs ops D i = true → S w') else w' = w) ∧ wpAnyJ P ops Q S D Lo fuel (listed.setIfInBounds i true) a' w') a w
theorem wpAny_of_J : ∀ (fuel : Nat) (listed : Array Bool) (a : Act) (w : World), wpAnyJ P ops Q S D Lo fuel listed a w → wpAny P .any ops Q fuel listed a w
  | 0, _, _, _, h => h
  | fuel + 1, _, _, _, h => ⟨h.1, fun i hi => wpOp_mono (fun a' w' h' => wpAny_of_J fuel _ a' w' h'.2) (h.2 i hi)⟩
theorem not_listed {i : Nat} {listed : Array Bool} (hiun : listed.getD i true = false) (h : listed.getD i false = true) : False := by
  rcases Nat.lt_or_ge i listed.size with hlt | hge
  · have ea : listed.getD i true = listed.getD i false := by simp [hlt]
    rw [ea, h] at hiun
    cases hiun
  · have : listed.getD i true = true := by simp [Array.getElem?_eq_none hge]
    rw [this] at hiun
    cases hiun
/-- One operation is taken first: T says of a world that it yields v there; whatever comes before it keeps T. -/
theorem wpAnyJ_first {i : Nat} {oi : Oper} {v : Value} (T : World → Prop) (hi : ops[i]? = some oi) (hLo : i ∉ Lo) (hsel : ∀ (j : Nat) (o : Oper) cs b, ops[j]? = some o → o.op ≠ .select cs b)
    (hT : ∀ j, j ∈ Lo → anc ops ops.size j i = false → ∀ w', (needs ops D j = true → S w') → T w')
    (hQ : ∀ c a w, Q (.panic c) (a.put oi.dst v) w → Q (.panic c) a w) :
    ∀ (fuel : Nat) (listed : Array Bool) (a : Act) (w : World), Down ops listed →
      (∀ j oj, ops[j]? = some oj → j ≠ i → listed.getD j true = false → (∀ e ∈ oj.after, Region.binds .any e = true → e.on ≠ i) → oi.apart ops oj = true) →
      i ∈ Region.ready .any ops listed → YieldsIf P ops T oi v a → T w →
      wpAnyJ P ops Q S D Lo fuel (listed.setIfInBounds i true) (a.put oi.dst v) w → wpAnyJ P ops Q S D Lo (fuel + 1) listed a w := by
  intro fuel
  induction fuel with
  | zero =>
    intro listed a w _ _ hr hy hS H
    refine ⟨fun h => (by rw [h] at hr; cases hr), fun j hj => ?_⟩
    by_cases hji : j = i
    · subst hji; exact hy.wpOp hi hS ⟨by rw [if_neg hLo], H⟩
    · have := ready_mono hj hji
      rw [H.1] at this
      cases this
  | succ fuel ih =>
    intro listed a w hdn hfree hr hy hS H
    refine ⟨fun h => (by rw [h] at hr; cases hr), fun j hj => ?_⟩
    by_cases hji : j = i
    · subst hji; exact hy.wpOp hi hS ⟨by rw [if_neg hLo], H⟩
    · have hstep := H.2 j (ready_mono hj hji)
      obtain ⟨hjun, oj, hoj, hall⟩ := mem_ready.1 hj
      have hiun := (mem_ready.1 hr).1
      have hno : ∀ e ∈ oj.after, Region.binds .any e = true → e.on ≠ i := by
        intro e he hb heq
        have h1 := hall e he hb
        rw [heq] at h1
        exact not_listed hiun h1
      have hanc : anc ops ops.size j i = false := by
        cases hA : anc ops ops.size j i with
        | false => rfl
        | true =>
          exact (not_listed hiun (anc_listed hdn _ _ _ (fun o ho e he hb => by
            rw [hoj] at ho
            obtain rfl := Option.some.inj ho
            exact hall e he hb) hA)).elim
      have hstep2 := wpOp_putIf hoj (hfree j oj hoj hji hjun hno) (fun cs b => hsel i oi cs b hi) (fun cs b => hsel j oj cs b hoj) hQ hy hstep
      refine wpOp_mono (fun a' w' hk => ⟨hk.2.1, ?_⟩) hstep2
      have hTw : T w' := by
        have h1 := hk.2.1
        by_cases hjL : j ∈ Lo
        · rw [if_pos hjL] at h1
          exact hT j hjL hanc w' h1
        · rw [if_neg hjL] at h1
          rw [h1]; exact hS
      refine ih (listed.setIfInBounds j true) a' w' (down_step hdn hj) (fun k ok hk1 hki hun hn => ?_) (ready_mono hr (Ne.symm hji)) hk.1 hTw ?_
      · refine hfree k ok hk1 hki ?_ hn
        by_cases hjk : j = k
        · subst hjk; exact hjun
        · rw [getD_set_ne true hjk] at hun; exact hun
      · rw [Array.setIfInBounds_comm _ _ hji]
        exact hk.2.2

/-- Panics tell nothing of the slots. -/
def PanicOk (Q : Exit → Act → World → Prop) : Prop := ∀ c a d v w, Q (.panic c) (a.put d v) w → Q (.panic c) a w
theorem panic_body {fn : Func} {R : Ending → World → Prop} : PanicOk (bodyPost P fn R) := fun _ a d _ _ h => by cases d <;> exact h
theorem panic_then {K : Act → World → Prop} (h : PanicOk Q) : PanicOk (Exit.then K Q) := h
theorem panic_block {id : Nat} (h : PanicOk Q) : PanicOk (Exit.inBlock id Q) := h

theorem wa_begin {id m : Nat} (hm : P.follows .mixedOrders = true) (S : World → Prop) (D Lo : List Nat) (H : St w0 M Y w A L) (hn : ops.size = m) (h : ∀ w', St w0 M Y w' A L → wpAnyJ P ops Q S D Lo m (Array.replicate m false) a w') : (Code.region id ops true).wp P Q a w := by
  subst hn
  exact wp_region_any hm (wpAny_of_J _ _ _ _ (h _ (H.frame (Chg.drew w Nil))))
def takes (ops : Array Oper) (Lo : List Nat) (listed : Array Bool) (i : Nat) : Bool := !Lo.contains i && Region.noSelect ops && Region.free .any ops listed i && (Region.ready .any ops listed).contains i && downB ops listed
/-- What yields in whatever world. -/
theorem wa_take {i fuel : Nat} {listed : Array Bool} (E : Env n a l) (hi : ops[i]? = some ⟨some d, op, ty, pos, af, gd⟩) (hDs : takes ops Lo listed i = true)
    (hQ : PanicOk Q) (hw : Wanted ops a ⟨some d, op, ty, pos, af, gd⟩) (hr : ∀ w, (execOp a.eval ⟨some d, op, ty, pos, af, gd⟩).run P w = .ok (.value v) w) (hd : Nat.blt d n = true)
    (h : ∀ a', Env n a' ((d, v) :: l) → wpAnyJ P ops Q S D Lo fuel (listed.setIfInBounds i true) a' w) : wpAnyJ P ops Q S D Lo (fuel + 1) listed a w := by
  simp only [takes, Bool.and_eq_true] at hDs
  obtain ⟨⟨⟨⟨h1, h2⟩, h3⟩, h4⟩, h5⟩ := hDs
  exact wpAnyJ_first (fun _ => True) hi (by simpa using h1) (Region.noSelect_spec h2) (fun _ _ _ _ _ => trivial) (fun c a w h => hQ c a _ _ w h) fuel listed a w (down_of h5) (Region.free_spec hi h3) (by simpa using h4) (.inl ⟨hw, fun w _ => hr w⟩) trivial (h _ (E.put hd v))
/-- What yields where S holds. -/
theorem wa_takeS {i fuel : Nat} {listed : Array Bool} (E : Env n a l) (hi : ops[i]? = some ⟨some d, op, ty, pos, af, gd⟩) (hDs : takes ops Lo listed i = true) (hiD : D.contains i = true)
    (hQ : PanicOk Q) (hw : Wanted ops a ⟨some d, op, ty, pos, af, gd⟩) (hr : ∀ w, S w → (execOp a.eval ⟨some d, op, ty, pos, af, gd⟩).run P w = .ok (.value v) w) (hS : S w) (hd : Nat.blt d n = true)
    (h : ∀ a', Env n a' ((d, v) :: l) → wpAnyJ P ops Q S D Lo fuel (listed.setIfInBounds i true) a' w) : wpAnyJ P ops Q S D Lo (fuel + 1) listed a w := by
  simp only [takes, Bool.and_eq_true] at hDs
  obtain ⟨⟨⟨⟨h1, h2⟩, h3⟩, h4⟩, h5⟩ := hDs
  exact wpAnyJ_first S hi (by simpa using h1) (Region.noSelect_spec h2) (fun j _ hj w' hk => hk (by
    unfold needs
    exact List.any_eq_true.2 ⟨i, by simpa using hiD, by simp [hj]⟩)) (fun c a w h => hQ c a _ _ w h) fuel listed a w (down_of h5) (Region.free_spec hi h3) (by simpa using h4) (.inl ⟨hw, hr⟩) hS (h _ (E.put hd v))
/-- What yields in this world, where all that may change it comes behind. -/
theorem wa_takeU {i fuel : Nat} {listed : Array Bool} (E : Env n a l) (hi : ops[i]? = some ⟨some d, op, ty, pos, af, gd⟩) (hDs : takes ops Lo listed i = true) (hU : Lo.all (fun j => anc ops ops.size j i) = true)
    (hQ : PanicOk Q) (hw : Wanted ops a ⟨some d, op, ty, pos, af, gd⟩) (hr : (execOp a.eval ⟨some d, op, ty, pos, af, gd⟩).run P w = .ok (.value v) w) (hd : Nat.blt d n = true)
    (h : ∀ a', Env n a' ((d, v) :: l) → wpAnyJ P ops Q S D Lo fuel (listed.setIfInBounds i true) a' w) : wpAnyJ P ops Q S D Lo (fuel + 1) listed a w := by
  simp only [takes, Bool.and_eq_true] at hDs
  obtain ⟨⟨⟨⟨h1, h2⟩, h3⟩, h4⟩, h5⟩ := hDs
  exact wpAnyJ_first (fun w' => w' = w) hi (by simpa using h1) (Region.noSelect_spec h2) (fun j hj hn w' _ => by
    have := List.all_eq_true.1 hU j hj
    rw [this] at hn; cases hn) (fun c a w h => hQ c a _ _ w h) fuel listed a w (down_of h5) (Region.free_spec hi h3) (by simpa using h4) (.inl ⟨hw, fun w' e => by rw [e]; exact hr⟩) rfl (h _ (E.put hd v))
theorem wa_pass {i fuel : Nat} {listed : Array Bool} (E : Env n a l) (hi : ops[i]? = some ⟨some d, op, ty, pos, af, gd⟩) (hDs : takes ops Lo listed i = true)
    (hQ : PanicOk Q) (hw : Region.wanted ⟨some d, op, ty, pos, af, gd⟩ (yielded ops a.tmps) = false) (hd : Nat.blt d n = true)
    (h : ∀ a', Env n a' ((d, undef) :: l) → wpAnyJ P ops Q S D Lo fuel (listed.setIfInBounds i true) a' w) : wpAnyJ P ops Q S D Lo (fuel + 1) listed a w := by
  simp only [takes, Bool.and_eq_true] at hDs
  obtain ⟨⟨⟨⟨h1, h2⟩, h3⟩, h4⟩, h5⟩ := hDs
  exact wpAnyJ_first (fun _ => True) hi (by simpa using h1) (Region.noSelect_spec h2) (fun _ _ _ _ _ => trivial) (fun c a w h => hQ c a _ _ w h) fuel listed a w (down_of h5) (Region.free_spec hi h3) (by simpa using h4) (.inr ⟨hw, rfl⟩) trivial (h _ (E.put hd undef))
/-- The one operation that may come now. -/
theorem wa_only {i fuel : Nat} {listed : Array Bool} {o : Oper} (hi : ops[i]? = some o) (hL : Lo.contains i = true) (hr : Region.ready .any ops listed = [i])
    (h : Step P ops Q o (fun a' w' => (needs ops D i = true → S w') ∧ wpAnyJ P ops Q S D Lo fuel (listed.setIfInBounds i true) a' w') a w) : wpAnyJ P ops Q S D Lo (fuel + 1) listed a w := by
  refine ⟨fun h0 => absurd (hr.symm.trans h0) (by simp), fun j hj => ?_⟩
  rw [hr] at hj
  obtain rfl := List.mem_singleton.1 hj
  have hL' : j ∈ Lo := by simpa using hL
  unfold wpOp
  simp only [hi, if_pos hL']
  exact h
theorem wa_done {fuel : Nat} {listed : Array Bool} (hr : Region.ready .any ops listed = []) (h : Q .normal a w) : wpAnyJ P ops Q S D Lo fuel listed a w := by
  cases fuel with
  | zero => exact ⟨hr, h⟩
  | succ fuel => exact ⟨fun _ => h, by rw [hr]; simp⟩
/-! ### Several that write may come: one state behind all the orders -/
def QJ (J : Act → World → Prop) (Q : Exit → Act → World → Prop) : Exit → Act → World → Prop
  | .normal, a, w => J a w
  | e, a, w => Q e a w
theorem panic_join {J : Act → World → Prop} (h : PanicOk Q) : PanicOk (QJ J Q) := h
theorem wa_join {c : Code} (J : Act → World → Prop) (hJ : ∀ a w, J a w → Q .normal a w) (h : c.wp P (QJ J Q) a w) : c.wp P Q a w :=
  wp_mono h fun e a w k => by cases e <;> first | exact hJ _ _ k | exact k
theorem join_ret {J : Act → World → Prop} (h : Q .ret a w) : QJ J Q .ret a w := h
theorem join_exit {J : Act → World → Prop} {id : Nat} (h : Q (.exit id) a w) : QJ J Q (.exit id) a w := h
theorem wa_two {i j fuel : Nat} {listed : Array Bool} {oi oj : Oper} (hi : ops[i]? = some oi) (hj : ops[j]? = some oj) (hL : (Lo.contains i && Lo.contains j) = true) (hr : Region.ready .any ops listed = [i, j])
    (h1 : Step P ops Q oi (fun a' w' => (needs ops D i = true → S w') ∧ wpAnyJ P ops Q S D Lo fuel (listed.setIfInBounds i true) a' w') a w)
    (h2 : Step P ops Q oj (fun a' w' => (needs ops D j = true → S w') ∧ wpAnyJ P ops Q S D Lo fuel (listed.setIfInBounds j true) a' w') a w) : wpAnyJ P ops Q S D Lo (fuel + 1) listed a w := by
  refine ⟨fun h0 => absurd (hr.symm.trans h0) (by simp), fun k hk => ?_⟩
  rw [hr] at hk
  rw [Bool.and_eq_true] at hL
  have hLi : i ∈ Lo := by simpa using hL.1
  have hLj : j ∈ Lo := by simpa using hL.2
  rcases List.mem_cons.1 hk with rfl | hk
  · unfold wpOp; simp only [hi, if_pos hLi]; exact h1
  · obtain rfl := List.mem_singleton.1 hk
    unfold wpOp; simp only [hj, if_pos hLj]; exact h2
theorem wa_three {i j l' fuel : Nat} {listed : Array Bool} {oi oj ol : Oper} (hi : ops[i]? = some oi) (hj : ops[j]? = some oj) (hl : ops[l']? = some ol) (hL : (Lo.contains i && Lo.contains j && Lo.contains l') = true) (hr : Region.ready .any ops listed = [i, j, l'])
    (h1 : Step P ops Q oi (fun a' w' => (needs ops D i = true → S w') ∧ wpAnyJ P ops Q S D Lo fuel (listed.setIfInBounds i true) a' w') a w)
    (h2 : Step P ops Q oj (fun a' w' => (needs ops D j = true → S w') ∧ wpAnyJ P ops Q S D Lo fuel (listed.setIfInBounds j true) a' w') a w)
    (h3 : Step P ops Q ol (fun a' w' => (needs ops D l' = true → S w') ∧ wpAnyJ P ops Q S D Lo fuel (listed.setIfInBounds l' true) a' w') a w) : wpAnyJ P ops Q S D Lo (fuel + 1) listed a w := by
  refine ⟨fun h0 => absurd (hr.symm.trans h0) (by simp), fun k hk => ?_⟩
  rw [hr] at hk
  rw [Bool.and_eq_true, Bool.and_eq_true] at hL
  have hLi : i ∈ Lo := by simpa using hL.1.1
  have hLj : j ∈ Lo := by simpa using hL.1.2
  have hLl : l' ∈ Lo := by simpa using hL.2
  rcases List.mem_cons.1 hk with rfl | hk
  · unfold wpOp; simp only [hi, if_pos hLi]; exact h1
  · rcases List.mem_cons.1 hk with rfl | hk
    · unfold wpOp; simp only [hj, if_pos hLj]; exact h2
    · obtain rfl := List.mem_singleton.1 hk
      unfold wpOp; simp only [hl, if_pos hLl]; exact h3
theorem St.toEnd {I : List SP} (i : Nat) (H : St w0 M Y w A L) (hi : L[i]? = some I) : St w0 M Y w A (L.eraseIdx i ++ [I]) := by
  obtain ⟨hc, Z, S, h1, h2, h3⟩ := H
  obtain ⟨S1, S2, e1, e2, hd, k1, k2⟩ := Holds_get h2 hi
  have k0 : Holds w Z [I] S1 := ⟨S1, Nil, fun _ h => h, fun _ h => h.elim, fun _ _ h => h.elim, k1, trivial⟩
  have := Holds_append k2 k0 (fun b h2 h1 => hd b h1 h2)
  exact ⟨hc, Z, S, h1, Holds_mono (fun _ h => h) (fun b h => h.elim (e2 b) (e1 b)) this, h3⟩
/-! ### Where nothing is written: the heap is as it was -/
theorem blk_heap {g : Nat} {cs : List Value} {T : TypeId} (hS : w'.heap = w.heap) (h : ∃ Z S, (blk g cs T).holds w Z S) : ∃ Z S, (blk g cs T).holds w' Z S := by
  obtain ⟨Z, S, h1, h2⟩ := h
  exact ⟨Z, S, h1, by rw [hS]; exact h2⟩
theorem cells_heap {p : Option Addr} {i : Int} {m : Nat} {cs : List Value} (hS : w'.heap = w.heap) (h : ∀ off q, Idx p i m off q → ∃ g o, q = ⟨g, o, none⟩ ∧ ∀ j v, cs[off + j]? = some v → w.cell? ⟨g, o + j, none⟩ = some v) :
    ∀ off q, Idx p i m off q → ∃ g o, q = ⟨g, o, none⟩ ∧ ∀ j v, cs[off + j]? = some v → w'.cell? ⟨g, o + j, none⟩ = some v := fun off q hq => by
  obtain ⟨g, o, e, k⟩ := h off q hq
  exact ⟨g, o, e, fun j v hv => by rw [← k j v hv]; simp [World.cell?, hS]⟩
end
end Go.Gx
