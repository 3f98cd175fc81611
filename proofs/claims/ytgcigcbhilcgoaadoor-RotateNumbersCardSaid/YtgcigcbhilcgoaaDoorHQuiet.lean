/- A region whose order is drawn, none of whose operations writes: its operations may be walked one behind the other. -/
import Derived.Test.YtgcigcbhilcgoaaDoorHTri4
set_option linter.unusedVariables false
namespace Go.Gx
open Go.RowKit
def onOf (o : Oper) : List Nat := o.after.toList.filterMap fun e => if Region.binds .any e then some e.on else none
def apartB (d : Option Tmp) (lk : List Tmp) (d' : Option Tmp) (lk' : List Tmp) : Bool :=
  (match d with | some d => !lk'.contains d && d' != some d | none => true) && (match d' with | some y => !lk.contains y | none => true)
def qcheck (ops : Array Oper) : List Oper → Nat → List (Nat × Option Tmp × List Tmp) → Bool
  | [], _, _ => true
  | o :: r, j, prev => (onOf o).all (fun i => Nat.blt i j) && prev.all (fun p => (onOf o).contains p.1 || apartB p.2.1 p.2.2 o.dst (o.looksAt ops)) && qcheck ops r (j + 1) ((j, o.dst, o.looksAt ops) :: prev)
theorem mem_on {o : Oper} {e : Edge} (he : e ∈ o.after) (hb : Region.binds .any e = true) : e.on ∈ onOf o := List.mem_filterMap.2 ⟨e, by simpa using he, by simp [hb]⟩
theorem on_mem {o : Oper} {i : Nat} (h : i ∈ onOf o) : ∃ e ∈ o.after, Region.binds .any e = true ∧ e.on = i := by
  obtain ⟨e, he, hb⟩ := List.mem_filterMap.1 h
  split at hb
  · exact ⟨e, by simpa using he, by assumption, by simpa using hb⟩
  · cases hb
theorem apart_of {ops : Array Oper} {x y : Oper} (h : apartB x.dst (x.looksAt ops) y.dst (y.looksAt ops) = true) : x.apart ops y = true := h
theorem qcheck_spec {ops : Array Oper} : ∀ (r : List Oper) (j : Nat) (prev : List (Nat × Option Tmp × List Tmp)) (pre : List Oper), pre.length = j → ops.toList = pre ++ r →
    (∀ i o, pre[i]? = some o → (i, o.dst, o.looksAt ops) ∈ prev) → qcheck ops r j prev = true →
    ∀ k ok, j ≤ k → ops.toList[k]? = some ok → (∀ i ∈ onOf ok, i < k) ∧ ∀ i oi, i < k → ops.toList[i]? = some oi → i ∈ onOf ok ∨ oi.apart ops ok = true
  | [], j, prev, pre, hl, he, _, _, k, ok, hjk, hk => by
    rw [he, List.append_nil, List.getElem?_eq_none (by omega)] at hk; cases hk
  | o :: r, j, prev, pre, hl, he, hp, hq, k, ok, hjk, hk => by
    simp only [qcheck, Bool.and_eq_true] at hq
    obtain ⟨⟨h1, h2⟩, h3⟩ := hq
    by_cases hkj : j = k
    · subst hkj
      have ho : ops.toList[j]? = some o := by rw [he, List.getElem?_append_right (by omega), hl, Nat.sub_self]; rfl
      rw [ho] at hk
      obtain rfl := Option.some.inj hk
      refine ⟨fun i hi => by simpa [Nat.blt_eq] using List.all_eq_true.1 h1 i hi, fun i oi hij hoi => ?_⟩
      rw [he, List.getElem?_append_left (by omega)] at hoi
      have := List.all_eq_true.1 h2 _ (hp i oi hoi)
      simp only [Bool.or_eq_true, List.contains_iff_mem] at this
      rcases this with h | h
      · exact .inl h
      · exact .inr (apart_of h)
    · refine qcheck_spec r (j + 1) _ (pre ++ [o]) (by simp [hl]) (by rw [he]; simp) (fun i oi hi => ?_) h3 k ok (by omega) hk
      rcases Nat.lt_or_ge i pre.length with h | h
      · rw [List.getElem?_append_left h] at hi; exact List.mem_cons_of_mem _ (hp i oi hi)
      · rw [List.getElem?_append_right h] at hi
        have h0 : i - pre.length = 0 := by
          rcases Nat.eq_zero_or_pos (i - pre.length) with h | h
          · exact h
          · rw [List.getElem?_eq_none (by simp; omega)] at hi; cases hi
        rw [h0] at hi
        obtain rfl : o = oi := by simpa using hi
        have : i = j := by omega
        subst this
        exact List.mem_cons_self
/-- One behind the other, the world as it is. -/
def wq (P : Program) (ops : Array Oper) (Q : Exit → Act → World → Prop) : List Oper → Act → World → Prop
  | [], a, w => Q .normal a w
  | o :: rest, a, w => (Region.wanted o (yielded ops a.tmps) = true ∧ ∃ v, (execOp a.eval o).run P w = .ok (.value v) w ∧ wq P ops Q rest (a.put o.dst v) w) ∨
      (Region.wanted o (yielded ops a.tmps) = false ∧ wq P ops Q rest (a.put o.dst undef) w)
def firstN (n i : Nat) : Array Bool := (List.replicate i true ++ List.replicate (n - i) false).toArray
theorem firstN_get? {n i k : Nat} (hi : i ≤ n) : (firstN n i)[k]? = if k < n then some (decide (k < i)) else none := by
  unfold firstN
  simp only [List.getElem?_toArray, List.getElem?_append, List.length_replicate, List.getElem?_replicate]
  by_cases h1 : k < i
  · have : k < n := by omega
    simp [h1, this]
  · by_cases h2 : k < n
    · have : k - i < n - i := by omega
      simp [h1, h2, this]
    · have : ¬ (k - i < n - i) := by omega
      simp [h1, h2, this]
theorem firstN_get {n i k : Nat} (hk : k < n) (hi : i ≤ n) (d : Bool) : (firstN n i).getD k d = decide (k < i) := by
  rw [Array.getD_eq_getD_getElem?, firstN_get? hi, if_pos hk]; rfl
theorem firstN_set {n i : Nat} (hi : i < n) : (firstN n i).setIfInBounds i true = firstN n (i + 1) := by
  apply Array.ext_getElem?
  intro k
  rw [Array.getElem?_setIfInBounds, firstN_get? (by omega), firstN_get? (by omega)]
  have hs : (firstN n i).size = n := by simp [firstN]; omega
  rw [hs]
  by_cases h : i = k
  · subst h; simp [hi]
  · by_cases h2 : k < n
    · simp [h, h2]; omega
    · simp [h, h2]
section
variable {P : Program} {ops : Array Oper} {Q : Exit → Act → World → Prop}
theorem wq_any (hq : qcheck ops ops.toList 0 [] = true) (hs : Region.noSelect ops = true) (hQ : PanicOk Q) : ∀ (rest pre : List Oper) (a : Act) (w : World), ops.toList = pre ++ rest → wq P ops Q rest a w →
    wpAnyJ P ops Q (fun _ => True) [] [] rest.length (firstN ops.size pre.length) a w
  | [], pre, a, w, he, h => by
    have hn : ops.size = pre.length := by rw [← Array.length_toList, he]; simp
    refine ⟨?_, h⟩
    unfold Region.ready
    rw [List.filter_eq_nil_iff]
    intro i hi
    rw [firstN_get (List.mem_range.1 hi) (by omega)]
    simp [hn ▸ List.mem_range.1 hi]
  | o :: rest, pre, a, w, he, h => by
    have hn : ops.size = pre.length + (rest.length + 1) := by rw [← Array.length_toList, he]; simp
    have ho : ops[pre.length]? = some o := by rw [← Array.getElem?_toList, he, List.getElem?_append_right (Nat.le_refl _), Nat.sub_self]; rfl
    have spec := qcheck_spec ops.toList 0 [] [] rfl rfl (fun i o h => by simp at h) hq
    have hrest : ∀ v, wq P ops Q rest (a.put o.dst v) w → wpAnyJ P ops Q (fun _ => True) [] [] rest.length ((firstN ops.size pre.length).setIfInBounds pre.length true) (a.put o.dst v) w := by
      intro v hv
      rw [firstN_set (by omega)]
      have := wq_any hq hs hQ rest (pre ++ [o]) (a.put o.dst v) w (by rw [he]; simp) hv
      simpa using this
    have hdown : Down ops (firstN ops.size pre.length) := by
      intro k ok hk hl e hee hb
      have hlt : k < ops.size := (Array.getElem?_eq_some_iff.1 hk).1
      rw [firstN_get hlt (by omega)] at hl
      have hon := (spec k ok (Nat.zero_le _) (by rw [Array.getElem?_toList]; exact hk)).1 _ (mem_on hee hb)
      rw [firstN_get (by omega) (by omega)]
      simp at hl ⊢
      omega
    have hready : pre.length ∈ Region.ready .any ops (firstN ops.size pre.length) := by
      unfold Region.ready
      rw [List.mem_filter]
      refine ⟨List.mem_range.2 (by omega), ?_⟩
      rw [firstN_get (by omega) (by omega)]
      simp only [Nat.lt_irrefl, decide_false, Bool.not_false, Bool.true_and, ho, Option.map_some, Option.getD_some]
      rw [Array.all_eq_true_iff_forall_mem]
      intro e hee
      cases hb : Region.binds .any e with
      | false => rfl
      | true =>
        have hon := (spec _ o (Nat.zero_le _) (by rw [Array.getElem?_toList]; exact ho)).1 _ (mem_on hee hb)
        rw [firstN_get (by omega) (by omega)]
        simp [hon]
    have hfree : ∀ j oj, ops[j]? = some oj → j ≠ pre.length → (firstN ops.size pre.length).getD j true = false → (∀ e ∈ oj.after, Region.binds .any e = true → e.on ≠ pre.length) → o.apart ops oj = true := by
      intro j oj hj hne hl hno
      have hlt : j < ops.size := (Array.getElem?_eq_some_iff.1 hj).1
      rw [firstN_get hlt (by omega)] at hl
      simp at hl
      rcases (spec j oj (Nat.zero_le _) (by rw [Array.getElem?_toList]; exact hj)).2 pre.length o (by omega) (by rw [Array.getElem?_toList]; exact ho) with h | h
      · obtain ⟨e, h1, h2, h3⟩ := on_mem h
        exact absurd h3 (hno e h1 h2)
      · exact h
    have first : ∀ v, YieldsIf P ops (fun w' => w' = w) o v a → wq P ops Q rest (a.put o.dst v) w → wpAnyJ P ops Q (fun _ => True) [] [] (o :: rest).length (firstN ops.size pre.length) a w := fun v hy hv =>
      wpAnyJ_first (fun w' => w' = w) ho (by simp) (Region.noSelect_spec hs) (fun j hj => by simp at hj) (fun c a w h => hQ c a _ _ w h) rest.length _ a w hdown hfree hready hy rfl (hrest v hv)
    rcases h with ⟨hw, v, hr, hv⟩ | ⟨hw, hv⟩
    · exact first v (.inl ⟨hw, fun w' e => by rw [e]; exact hr⟩) hv
    · exact first undef (.inr ⟨hw, rfl⟩) hv
end
section
variable {P : Program} {ops : Array Oper} {rest : List Oper} {Q : Exit → Act → World → Prop} {n : Nat} {c : Cx} {A : List VP} {L : List (List SP)} {l : List (Nat × Value)}
  {d : Nat} {op : Op} {ty : TypeId} {pos : String} {af : Array Edge} {v u : Value}
theorem t_quiet {id : Nat} {os : List Oper} (hm : P.follows .mixedOrders = true) (hq : (qcheck os.toArray os 0 [] && Region.noSelect os.toArray) = true) (hQ : PanicOk Q) (h : T n c A L l (wq P os.toArray Q os)) : T n c A L l ((Code.region id os.toArray true).wp P Q) := fun a w E H => by
  rw [Bool.and_eq_true] at hq
  refine wa_begin (m := os.toArray.size) hm (fun _ => True) [] [] H rfl fun w' H' => ?_
  have := wq_any (P := P) (ops := os.toArray) hq.1 hq.2 hQ os [] a w' (by simp) (h a w' E H')
  have e : firstN os.toArray.size ([] : List Oper).length = Array.replicate os.toArray.size false := by
    apply Array.ext'; simp [firstN]
  rw [e] at this
  simpa using this
theorem k_z (h : T n c A L l (Q .normal)) : T n c A L l (wq P ops Q []) := h
theorem k_p (r : RP P ⟨some d, op, ty, pos, af, none⟩ n l v) (hd : Nat.blt d n = true) (h : T n c A L ((d, v) :: l) (wq P ops Q rest)) : T n c A L l (wq P ops Q (⟨some d, op, ty, pos, af, none⟩ :: rest)) := fun a w E H => .inl ⟨rfl, v, r a w E, h _ w (E.put hd v) H⟩
theorem k_s (r : RS P ⟨some d, op, ty, pos, af, none⟩ n c A L l v) (hd : Nat.blt d n = true) (h : T n c A L ((d, v) :: l) (wq P ops Q rest)) : T n c A L l (wq P ops Q (⟨some d, op, ty, pos, af, none⟩ :: rest)) := fun a w E H => .inl ⟨rfl, v, r a w E H, h _ w (E.put hd v) H⟩
theorem kg_p {j t : Nat} {b e : Bool} (hj : (ops[j]?).bind (·.dst) = some t) (ht : lk l t = some (.bool e)) (hb : e = b) (r : RP P ⟨some d, op, ty, pos, af, some (j, b)⟩ n l v) (hd : Nat.blt d n = true) (h : T n c A L ((d, v) :: l) (wq P ops Q rest)) : T n c A L l (wq P ops Q (⟨some d, op, ty, pos, af, some (j, b)⟩ :: rest)) := fun a w E H => .inl ⟨E.wantedB rfl hj ht hb, v, r a w E, h _ w (E.put hd v) H⟩
theorem kg_s {j t : Nat} {b e : Bool} (hj : (ops[j]?).bind (·.dst) = some t) (ht : lk l t = some (.bool e)) (hb : e = b) (r : RS P ⟨some d, op, ty, pos, af, some (j, b)⟩ n c A L l v) (hd : Nat.blt d n = true) (h : T n c A L ((d, v) :: l) (wq P ops Q rest)) : T n c A L l (wq P ops Q (⟨some d, op, ty, pos, af, some (j, b)⟩ :: rest)) := fun a w E H => .inl ⟨E.wantedB rfl hj ht hb, v, r a w E H, h _ w (E.put hd v) H⟩
theorem k_x {j t : Nat} {b e : Bool} (hj : (ops[j]?).bind (·.dst) = some t) (ht : lk l t = some (.bool e)) (hb : e = !b) (hd : Nat.blt d n = true) (h : T n c A L ((d, undef) :: l) (wq P ops Q rest)) : T n c A L l (wq P ops Q (⟨some d, op, ty, pos, af, some (j, b)⟩ :: rest)) := fun a w E H => .inr ⟨E.unwanted rfl hj ht hb, h _ w (E.put hd undef) H⟩
theorem k_xU {j t : Nat} {b : Bool} (hj : (ops[j]?).bind (·.dst) = some t) (ht : lk l t = some undef) (hd : Nat.blt d n = true) (h : T n c A L ((d, undef) :: l) (wq P ops Q rest)) : T n c A L l (wq P ops Q (⟨some d, op, ty, pos, af, some (j, b)⟩ :: rest)) := fun a w E H => .inr ⟨E.unwanted0 rfl hj ht, h _ w (E.put hd undef) H⟩
end
end Go.Gx
