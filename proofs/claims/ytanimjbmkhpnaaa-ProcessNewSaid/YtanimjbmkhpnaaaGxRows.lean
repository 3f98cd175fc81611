/- Slices of a walk's own: made, appended to, written, cut; calls by their contracts; the ends of a walk. -/
import Derived.Test.YtanimjbmkhpnaaaGxOps
namespace Go.Gx
open Go.RowKit

/-- What a function does, called with these arguments where the shared facts Ac hold: it returns, what it hands back is told by R. -/
def Fun (P : Program) (f : FuncId) (args : Array Value) (w : World) (Ac : List VP) (R : Value → List VP → List (List SP) → Prop) : Prop :=
  ∀ Z, (∀ b, Z b → b < w.heap.size) → argHolds w Ac Z → Calls P f args w fun e w2 => ∃ v, e = .returned v ∧ ∃ A' N, R v A' N ∧ Post w w2 Nil Z A' N
/-- The same of a function that is handed a block which it may change. -/
def FunM (P : Program) (f : FuncId) (args : Array Value) (w : World) (g : Nat) (cs : List Value) (T : TypeId) (Ac : List VP) (R : Value → List VP → List SP → List (List SP) → Prop) : Prop :=
  ∀ Z, (∀ b, Z b → b < w.heap.size ∧ b ≠ g) → argHolds w Ac Z → w.heap[g]? = some (.cells cs.toArray T (0, 0)) → Calls P f args w fun e w2 => ∃ v, e = .returned v ∧ ∃ A' I' N, R v A' I' N ∧ Post w w2 (fun b => b = g) Z A' (I' :: N)
/-- What does not hang on what is shared. -/
def Flat (N : List (List SP)) : Prop := ∀ w Z S, Holds w Z N S → Holds w Nil N S

section
variable {P : Program} {ops : Array Oper} {rest : List Oper} {Q : Exit → Act → World → Prop} {κ : Act → World → Prop} {a : Act} {w w0 w' : World} {n : Nat} {l : List (Nat × Value)} {M Y : FP} {A A' Ac : List VP} {L L' : List (List SP)}
  {d : Nat} {op : Op} {ty : TypeId} {pos : String} {af : Array Edge} {gd : Option (Nat × Bool)} {v : Value}

theorem wl_fun {f : FuncId} {args : Array Value} {R : Value → List VP → List (List SP) → Prop} (E : Env n a l) (H : St w0 M Y w A L) (hw : Wanted ops a ⟨some d, op, ty, pos, af, gd⟩) (hr : (execOp a.eval ⟨some d, op, ty, pos, af, gd⟩).run P w = .ok (.enter f args) w) (hd : Nat.blt d n = true)
    (hA : ∀ Z, argHolds w A Z → argHolds w Ac Z) (hf : Fun P f args w Ac R)
    (h : ∀ v A' N w' a', R v A' N → Env n a' ((d, v) :: l) → St w0 M Y w' (A ++ A') (L ++ N) → κ a' w') : Step P ops Q ⟨some d, op, ty, pos, af, gd⟩ κ a w := by
  obtain ⟨hc, Z, S, h1, h2, h3, h4, h5, h6⟩ := H
  refine wl_call E hw hr hd (hf Z h4 (hA Z h1)) fun v w2 ⟨A', N, hR, hp⟩ a' E' => h v A' N w2 a' hR E' ?_
  obtain ⟨c, Z', T, hA', hN, hzt, hz', ht0⟩ := hp
  have ht : ∀ b, T b → w.heap.size ≤ b ∧ b < w2.heap.size := fun b hb => (ht0 b hb).elim id (fun h => h.1.elim)
  have agZ : Agree w w2 Z := fun b hb => c.keep b (h4 b hb) (fun h => h)
  have agS : Agree w w2 S := fun b hb => c.keep b (h5 b hb).1 (fun h => h)
  refine ⟨hc.trans c (fun _ h => h.elim), fun b => Z b ∨ Z' b, fun b => S b ∨ T b, ?_, ?_, ?_, ?_, ?_, fun b h => h.elim (h6 b) (fun h => .inr (Nat.le_trans hc.size (hz' b h).1))⟩
  · exact argHolds_append (argHolds_mono (fun b h => .inl h) (argHolds_loc agZ h1)) hA'
  · exact Holds_append (Holds_mono (fun b h => .inl h) (fun _ h => h) (Holds_loc agZ agS h2)) hN (fun b hb hh => by have := (h5 b hb).1; have := (ht b hh).1; omega)
  · intro b hb hh
    rcases hb with hb | hb <;> rcases hh with hh | hh
    · exact h3 b hb hh
    · have := h4 b hb; have := (ht b hh).1; omega
    · have := (h5 b hh).1; have := (hz' b hb).1; omega
    · exact hzt b hb hh
  · intro b hb
    rcases hb with hb | hb
    · exact Nat.lt_of_lt_of_le (h4 b hb) c.size
    · exact (hz' b hb).2
  · intro b hb
    rcases hb with hb | hb
    · exact ⟨Nat.lt_of_lt_of_le (h5 b hb).1 c.size, (h5 b hb).2⟩
    · exact ⟨(ht b hb).2, .inl (Nat.le_trans hc.size (ht b hb).1)⟩
/-- The arguments may lead to what is the walk's own; what comes back does not lead there. -/
theorem wl_funFlat {f : FuncId} {args : Array Value} {R : Value → List VP → List (List SP) → Prop} (E : Env n a l) (H : St w0 M Y w A L) (hw : Wanted ops a ⟨some d, op, ty, pos, af, gd⟩) (hr : (execOp a.eval ⟨some d, op, ty, pos, af, gd⟩).run P w = .ok (.enter f args) w) (hd : Nat.blt d n = true)
    (hA : ∀ Z S, argHolds w A Z → Holds w Z L S → argHolds w Ac (fun b => Z b ∨ S b)) (hf : Fun P f args w Ac R) (hflat : ∀ v A' N, R v A' N → A' = [] ∧ Flat N)
    (h : ∀ v A' N w' a', R v A' N → Env n a' ((d, v) :: l) → St w0 M Y w' A (L ++ N) → κ a' w') : Step P ops Q ⟨some d, op, ty, pos, af, gd⟩ κ a w := by
  have H' := H
  obtain ⟨hc, Z, S, h1, h2, h3, h4, h5, h6⟩ := H'
  refine wl_call E hw hr hd (hf (fun b => Z b ∨ S b) (fun b hb => hb.elim (h4 b) (fun h => (h5 b h).1)) (hA Z S h1 h2)) fun v w2 ⟨A', N, hR, hp⟩ a' E' => h v A' N w2 a' hR E' ?_
  obtain ⟨rfl, hfl⟩ := hflat v A' N hR
  obtain ⟨c, Z', T, _, hN, _, _, ht⟩ := hp
  exact H.news c ⟨T, fun b hb => (ht b hb).elim id (fun h => h.1.elim), hfl _ _ _ hN⟩
theorem wl_funM {f : FuncId} {args : Array Value} {i g : Nat} {cs : List Value} {T : TypeId} {R : Value → List VP → List SP → List (List SP) → Prop} (E : Env n a l) (H : St w0 M Y w A L) (hw : Wanted ops a ⟨some d, op, ty, pos, af, gd⟩) (hr : (execOp a.eval ⟨some d, op, ty, pos, af, gd⟩).run P w = .ok (.enter f args) w) (hd : Nat.blt d n = true)
    (hi : L[i]? = some [blk g cs T]) (hA : ∀ Z, argHolds w A Z → argHolds w Ac Z) (hf : FunM P f args w g cs T Ac R)
    (h : ∀ v A' I' N w' a', R v A' I' N → Env n a' ((d, v) :: l) → St w0 M Y w' (A ++ A') (L.set i I' ++ N) → κ a' w') : Step P ops Q ⟨some d, op, ty, pos, af, gd⟩ κ a w := by
  have H' := H
  obtain ⟨hc, Z, S, h1, h2, h3, h4, h5, h6⟩ := H'
  obtain ⟨S1, S2, e1, e2, ed, ⟨⟨k1, k1'⟩, _⟩, k2⟩ := Holds_get h2 hi
  refine wl_call E hw hr hd (hf Z (fun b hb => ⟨h4 b hb, fun e => h3 g (e ▸ hb) (e1 g k1)⟩) (hA Z h1) k1') fun v w2 ⟨A', I', N, hR, hp⟩ a' E' => h v A' I' N w2 a' hR E' ?_
  have HZ : St w0 M Y w (⟨fun _ Z' => ∀ b, Z b → Z' b, fun hz h b hb => hz b (h b hb), fun _ h => h⟩ :: A) L := ⟨hc, Z, S, ⟨fun _ h => h, h1⟩, h2, h3, h4, h5, h6⟩
  have := HZ.postM hi (fun _ hh b hb => hh.1 b hb) hp
  exact this.subA fun P hP => List.mem_cons_of_mem _ hP

/-! ### Own slices -/
theorem Chg.grow {g : Nat} {cs : Array Value} {S : FP} (hg : S g) (h : w' = w.setRow g cs) : Chg w w' S := by subst h; exact Chg.setRow cs hg
theorem St.nilRow {α : Type} (E : TypeId) (K : Kind α) (H : St w0 M Y w A L) : St w0 M Y w A (L ++ [[row E K [] (.slice none 0 0)]]) :=
  H.news (Chg.refl _ _) ⟨Nil, fun _ h => h.elim, Nil, Nil, fun _ h => h, fun _ h => h, fun _ h => h.elim, ⟨.inl ⟨rfl, rfl⟩, trivial⟩, trivial⟩
/-- What a value can be read as, in what is shared or the walk's own. -/
def Reads {α : Type} (K : Kind α) (xs : List α) (v : Value) (w : World) : Prop := ∃ Z, sliceR K w Z xs [v]
theorem St.readA {α : Type} {E : TypeId} {K : Kind α} {xs : List α} {k : Nat} (H : St w0 M Y w A L) (hk : A[k]? = some (vw (kSlice E K) xs [v])) : Reads K xs v w := H.arg hk
theorem St.readL {α : Type} {E : TypeId} {K : Kind α} {xs : List α} {i : Nat} {I : List SP} (H : St w0 M Y w A L) (hi : L[i]? = some (row E K xs v :: I)) : Reads K xs v w := by
  obtain ⟨Z, S, h, _⟩ := H.item hi
  exact ⟨_, rowH.read h⟩
theorem St.shapeL {α : Type} {E : TypeId} {K : Kind α} {xs : List α} {i : Nat} {I : List SP} (H : St w0 M Y w A L) (hi : L[i]? = some (row E K xs v :: I)) : ∃ a c, v = .slice a xs.length c := by
  obtain ⟨Z, S, h, _⟩ := H.item hi
  exact rowH.shape h
theorem rn_idx {o : Oper} {t e : TypeId} {x y : Operand} {k : IntKind} {i : Int} {p : Option Addr} {m c : Nat} {z : Value} {b : Nat} {α : Type} {K : Kind α} {xs : List α} {u : α} (E : Env n a l) (ho : o.op = .indexAddr t x y) (hu : P.underlying t = some (.slice e)) (hti : TI P e z K.n b)
    (hx : opv l x = some (.slice p m c)) (hy : opv l y = some (.int k i)) (hR : Reads K xs (.slice p m c) w) (hi : at_ xs i = some u) : ∃ q, Idx p i K.n 0 q ∧ ∀ w', (execOp a.eval o).run P w' = .ok (.value (.pointer (some q))) w' :=
  let ⟨_, h⟩ := hR
  rn_indexAddr E ho hu hti hx hy h hi
/-- A share of the shared: an element that is loaded. -/
theorem St.elemA {α : Type} {E : TypeId} {K : Kind α} {xs : List α} {p : Option Addr} {m c k : Nat} {i : Int} {u : α} (H : St w0 M Y w A L) (hk : A[k]? = some (vw (kSlice E K) xs [.slice p m c])) (hi : at_ xs i = some u) :
    ∃ cs, St w0 M Y w (A ++ [vw K u cs]) L ∧ cs.length = K.n ∧ ∀ off q, Idx p i K.n off q → ∃ g o, q = ⟨g, o, none⟩ ∧ ∀ j v, cs[off + j]? = some v → w.cell? ⟨g, o + j, none⟩ = some v := by
  obtain ⟨hc, Z, S, h1, h2⟩ := H
  have hR : sliceR K w Z xs [.slice p m c] := argHolds_get h1 hk
  obtain ⟨cs, hcs, hcell⟩ := elem_cells hR hi
  exact ⟨cs, ⟨hc, Z, S, argHolds_append h1 ⟨hcs, trivial⟩, h2⟩, K.len hcs, hcell⟩
theorem rowH.elem {α : Type} {E : TypeId} {K : Kind α} {xs : List α} {p : Option Addr} {m c : Nat} {Z S : FP} {i : Int} {u : α} (h : rowH E K xs (.slice p m c) w Z S) (hi : at_ xs i = some u) :
    ∃ cs, K.R w Z u cs ∧ ∀ off q, Idx p i K.n off q → ∃ g o, q = ⟨g, o, none⟩ ∧ ∀ j v, cs[off + j]? = some v → w.cell? ⟨g, o + j, none⟩ = some v := by
  obtain ⟨h0, h1, h2⟩ := at_some hi
  rcases h with ⟨_, rfl⟩ | ⟨g, off, cap, pre, el, post, e, hg, hh, ho, hl, _, hm, hE⟩
  · simp at h1
  · simp only [Value.slice.injEq] at e
    obtain ⟨rfl, rfl, rfl⟩ := e
    refine ⟨_, ER_get i.toNat u hE h2, fun off' q ⟨g', c', hp, hq⟩ => ?_⟩
    simp only [Option.some.injEq, Addr.mk.injEq, and_true] at hp
    obtain ⟨rfl, rfl⟩ := hp
    refine ⟨g, off + (i.toNat * K.n + off'), hq, fun j v hv => ?_⟩
    rw [List.getElem?_take] at hv
    split at hv
    · rw [List.getElem?_drop] at hv
      have : (pre ++ el ++ post)[off + (i.toNat * K.n + off') + j]? = some v := by
        have hlt : i.toNat * K.n + (off' + j) < el.length := (List.getElem?_eq_some_iff.1 hv).1
        rw [List.getElem?_append_left (by rw [List.length_append]; omega), List.getElem?_append_right (by omega)]
        rw [show off + (i.toNat * K.n + off') + j - pre.length = i.toNat * K.n + (off' + j) by omega]
        exact hv
      simp only [World.cell?, hh, Option.isSome_none, Bool.false_eq_true, if_false, List.getElem?_toArray]
      exact this
    · cases hv
theorem St.elemL {α : Type} {E : TypeId} {K : Kind α} {xs : List α} {p : Option Addr} {m c k : Nat} {i : Int} {u : α} {I : List SP} (H : St w0 M Y w A L) (hk : L[k]? = some (row E K xs (.slice p m c) :: I)) (hi : at_ xs i = some u) :
    ∃ cs, St w0 M Y w (A ++ [vw K u cs]) L ∧ cs.length = K.n ∧ ∀ off q, Idx p i K.n off q → ∃ g o, q = ⟨g, o, none⟩ ∧ ∀ j v, cs[off + j]? = some v → w.cell? ⟨g, o + j, none⟩ = some v := by
  obtain ⟨hc, Z, S, h1, h2, h3⟩ := H
  obtain ⟨S1, _, _, _, _, ⟨hR, _⟩, _⟩ := Holds_get h2 hk
  obtain ⟨cs, hcs, hcell⟩ := rowH.elem hR hi
  exact ⟨cs, ⟨hc, Z, S, argHolds_append h1 ⟨hcs, trivial⟩, h2, h3⟩, K.len hcs, hcell⟩
/-- Loads of an element, and of a part of it. -/
theorem rn_loadI1 {o : Oper} {t : TypeId} {x : Operand} {q : Addr} {df : TypeDesc} {p : Option Addr} {i : Int} {m off : Nat} {cs : List Value} (E : Env n a l) (ho : o.op = .load t x) (hu : P.underlying t = some df) (hag : aggD df = false) (hx : opv l x = some (.pointer (some q))) (hq : Idx p i m off q)
    (hc : ∀ off q, Idx p i m off q → ∃ g o, q = ⟨g, o, none⟩ ∧ ∀ j v, cs[off + j]? = some v → w.cell? ⟨g, o + j, none⟩ = some v) (hv : cs[off]? = some v) : (execOp a.eval o).run P w = .ok (.value v) w := by
  obtain ⟨g, o', rfl, h⟩ := hc off q hq
  exact rn_load1_at E ho hu hag hx (h 0 v hv)
theorem rn_loadIN {o : Oper} {t : TypeId} {x : Operand} {q : Addr} {df : TypeDesc} {z : Value} {m' b : Nat} {p : Option Addr} {i : Int} {m off : Nat} {cs vs : List Value} (E : Env n a l) (ho : o.op = .load t x) (hu : P.underlying t = some df) (hag : aggD df = true) (hti : TI P t z m' b) (hx : opv l x = some (.pointer (some q))) (hq : Idx p i m off q)
    (hc : ∀ off q, Idx p i m off q → ∃ g o, q = ⟨g, o, none⟩ ∧ ∀ j v, cs[off + j]? = some v → w.cell? ⟨g, o + j, none⟩ = some v) (hm : vs.length = m') (hv : (cs.drop off).take m' = vs) : (execOp a.eval o).run P w = .ok (.value (.agg vs.toArray)) w := by
  obtain ⟨g, o', rfl, h⟩ := hc off q hq
  refine rn_loadN_at E ho hu hag hti hx hm fun j v hj => h j v ?_
  subst hv
  rw [List.getElem?_take] at hj
  split at hj
  · rw [List.getElem?_drop] at hj; exact hj
  · cases hj

theorem ER_set {α : Type} {K : Kind α} {Z : FP} : ∀ {xs : List α} {el : List Value} (i : Nat) (y : α) (c : List Value), ER K w xs Z el → i < xs.length → K.R w Z y c →
    ER K w (xs.set i y) Z (el.take (i * K.n) ++ c ++ el.drop (i * K.n + K.n))
  | [], _, _, _, _, _, h, _ => by simp at h
  | x :: xs, _, 0, y, c, ⟨c1, c2, e, k1, k2⟩, _, hy => by
    subst e
    have hl := K.len k1
    refine ⟨c, c2, ?_, hy, k2⟩
    simp only [Nat.zero_mul, List.take_zero, List.nil_append, Nat.zero_add]
    rw [List.drop_append, List.drop_of_length_le (by omega), hl, Nat.sub_self, List.nil_append, List.drop_zero]
  | x :: xs, _, i + 1, y, c, ⟨c1, c2, e, k1, k2⟩, hi, hy => by
    subst e
    have hl := K.len k1
    have ih := ER_set i y c k2 (by simpa using hi) hy
    refine ⟨c1, _, ?_, k1, ih⟩
    have e1 : (i + 1) * K.n = c1.length + i * K.n := by rw [Nat.succ_mul]; omega
    rw [e1, List.take_append, List.take_of_length_le (by omega), Nat.add_sub_cancel_left, Nat.add_assoc, List.drop_append, List.drop_of_length_le (by omega), Nat.add_sub_cancel_left, List.nil_append]
    simp [List.append_assoc]
/-- A store into an element (or a part of it) of an own slice. -/
theorem wl_storeI {α : Type} {Et : TypeId} {K : Kind α} {t : TypeId} {x y : Operand} {k : Nat} {xs : List α} {p : Option Addr} {m c off m' b : Nat} {i : Int} {u u' : α} {q : Addr} {vs : List Value} {z : Value} {I : List SP} (E : Env n a l) (H : St w0 M Y w A L) (hw : Wanted ops a ⟨none, .store t x y, ty, pos, af, gd⟩)
    (hx : opv l x = some (.pointer (some q))) (hy : opv l y = some v) (hk : L[k]? = some (row Et K xs (.slice p m c) :: I)) (hq : Idx p i K.n off q) (hi : at_ xs i = some u) (hti : TI P t z m' b) (hv : v.cells = vs.toArray) (hm : vs.length = m') (h1 : vs.all Value.oneCell' = true)
    (hfit : off + m' ≤ K.n) (hu' : ∀ Z cs, argHolds w A Z → K.R w Z u cs → K.R w Z u' (cs.take off ++ vs ++ cs.drop (off + m'))) (hL : L.set k [row Et K (xs.set i.toNat u') (.slice p m c)] = L')
    (h : ∀ w' a', Env n a' l → St w0 M Y w' A L' → κ a' w') : Step P ops Q ⟨none, .store t x y, ty, pos, af, gd⟩ κ a w := by
  subst hm hL
  obtain ⟨h0, hlt, hx2⟩ := at_some hi
  have key : ∀ Z S, argHolds w A Z → (∀ b, Z b → ¬ S b) → rowH Et K xs (.slice p m c) w Z S → ∃ g o cur, q = ⟨g, o, none⟩ ∧ S g ∧ w.heap[g]? = some (.cells cur Et (0, 0)) ∧ o + vs.length ≤ cur.size ∧
      rowH Et K (xs.set i.toNat u') (.slice p m c) (w.setRow g (cur.toList.take o ++ vs ++ cur.toList.drop (o + vs.length)).toArray) Z S := by
    intro Z S hA hZS hR
    rcases hR with ⟨_, rfl⟩ | ⟨g, o, cap, pre, el, post, e, hg, hh, ho, hl, hp, hmx, hE⟩
    · simp at hlt
    · simp only [Value.slice.injEq] at e
      obtain ⟨rfl, rfl, rfl⟩ := e
      obtain ⟨g', o', hp', rfl⟩ := hq
      simp only [Option.some.injEq, Addr.mk.injEq, and_true] at hp'
      obtain ⟨rfl, rfl⟩ := hp'
      have hel := ER_len hE
      have hin : i.toNat * K.n + K.n ≤ el.length := by
        rw [hel, ← Nat.succ_mul]
        exact Nat.mul_le_mul_right _ hlt
      have hEu := ER_get i.toNat u hE hx2
      have hul := K.len hEu
      have hset := ER_set i.toNat u' _ hE hlt (hu' Z _ hA hEu)
      have hcl := K.len (hu' Z _ hA hEu)
      refine ⟨g, _, _, rfl, hg, hh, by simp; omega, .inr ⟨g, o, _, pre, _, post, by rw [List.length_set], hg, ?_, ho, by rw [List.length_set]; exact hl, by rw [List.length_set]; exact hp, hmx,
        ER_loc (fun b hb => setRow_other w g b _ (fun e => hZS b hb (e ▸ hg))) hset⟩⟩
      rw [setRow_heap w g _ _ Et (0, 0) hh]
      congr 2
      have hX : (pre ++ el ++ post) = (pre ++ el.take (i.toNat * K.n)) ++ ((el.drop (i.toNat * K.n)).take K.n ++ (el.drop (i.toNat * K.n + K.n) ++ post)) := by
        conv => lhs; rw [← List.take_append_drop (i.toNat * K.n) el, ← List.take_append_drop K.n (el.drop (i.toNat * K.n))]
        simp [List.append_assoc, List.drop_drop]
      have hY : ∀ Y : List Value, (pre ++ (el.take (i.toNat * K.n) ++ Y ++ el.drop (i.toNat * K.n + K.n)) ++ post) = (pre ++ el.take (i.toNat * K.n)) ++ (Y ++ (el.drop (i.toNat * K.n + K.n) ++ post)) := fun Y => by simp [List.append_assoc]
      rw [hX, hY]
      generalize hB : (el.drop (i.toNat * K.n)).take K.n = B at *
      generalize el.drop (i.toNat * K.n + K.n) ++ post = C at *
      have hpl : (pre ++ el.take (i.toNat * K.n)).length = o + i.toNat * K.n := by simp; omega
      generalize pre ++ el.take (i.toNat * K.n) = D at *
      have e3 : o + (i.toNat * K.n + off) = D.length + off := by omega
      rw [e3, List.take_append, List.take_of_length_le (by omega), Nat.add_sub_cancel_left, List.take_append_of_le_length (by omega), Nat.add_assoc, List.drop_append, List.drop_of_length_le (by omega), Nat.add_sub_cancel_left, List.nil_append, List.drop_append_of_le_length (by omega)]
      simp only [List.append_assoc]
  obtain ⟨hc, Z, S, g1, g2, g3, g4, g5, g6⟩ := id H
  obtain ⟨S1, S2, e1, e2, ed, ⟨hR, _⟩, _⟩ := Holds_get g2 hk
  obtain ⟨g, o, cur, rfl, hg, hh, hfit', _⟩ := key Z S1 g1 (fun b hb hh => g3 b hb (e1 b hh)) hR
  have hst := run_storeCells_at P g o Et vs 0 cur w hh (by simpa using hfit') (fun u hu => List.all_eq_true.1 h1 u hu)
  simp only [Nat.add_zero] at hst
  refine wl_unit (w' := w.setRow g (cur.toList.take o ++ vs ++ cur.toList.drop (o + vs.length)).toArray) E hw ?_ fun a' E' => h _ a' E' (H.upd hk fun Z S1 _ hd1 hZS hA ⟨hR, _⟩ => ?_)
  · simp [execOp, E.eval hx, E.eval hy, Instr.storeAt, Instr.sureAddr, storeVar, hti.sizeOf, hv, hst]
  · obtain ⟨g', o', cur', hqe, hg', hh', _, hrow⟩ := key Z S1 hA hZS hR
    simp only [Addr.mk.injEq, and_true] at hqe
    obtain ⟨rfl, rfl⟩ := hqe
    rw [hh] at hh'
    simp only [Option.some.injEq, Obj.cells.injEq, and_true] at hh'
    obtain rfl := hh'
    exact ⟨S1, ⟨hrow, trivial⟩, fun b hb => .inl hb, Chg.setRow _ hg'⟩
end
end Go.Gx
