/- Slices of a walk's own: made, appended to, written, cut; calls by their contracts; the ends of a walk. -/
import Derived.Test.YtgcigcbhilcgoaaDoorHOps
namespace Go.Gx
open Go.RowKit

/-- What a function does, called with these arguments where the shared facts Ac hold and the items Lc are lent to it: it returns v, what it hands back is shared (A') or the caller's own (N). -/
def FunG (P : Program) (f : FuncId) (args : Array Value) (Ac : List VP) (Lc : List (List SP)) {τ : Type} (v : τ → Value) (A' : τ → List VP) (N : τ → List (List SP)) : Prop :=
  ∀ w Z S, (∀ b, Z b → b < w.heap.size) → (∀ b, S b → b < w.heap.size) → (∀ b, Z b → ¬ S b) → argHolds w Ac Z → Holds w Z Lc S → Calls P f args w fun e w2 => ∃ t, e = .returned (v t) ∧ PostG w w2 S Z (A' t) (N t)
/-- What does not hang on what is shared. -/
def Flat (N : List (List SP)) : Prop := ∀ w Z S, Holds w Z N S → Holds w Nil N S

section
variable {P : Program} {ops : Array Oper} {rest : List Oper} {Q : Exit → Act → World → Prop} {κ : Act → World → Prop} {a : Act} {w w0 w' : World} {n : Nat} {l : List (Nat × Value)} {M Y : FP} {A A' Ac : List VP} {L L' : List (List SP)}
  {d : Nat} {op : Op} {ty : TypeId} {pos : String} {af : Array Edge} {gd : Option (Nat × Bool)} {v : Value}

theorem wl_funG {f : FuncId} {args : Array Value} {Lc Lr : List (List SP)} {τ : Type} {v : τ → Value} {A' : τ → List VP} {N : τ → List (List SP)} (E : Env n a l) (H : St w0 M Y w A L) (hw : Wanted ops a ⟨some d, op, ty, pos, af, gd⟩) (hr : (execOp a.eval ⟨some d, op, ty, pos, af, gd⟩).run P w = .ok (.enter f args) w) (hd : Nat.blt d n = true)
    (hp : Pick L Lc Lr) (hA : ∀ Z, argHolds w A Z → argHolds w Ac Z) (hf : FunG P f args Ac Lc v A' N)
    (h : ∀ t w' a', Env n a' ((d, v t) :: l) → St w0 M Y w' (A' t ++ A) (N t ++ Lr) → κ a' w') : Step P ops Q ⟨some d, op, ty, pos, af, gd⟩ κ a w := by
  obtain ⟨hc, Z, S, h1, h2, h3, h4, h5, h6⟩ := H
  obtain ⟨Sc, Sr, e1, e2, ed, k1, k2⟩ := Holds_pick hp h2
  refine wl_call (Φ := fun u w2 => ∃ t, u = v t ∧ PostG w w2 Sc Z (A' t) (N t)) E hw hr hd ((hf w Z Sc h4 (fun b hb => (h5 b (e1 b hb)).1) (fun b hb hh => h3 b hb (e1 b hh)) (hA Z h1) k1).mono fun e w2 ⟨t, he, p⟩ => ⟨v t, he, t, rfl, p⟩) fun u w2 ⟨t, hu, p⟩ a' E' => ?_
  subst hu
  exact h t w2 a' E' (St.callG hc h1 h3 h4 h5 h6 e1 e2 ed k2 p)
/-- The arguments may lead to what is the walk's own; what comes back does not lead there. -/
theorem wl_funF {f : FuncId} {args : Array Value} {Lc Lr : List (List SP)} {τ : Type} {v : τ → Value} {N : τ → List (List SP)} (E : Env n a l) (H : St w0 M Y w A L) (hw : Wanted ops a ⟨some d, op, ty, pos, af, gd⟩) (hr : (execOp a.eval ⟨some d, op, ty, pos, af, gd⟩).run P w = .ok (.enter f args) w) (hd : Nat.blt d n = true)
    (hp : Pick L Lc Lr) (hA : ∀ Z S, argHolds w A Z → Holds w Z Lr S → argHolds w Ac (fun b => Z b ∨ S b)) (hf : FunG P f args Ac Lc v (fun _ => []) N) (hfl : ∀ t, Flat (N t))
    (h : ∀ t w' a', Env n a' ((d, v t) :: l) → St w0 M Y w' A (N t ++ Lr) → κ a' w') : Step P ops Q ⟨some d, op, ty, pos, af, gd⟩ κ a w := by
  obtain ⟨hc, Z, S, h1, h2, h3, h4, h5, h6⟩ := H
  obtain ⟨Sc, Sr, e1, e2, ed, k1, k2⟩ := Holds_pick hp h2
  refine wl_call (Φ := fun u w2 => ∃ t, u = v t ∧ PostG w w2 Sc (fun b => Z b ∨ Sr b) [] (N t)) E hw hr hd ((hf w (fun b => Z b ∨ Sr b) Sc (fun b hb => hb.elim (h4 b) (fun h => (h5 b (e2 b h)).1)) (fun b hb => (h5 b (e1 b hb)).1) (fun b hb hh => hb.elim (fun h => h3 b h (e1 b hh)) (fun h => ed b hh h)) (hA Z Sr h1 k2) (Holds_mono (fun b h => .inl h) (fun _ h => h) k1)).mono fun e w2 ⟨t, he, p⟩ => ⟨v t, he, t, rfl, p⟩) fun u w2 ⟨t, hu, p⟩ a' E' => ?_
  subst hu
  obtain ⟨c, Z', T, _, hN, hzt, hz', ht⟩ := p
  exact h t w2 a' E' (St.callG (A' := []) hc h1 h3 h4 h5 h6 e1 e2 ed k2 ⟨c, Nil, T, trivial, Holds_mono (fun _ h => h.elim) (fun _ h => h) (hfl t _ _ _ hN), fun _ h => h.elim, fun _ h => h.elim, ht⟩)

/-! ### Own slices -/
theorem Chg.grow {g : Nat} {cs : Array Value} {S : FP} (hg : S g) (h : w' = w.setRow g cs) : Chg w w' S := by subst h; exact Chg.setRow cs hg
theorem St.nilRow {α : Type} (E : TypeId) (K : Kind α) (H : St w0 M Y w A L) : St w0 M Y w A ([row E K [] (.slice none 0 0)] :: L) :=
  H.news (N := [[row E K [] (.slice none 0 0)]]) (Chg.refl _ _) ⟨Nil, fun _ h => h.elim, Nil, Nil, fun _ h => h, fun _ h => h, fun _ h => h.elim, ⟨.inl ⟨⟨none, rfl⟩, rfl⟩, trivial⟩, trivial⟩
/-- What a value can be read as, in what is shared or the walk's own. -/
def Reads {α : Type} (K : Kind α) (xs : List α) (v : Value) (w : World) : Prop := ∃ Z, sliceR K w Z xs [v]
theorem St.readA {α : Type} {E : TypeId} {K : Kind α} {xs : List α} {k : Nat} (H : St w0 M Y w A L) (hk : A[k]? = some (vw (kSlice E K) xs [v])) : Reads K xs v w := H.arg hk
theorem St.readL {α : Type} {E : TypeId} {K : Kind α} {xs : List α} {i : Nat} {I : List SP} (H : St w0 M Y w A L) (hi : L[i]? = some (row E K xs v :: I)) : Reads K xs v w := by
  obtain ⟨Z, S, h, _⟩ := H.item hi
  exact ⟨_, rowH.read h⟩
theorem rn_idx {o : Oper} {t e : TypeId} {x y : Operand} {k : IntKind} {i : Int} {p : Option Addr} {m c : Nat} {z : Value} {b : Nat} {α : Type} {K : Kind α} {xs : List α} {u : α} (E : Env n a l) (ho : o.op = .indexAddr t x y) (hu : P.underlying t = some (.slice e)) (hti : TI P e z K.n b)
    (hx : opv l x = some (.slice p m c)) (hy : opv l y = some (.int k i)) (hR : Reads K xs (.slice p m c) w) (hi : at_ xs i = some u) : ∃ q, Idx p i K.n 0 q ∧ ∀ w', (execOp a.eval o).run P w' = .ok (.value (.pointer (some q))) w' :=
  let ⟨_, h⟩ := hR
  rn_indexAddr E ho hu hti hx hy h hi
/-- Loads of an element, and of a part of it. -/
theorem rn_loadI1 {o : Oper} {t : TypeId} {x : Operand} {q : Addr} {df : TypeDesc} {p : Option Addr} {i : Int} {m off : Nat} {cs : List Value} (E : Env n a l) (ho : o.op = .load t x) (hu : P.underlying t = some df) (hag : aggD df = false) (hx : opv l x = some (.pointer (some q))) (hq : Idx p i m off q)
    (hc : ∀ off q, Idx p i m off q → ∃ g o, q = ⟨g, o, none⟩ ∧ ∀ j v, cs[off + j]? = some v → w.cell? ⟨g, o + j, none⟩ = some v) (hv : cs[off]? = some v) : (execOp a.eval o).run P w = .ok (.value v) w := by
  obtain ⟨g, o', rfl, h⟩ := hc off q hq
  exact rn_load1_at E ho hu hag hx (h 0 v hv)
theorem rn_loadIN {o : Oper} {t : TypeId} {x : Operand} {q : Addr} {df : TypeDesc} {z : Value} {m' b : Nat} {p : Option Addr} {i : Int} {m off : Nat} {cs vs : List Value} (E : Env n a l) (ho : o.op = .load t x) (hu : P.underlying t = some df) (hag : aggD df = true) (hti : TI P t z m' b) (hx : opv l x = some (.pointer (some q))) (hq : Idx p i m off q)
    (hc : ∀ off q, Idx p i m off q → ∃ g o, q = ⟨g, o, none⟩ ∧ ∀ j v, cs[off + j]? = some v → w.cell? ⟨g, o + j, none⟩ = some v) (hm : vs.length = m') (hv : (cs.drop off).take m' = vs) : (execOp a.eval o).run P w = .ok (.value (.agg vs.toArray)) w := by
  obtain ⟨g, o', rfl, h⟩ := hc off q hq
  refine rn_loadN_at E ho hu hag hti hx hm fun j v hj => h j v ?_
  subst hv
  rw [List.getElem?_take] at hj
  split at hj
  · rw [List.getElem?_drop] at hj; exact hj
  · cases hj

/-! ### A row's element laid open, and the row shut again -/
theorem row_open {α : Type} {E : TypeId} {K : Kind α} {xs : List α} {v : Value} {Z S : FP} {i : Int} {u : α} (h : rowH E K xs v w Z S) (hi : at_ xs i = some u) :
    ∃ cs S1 S2, (∀ b, S1 b → S b) ∧ (∀ b, S2 b → S b) ∧ (∀ b, S1 b → ¬ S2 b) ∧ holeH E K xs i.toNat cs v w Z S1 ∧ K.O w Z S2 u cs := by
  obtain ⟨h0, h1, h2⟩ := at_some hi
  rcases h with ⟨_, rfl⟩ | ⟨g, off, cap, pre, el, post, e, hg, hh, ho, hl, hp, hm, S', hs, hn, hE⟩
  · simp at h1
  · have hx : xs = xs.take i.toNat ++ (u :: xs.drop (i.toNat + 1)) := by
      have : xs.drop i.toNat = u :: xs.drop (i.toNat + 1) := by
        obtain ⟨hlt, he⟩ := List.getElem?_eq_some_iff.1 h2
        rw [List.drop_eq_getElem_cons hlt, he]
      rw [← this, List.take_append_drop]
    have hE' := hE
    rw [hx] at hE'
    obtain ⟨c1, d, T1, T2, rfl, g1, g2, gd, k1, c2, c3, U1, U2, rfl, j1, j2, jd, l1, l2⟩ := EO_split hE'
    simp only [List.cons.injEq, and_true] at e
    have hnU : ¬ U1 g := fun hh => hn (g2 g (j1 g hh))
    refine ⟨c2, fun b => b = g ∨ T1 b ∨ U2 b, U1, fun b hb => ?_, fun b hb => hs b (g2 b (j1 b hb)), fun b hb hu => ?_, ⟨g, off, cap, pre, c1, c3, post, e, .inl rfl, by rw [hh]; simp [List.append_assoc], ho, hl, hp, hm, h1, K.lenO l1, T1, U2, fun b h => .inr (.inl h), fun b h => .inr (.inr h), fun h => hn (g1 g h), fun h => hn (g2 g (j2 g h)), fun b h k => gd b h (j2 b k), k1, l2⟩, l1⟩
    · rcases hb with rfl | hb | hb
      · exact hg
      · exact hs b (g1 b hb)
      · exact hs b (g2 b (j2 b hb))
    · rcases hb with rfl | hb | hb
      · exact hnU hu
      · exact gd b hb (j1 b hu)
      · exact jd b hu hb
theorem hole_close {α : Type} {E : TypeId} {K : Kind α} {xs : List α} {i : Nat} {v : Value} {cs : List Value} {Z S1 S2 : FP} {u : α} (h : holeH E K xs i cs v w Z S1) (hK : K.O w Z S2 u cs) (hd : ∀ b, S1 b → ¬ S2 b) : rowH E K (xs.set i u) v w Z (fun b => S1 b ∨ S2 b) := by
  obtain ⟨g, off, cap, pre, e1, e2, post, rfl, hg, hh, ho, hl, hp, hm, hi, hc, T1, T2, h1, h2, n1, n2, ht, k1, k2⟩ := h
  have hx : xs.set i u = xs.take i ++ (u :: xs.drop (i + 1)) := by rw [List.set_eq_take_append_cons_drop, if_pos hi]
  refine .inr ⟨g, off, cap, pre, e1 ++ cs ++ e2, post, by rw [List.length_set], .inl hg, hh, ho, by rw [List.length_set]; exact hl, by rw [List.length_set]; exact hp, hm, fun b => T1 b ∨ (S2 b ∨ T2 b), fun b hb => ?_, ?_, ?_⟩
  · rcases hb with hb | hb | hb
    · exact .inl (h1 b hb)
    · exact .inr hb
    · exact .inl (h2 b hb)
  · rintro (hb | hb | hb)
    · exact n1 hb
    · exact hd g hg hb
    · exact n2 hb
  · rw [hx, List.append_assoc]
    exact EO_append k1 (S := T1) (T := fun b => S2 b ∨ T2 b) ⟨cs, e2, S2, T2, rfl, fun b h => .inl h, fun b h => .inr h, fun b h k => hd b (h2 b k) h, hK, k2⟩ (fun b h k => k.elim (fun k => hd b (h1 b h) k) (ht b h)) (fun b h => .inl h) (fun b h => .inr h)
theorem set_same {α : Type} {xs : List α} {i : Int} {u : α} (h : at_ xs i = some u) : xs.set i.toNat u = xs := by
  obtain ⟨_, h1, h2⟩ := at_some h
  obtain ⟨hlt, he⟩ := List.getElem?_eq_some_iff.1 h2
  rw [← he, List.set_getElem_self]
theorem at_set {α : Type} {xs : List α} {i : Int} {u u' : α} (h : at_ xs i = some u) : at_ (xs.set i.toNat u') i = some u' := by
  obtain ⟨h0, h1, _⟩ := at_some h
  unfold at_
  rw [if_pos h0, List.getElem?_set_self h1]
/-- The cells of the open element. -/
theorem hole_cells {α : Type} {E : TypeId} {K : Kind α} {xs : List α} {i : Int} {p : Option Addr} {m c : Nat} {cs : List Value} {Z S : FP} (h : holeH E K xs i.toNat cs (.slice p m c) w Z S) :
    ∀ off q, Idx p i K.n off q → ∃ g o, q = ⟨g, o, none⟩ ∧ ∀ j v, cs[off + j]? = some v → w.cell? ⟨g, o + j, none⟩ = some v := by
  obtain ⟨g, off0, cap, pre, e1, e2, post, e, hg, hh, ho, hl, hp, hm, hi, hc, T1, T2, h1, h2, n1, n2, ht, k1, k2⟩ := h
  rintro off q ⟨g', o', hp', rfl⟩
  simp only [Value.slice.injEq] at e
  obtain ⟨rfl, rfl, rfl⟩ := e
  simp only [Option.some.injEq, Addr.mk.injEq, and_true] at hp'
  obtain ⟨rfl, rfl⟩ := hp'
  refine ⟨g, _, rfl, fun j v hv => ?_⟩
  have hl1 : e1.length = i.toNat * K.n := by rw [EO_len k1, List.length_take, Nat.min_eq_left (Nat.le_of_lt hi)]
  have hlt : off + j < cs.length := (List.getElem?_eq_some_iff.1 hv).1
  simp only [World.cell?, hh, Option.isSome_none, Bool.false_eq_true, if_false, List.getElem?_toArray]
  rw [List.getElem?_append_left (by simp; omega), List.getElem?_append_right (by omega), List.append_assoc, List.getElem?_append_right (by omega), List.getElem?_append_left (by omega), ← hv]
  congr 1
  omega
/-- A store into the open element. -/
theorem hole_store {α : Type} {E : TypeId} {K : Kind α} {xs : List α} {i : Int} {p : Option Addr} {m c off : Nat} {cs cs' vs : List Value} {Z S : FP} {q : Addr} (h : holeH E K xs i.toNat cs (.slice p m c) w Z S) (hZS : ∀ b, Z b → ¬ S b) (hq : Idx p i K.n off q) (hfit : off + vs.length ≤ cs.length) (hcs : cs.take off ++ vs ++ cs.drop (off + vs.length) = cs') (h1 : ∀ u ∈ vs, u.oneCell' = true) :
    ∃ w', (storeCells q vs).run P w = .ok () w' ∧ Chg w w' S ∧ holeH E K xs i.toNat cs' (.slice p m c) w' Z S := by
  obtain ⟨g, off0, cap, pre, e1, e2, post, e, hg, hh, ho, hl, hp, hm, hi, hc, T1, T2, hs1, hs2, n1, n2, ht, k1, k2⟩ := h
  obtain ⟨g', o', hp', rfl⟩ := hq
  simp only [Value.slice.injEq] at e
  obtain ⟨rfl, rfl, rfl⟩ := e
  simp only [Option.some.injEq, Addr.mk.injEq, and_true] at hp'
  obtain ⟨rfl, rfl⟩ := hp'
  have hl1 : e1.length = i.toNat * K.n := by rw [EO_len k1, List.length_take, Nat.min_eq_left (Nat.le_of_lt hi)]
  have hst := run_storeCells_at P g (off0 + (i.toNat * K.n + off)) E vs 0 (pre ++ (e1 ++ cs ++ e2) ++ post).toArray w hh (by simp; omega) h1
  simp only [Nat.add_zero] at hst
  refine ⟨_, hst, Chg.setRow _ hg, g, off0, c, pre, e1, e2, post, rfl, hg, ?_, ho, hl, hp, hm, hi, ?_, T1, T2, hs1, hs2, n1, n2, ht, ?_, ?_⟩
  · rw [setRow_heap w g _ _ E (0, 0) hh, ← hcs]
    congr 2
    have e3 : pre ++ (e1 ++ cs ++ e2) ++ post = (pre ++ e1) ++ (cs ++ (e2 ++ post)) := by simp [List.append_assoc]
    have hpl : (pre ++ e1).length = off0 + i.toNat * K.n := by simp; omega
    rw [e3, show off0 + (i.toNat * K.n + off) = (pre ++ e1).length + off by omega, List.take_append, List.take_of_length_le (by omega), Nat.add_sub_cancel_left, List.take_append_of_le_length (by omega), Nat.add_assoc, List.drop_append, List.drop_of_length_le (by omega), Nat.add_sub_cancel_left, List.nil_append, List.drop_append_of_le_length (by omega)]
    simp only [List.append_assoc]
  · rw [← hcs, ← hc]; simp; omega
  · exact EO_loc (fun b hb => setRow_other w g b _ (fun e => hZS b hb (e ▸ hg))) (fun b hb => setRow_other w g b _ (fun e => n1 (e ▸ hb))) k1
  · exact EO_loc (fun b hb => setRow_other w g b _ (fun e => hZS b hb (e ▸ hg))) (fun b hb => setRow_other w g b _ (fun e => n2 (e ▸ hb))) k2
/-- Two items, the first of which leaves its part to the others. -/
theorem St.split {I : List SP} {N L' : List (List SP)} {B : List VP} (H : St w0 M Y w A L) (hi : Ext L I L')
    (f : ∀ Z S, argHolds w A Z → itemHolds w Z I S → argHolds w B Z ∧ Holds w Z N S) : St w0 M Y w (B ++ A) (N ++ L') := by
  obtain ⟨hc, Z, S, h1, h2, h3, h4, h5, h6⟩ := H
  obtain ⟨S1, S2, e1, e2, ed, k1, k2⟩ := Holds_ext hi h2
  obtain ⟨g1, g2⟩ := f Z S1 h1 k1
  exact ⟨hc, Z, S, argHolds_append g1 h1, Holds_mono (fun _ h => h) (fun b h => h.elim (e1 b) (e2 b)) (Holds_append g2 k2 ed), h3, h4, h5, h6⟩
/-- Several items become others. -/
theorem St.melt {Lc N Lr : List (List SP)} (H : St w0 M Y w A L) (hp : Pick L Lc Lr)
    (f : ∀ Z S, (∀ b, Z b → ¬ S b) → argHolds w A Z → Holds w Z Lc S → Holds w Z N S) : St w0 M Y w A (N ++ Lr) := by
  obtain ⟨hc, Z, S, h1, h2, h3, h4, h5, h6⟩ := H
  obtain ⟨S1, S2, e1, e2, ed, k1, k2⟩ := Holds_pick hp h2
  exact ⟨hc, Z, S, h1, Holds_mono (fun _ h => h) (fun b h => h.elim (e1 b) (e2 b)) (Holds_append (f Z S1 (fun b hz hs => h3 b hz (e1 b hs)) h1 k1) k2 ed), h3, h4, h5, h6⟩

/-! ### How the cells of a value are told, and what its slices lead to -/
def Opens {α τ : Type} (K : Kind α) (f : α → τ → List Value) (B : α → τ → List VP) : Prop := ∀ ⦃w : World⦄ ⦃Z : FP⦄ ⦃x : α⦄ ⦃cs : List Value⦄, K.R w Z x cs → ∃ t, cs = f x t ∧ argHolds w (B x t) Z
def Shuts {α τ : Type} (K : Kind α) (f : α → τ → List Value) (B : α → τ → List VP) : Prop := ∀ ⦃w : World⦄ ⦃Z : FP⦄ ⦃x : α⦄ ⦃t : τ⦄, argHolds w (B x t) Z → K.R w Z x (f x t)
def OpensO {α τ : Type} (K : Kind α) (f : α → τ → List Value) (N : α → τ → List (List SP)) (B : α → τ → List VP) : Prop := ∀ ⦃w : World⦄ ⦃Z S : FP⦄ ⦃x : α⦄ ⦃cs : List Value⦄, K.O w Z S x cs → ∃ t, cs = f x t ∧ Holds w Z (N x t) S ∧ argHolds w (B x t) Z
def ShutsO {α τ : Type} (K : Kind α) (f : α → τ → List Value) (N : α → τ → List (List SP)) (B : α → τ → List VP) : Prop := ∀ ⦃w : World⦄ ⦃Z S : FP⦄ ⦃x : α⦄ ⦃t : τ⦄, Holds w Z (N x t) S → argHolds w (B x t) Z → K.O w Z S x (f x t)
section
variable {α β τ σ τ' : Type} {K : Kind α} {J : Kind β} {f : α → τ → List Value} {g : β → σ → List Value} {N : α → τ → List (List SP)} {Nn : β → σ → List (List SP)} {B : α → τ → List VP} {C : β → σ → List VP}
theorem opens_int (k : IntKind) : Opens (kInt k) (fun x (_ : Unit) => [.int k x]) (fun _ _ => []) := fun _ _ _ _ h => ⟨(), h, trivial⟩
theorem opens_bool : Opens kBool (fun x (_ : Unit) => [.bool x]) (fun _ _ => []) := fun _ _ _ _ h => ⟨(), h, trivial⟩
theorem opens_str : Opens kStr (fun x (_ : Unit) => [.string x]) (fun _ _ => []) := fun _ _ _ _ h => ⟨(), h, trivial⟩
theorem opens_slice (E : TypeId) (K : Kind α) : Opens (kSlice E K) (fun _ (t : Option Addr × Nat × Nat) => [.slice t.1 t.2.1 t.2.2]) (fun x t => [vw (kSlice E K) x [.slice t.1 t.2.1 t.2.2]]) := fun _ _ x cs h => by
  obtain ⟨p, c, rfl, hh⟩ := h
  exact ⟨(p, x.length, c), rfl, ⟨p, c, rfl, hh⟩, trivial⟩
theorem opens_pair (h : Opens K f B) (k : Opens J g C) : Opens (kPair K J) (fun x (t : τ × σ) => f x.1 t.1 ++ g x.2 t.2) (fun x t => B x.1 t.1 ++ C x.2 t.2) := fun _ _ _ _ ⟨c1, c2, e, k1, k2⟩ => by
  obtain ⟨t, rfl, b1⟩ := h k1
  obtain ⟨s, rfl, b2⟩ := k k2
  exact ⟨(t, s), e, argHolds_append b1 b2⟩
theorem opens_iso {i : β → α} (h : Opens K f B) : Opens (kIso K i) (fun x t => f (i x) t) (fun x t => B (i x) t) := fun _ _ _ _ k => h k
theorem opens_map {f' : α → τ' → List Value} {B' : α → τ' → List VP} (h : Opens K f B) (m : τ → τ') (e1 : ∀ x t, f x t = f' x (m t)) (e2 : ∀ x t, B x t = B' x (m t)) : Opens K f' B' := fun _ _ _ _ k => by
  obtain ⟨t, rfl, b⟩ := h k
  exact ⟨m t, e1 _ _, by rw [← e2]; exact b⟩
theorem shuts_int (k : IntKind) : Shuts (kInt k) (fun x (_ : Unit) => [.int k x]) (fun _ _ => []) := fun _ _ _ _ _ => rfl
theorem shuts_bool : Shuts kBool (fun x (_ : Unit) => [.bool x]) (fun _ _ => []) := fun _ _ _ _ _ => rfl
theorem shuts_str : Shuts kStr (fun x (_ : Unit) => [.string x]) (fun _ _ => []) := fun _ _ _ _ _ => rfl
theorem shuts_slice (E : TypeId) (K : Kind α) : Shuts (kSlice E K) (fun _ (t : Option Addr × Nat × Nat) => [.slice t.1 t.2.1 t.2.2]) (fun x t => [vw (kSlice E K) x [.slice t.1 t.2.1 t.2.2]]) := fun _ _ _ _ h => h.1
theorem argHolds_app {w : World} {Z : FP} : ∀ {A B : List VP}, argHolds w (A ++ B) Z → argHolds w A Z ∧ argHolds w B Z
  | [], _, h => ⟨trivial, h⟩
  | _ :: _, _, ⟨h, k⟩ => ⟨⟨h, (argHolds_app k).1⟩, (argHolds_app k).2⟩
theorem shuts_pair (h : Shuts K f B) (k : Shuts J g C) : Shuts (kPair K J) (fun x (t : τ × σ) => f x.1 t.1 ++ g x.2 t.2) (fun x t => B x.1 t.1 ++ C x.2 t.2) := fun _ _ _ _ b => ⟨_, _, rfl, h (argHolds_app b).1, k (argHolds_app b).2⟩
theorem shuts_iso {i : β → α} (h : Shuts K f B) : Shuts (kIso K i) (fun x t => f (i x) t) (fun x t => B (i x) t) := fun _ _ _ _ k => h k
theorem shuts_map {f' : α → τ' → List Value} {B' : α → τ' → List VP} (h : Shuts K f B) (m : τ' → τ) (e1 : ∀ x t, f x (m t) = f' x t) (e2 : ∀ x t, B x (m t) = B' x t) : Shuts K f' B' := fun _ _ _ _ k => by
  rw [← e1]
  exact h (by rw [e2]; exact k)
theorem opensO_int (k : IntKind) : OpensO (kInt k) (fun x (_ : Unit) => [.int k x]) (fun _ _ => []) (fun _ _ => []) := fun _ _ _ _ _ h => ⟨(), h, trivial, trivial⟩
theorem opensO_bool : OpensO kBool (fun x (_ : Unit) => [.bool x]) (fun _ _ => []) (fun _ _ => []) := fun _ _ _ _ _ h => ⟨(), h, trivial, trivial⟩
theorem opensO_str : OpensO kStr (fun x (_ : Unit) => [.string x]) (fun _ _ => []) (fun _ _ => []) := fun _ _ _ _ _ h => ⟨(), h, trivial, trivial⟩
theorem opensO_slice (E : TypeId) (K : Kind α) : OpensO (kSlice E K) (fun _ (t : Option Addr × Nat × Nat) => [.slice t.1 t.2.1 t.2.2]) (fun x t => [[row E K x (.slice t.1 t.2.1 t.2.2)]]) (fun _ _ => []) := fun w Z S x cs h => by
  have hs : ∃ p m c, cs = [.slice p m c] := by
    obtain ⟨p, c, e⟩ := sliceR.shape ((kSlice E K).OR h)
    exact ⟨p, _, c, e⟩
  obtain ⟨p, m, c, rfl⟩ := hs
  exact ⟨(p, m, c), rfl, ⟨S, Nil, fun _ h => h, fun _ h => h.elim, fun _ _ h => h.elim, ⟨h, trivial⟩, trivial⟩, trivial⟩
theorem opensO_share (h : Opens K f B) : OpensO (kShare K) f (fun _ _ => []) B := fun _ _ _ _ _ k => by
  obtain ⟨t, e, b⟩ := h k
  exact ⟨t, e, trivial, b⟩
theorem opensO_pair (h : OpensO K f N B) (k : OpensO J g Nn C) : OpensO (kPair K J) (fun x (t : τ × σ) => f x.1 t.1 ++ g x.2 t.2) (fun x t => N x.1 t.1 ++ Nn x.2 t.2) (fun x t => B x.1 t.1 ++ C x.2 t.2) := fun _ _ _ _ _ ⟨c1, c2, S1, S2, e, h1, h2, hd, k1, k2⟩ => by
  obtain ⟨t, rfl, n1, b1⟩ := h k1
  obtain ⟨s, rfl, n2, b2⟩ := k k2
  exact ⟨(t, s), e, Holds_mono (fun _ h => h) (fun b hb => hb.elim (h1 b) (h2 b)) (Holds_append n1 n2 hd), argHolds_append b1 b2⟩
theorem opensO_iso {i : β → α} (h : OpensO K f N B) : OpensO (kIso K i) (fun x t => f (i x) t) (fun x t => N (i x) t) (fun x t => B (i x) t) := fun _ _ _ _ _ k => h k
theorem opensO_map {f' : α → τ' → List Value} {N' : α → τ' → List (List SP)} {B' : α → τ' → List VP} (h : OpensO K f N B) (m : τ → τ') (e1 : ∀ x t, f x t = f' x (m t)) (e2 : ∀ x t, N x t = N' x (m t)) (e3 : ∀ x t, B x t = B' x (m t)) : OpensO K f' N' B' := fun _ _ _ _ _ k => by
  obtain ⟨t, rfl, n, b⟩ := h k
  exact ⟨m t, e1 _ _, by rw [← e2]; exact n, by rw [← e3]; exact b⟩
theorem shutsO_int (k : IntKind) : ShutsO (kInt k) (fun x (_ : Unit) => [.int k x]) (fun _ _ => []) (fun _ _ => []) := fun _ _ _ _ _ _ _ => rfl
theorem shutsO_bool : ShutsO kBool (fun x (_ : Unit) => [.bool x]) (fun _ _ => []) (fun _ _ => []) := fun _ _ _ _ _ _ _ => rfl
theorem shutsO_str : ShutsO kStr (fun x (_ : Unit) => [.string x]) (fun _ _ => []) (fun _ _ => []) := fun _ _ _ _ _ _ _ => rfl
theorem shutsO_slice (E : TypeId) (K : Kind α) : ShutsO (kSlice E K) (fun _ (t : Option Addr × Nat × Nat) => [.slice t.1 t.2.1 t.2.2]) (fun x t => [[row E K x (.slice t.1 t.2.1 t.2.2)]]) (fun _ _ => []) := fun _ _ _ _ _ ⟨_, _, h1, _, _, ⟨h, _⟩, _⟩ _ => (kSlice E K).monoO (fun _ h => h) h1 h
theorem shutsO_share (h : Shuts K f B) : ShutsO (kShare K) f (fun _ _ => []) B := fun _ _ _ _ _ _ b => h b
theorem Holds_app {w : World} {Z : FP} : ∀ {L M : List (List SP)} {S : FP}, Holds w Z (L ++ M) S → ∃ S1 S2, (∀ b, S1 b → S b) ∧ (∀ b, S2 b → S b) ∧ (∀ b, S1 b → ¬ S2 b) ∧ Holds w Z L S1 ∧ Holds w Z M S2
  | [], _, S, h => ⟨Nil, S, fun _ h => h.elim, fun _ h => h, fun _ h => h.elim, trivial, h⟩
  | _ :: _, _, _, ⟨S1, S2, h1, h2, hd, k1, k2⟩ => by
    obtain ⟨T1, T2, g1, g2, gd, l1, l2⟩ := Holds_app k2
    exact ⟨fun b => S1 b ∨ T1 b, T2, fun b h => h.elim (h1 b) (fun h => h2 b (g1 b h)), fun b h => h2 b (g2 b h), fun b h hh => h.elim (fun h => hd b h (g2 b hh)) (fun h => gd b h hh), ⟨S1, T1, fun b h => .inl h, fun b h => .inr h, fun b h hh => hd b h (g1 b hh), k1, l1⟩, l2⟩
theorem shutsO_pair (h : ShutsO K f N B) (k : ShutsO J g Nn C) : ShutsO (kPair K J) (fun x (t : τ × σ) => f x.1 t.1 ++ g x.2 t.2) (fun x t => N x.1 t.1 ++ Nn x.2 t.2) (fun x t => B x.1 t.1 ++ C x.2 t.2) := fun _ _ _ _ _ n b => by
  obtain ⟨S1, S2, h1, h2, hd, k1, k2⟩ := Holds_app n
  exact ⟨_, _, S1, S2, rfl, h1, h2, hd, h k1 (argHolds_app b).1, k k2 (argHolds_app b).2⟩
theorem shutsO_iso {i : β → α} (h : ShutsO K f N B) : ShutsO (kIso K i) (fun x t => f (i x) t) (fun x t => N (i x) t) (fun x t => B (i x) t) := fun _ _ _ _ _ k b => h k b
theorem shutsO_map {f' : α → τ' → List Value} {N' : α → τ' → List (List SP)} {B' : α → τ' → List VP} (h : ShutsO K f N B) (m : τ' → τ) (e1 : ∀ x t, f x (m t) = f' x t) (e2 : ∀ x t, N x (m t) = N' x t) (e3 : ∀ x t, B x (m t) = B' x t) : ShutsO K f' N' B' := fun _ _ _ _ _ n b => by
  rw [← e1]
  exact h (by rw [e2]; exact n) (by rw [e3]; exact b)
end
end
end Go.Gx
