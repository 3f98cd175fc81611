/- More operations: '==' of structs, nil slices, make, cuts, clear. -/
import Derived.Test.YtgcigcbhilcgoaaDoorHDraw
import Derived.Laws.StructEq
namespace Go.Gx
open Go.RowKit
section
variable {P : Program} {ops : Array Oper} {rest : List Oper} {Q : Exit → Act → World → Prop} {κ : Act → World → Prop} {a : Act} {w w0 w' : World} {n : Nat} {l : List (Nat × Value)} {M Y : FP} {A A' Ac : List VP} {L L' : List (List SP)}
  {d : Nat} {op : Op} {ty : TypeId} {pos : String} {af : Array Edge} {gd : Option (Nat × Bool)} {v : Value}

/-! ### '==' of structs -/
theorem part1 {t : TypeId} {cs : List Value} {off : Nat} {df : TypeDesc} (hu : P.underlying t = some df) (hag : aggD df = false) (hv : cs[off]? = some v) : (part t cs.toArray off).run P w = .ok v w := by
  simp [part, run_isAgg hu, hag, hv]
theorem partN {t : TypeId} {cs vs : List Value} {off m b : Nat} {df : TypeDesc} {z : Value} (hu : P.underlying t = some df) (hag : aggD df = true) (hti : TI P t z m b) (hv : (cs.drop off).take m = vs) : (part t cs.toArray off).run P w = .ok (.agg vs.toArray) w := by
  subst hv
  simp [part, run_isAgg hu, hag, hti.sizeOf]
theorem eqS_nil {xs ys : Array Value} : (Op.eqFields d xs ys []).run P w = .ok true w := by simp [Op.eqFields]
theorem eqS_cons {xs ys : Array Value} {f : Field} {fs : List Field} {x y : Value} {r s : Bool} (hn : (f.name == "_") = false) (hx : (part f.type xs f.offset).run P w = .ok x w) (hy : (part f.type ys f.offset).run P w = .ok y w) (he : (Op.equalIn d f.type x y).run P w = .ok r w)
    (hr : (Op.eqFields d xs ys fs).run P w = .ok s w) : (Op.eqFields d xs ys (f :: fs)).run P w = .ok (r && s) w := by
  have hn' : f.name ≠ "_" := by simpa using hn
  rw [Op.eqFields, if_pos hn']
  simp only [Sem.run_bind, hx, hy, he, Result.andThen_ok]
  cases r
  · simp
  · simpa using hr
theorem eqS_of {t : TypeId} {fs : Array Field} {xs ys : Array Value} {r : Bool} (hu : P.underlying t = some (.struct fs)) (hp : P.stoodInHeld t = false) (h : (Op.eqFields d xs ys fs.toList).run P w = .ok r w) : (Op.equalIn (d + 1) t (.agg xs) (.agg ys)).run P w = .ok r w := by
  have hf : P.fieldsOf t = fs := by simp [Program.fieldsOf, hu]
  rw [run_equalIn_struct (P := P) w d t xs ys (by rw [hf]; exact hu) hp, hf]
  exact h
theorem rn_eqstruct {o : Oper} {t ty' : TypeId} {x y : Operand} {xs ys : List Value} {r : Bool} (E : Env n a l) (ho : o.op = .binOp .eql t x y ty') (hg : P.eqGuardType P.depth t = false) (hx : opv l x = some (.agg xs.toArray)) (hy : opv l y = some (.agg ys.toArray))
    (he : (Op.equalIn 10000 t (.agg xs.toArray) (.agg ys.toArray)).run P w = .ok r w) : (execOp a.eval o).run P w = .ok (.value (.bool r)) w := by
  simp only [execOp, ho, E.eval hx, E.eval hy, Sem.run_bind, run_eqGuard_agg w .eql t x y _ _ hg, Result.andThen_ok, run_eql_struct, he, Sem.run_pure]
theorem rn_nestruct {o : Oper} {t ty' : TypeId} {x y : Operand} {xs ys : List Value} {r : Bool} (E : Env n a l) (ho : o.op = .binOp .neq t x y ty') (hg : P.eqGuardType P.depth t = false) (hx : opv l x = some (.agg xs.toArray)) (hy : opv l y = some (.agg ys.toArray))
    (he : (Op.equalIn 10000 t (.agg xs.toArray) (.agg ys.toArray)).run P w = .ok r w) : (execOp a.eval o).run P w = .ok (.value (.bool (!r))) w := by
  simp only [execOp, ho, E.eval hx, E.eval hy, Sem.run_bind, run_eqGuard_agg w .neq t x y _ _ hg, Result.andThen_ok, run_neq_struct, he, Sem.run_pure]

/-! ### nil -/
theorem eqGuard_slice {op : BinOp} {t : TypeId} {x y : Operand} {p q : Option Addr} {i j i' j' : Nat} : (eqGuard op t x y (.slice p i j) (.slice q i' j')).run P w = .ok () w := by
  cases op <;> simp [eqGuard]
theorem equal_nil {t e : TypeId} (hu : P.underlying t = some (.slice e)) (p : Option Addr) (i j : Nat) : (Op.equal t (.slice p i j) (.slice none 0 0)).run P w = .ok p.isNone w := by
  show (Op.equalIn (9999 + 1) t (.slice p i j) (.slice none 0 0)).run P w = _
  rw [Op.equalIn, Sem.run_bind, run_underlying hu]
  cases p <;> rfl
theorem rn_eqnil {o : Oper} {t ty' e : TypeId} {x y : Operand} {p : Option Addr} {i j : Nat} (E : Env n a l) (ho : o.op = .binOp .eql t x y ty') (hu : P.underlying t = some (.slice e)) (hx : opv l x = some (.slice p i j)) (hy : opv l y = some (.slice none 0 0)) :
    (execOp a.eval o).run P w = .ok (.value (.bool p.isNone)) w := by
  simp [execOp, ho, E.eval hx, E.eval hy, eqGuard_slice, binOp, equal_nil hu]
theorem rn_nenil {o : Oper} {t ty' e : TypeId} {x y : Operand} {p : Option Addr} {i j : Nat} (E : Env n a l) (ho : o.op = .binOp .neq t x y ty') (hu : P.underlying t = some (.slice e)) (hx : opv l x = some (.slice p i j)) (hy : opv l y = some (.slice none 0 0)) :
    (execOp a.eval o).run P w = .ok (.value (.bool (!p.isNone))) w := by
  simp [execOp, ho, E.eval hx, E.eval hy, eqGuard_slice, binOp, equal_nil hu]
theorem St.nilA {α : Type} {E : TypeId} {K : Kind α} {xs : List α} {m c k : Nat} (H : St w0 M Y w A L) (hk : A[k]? = some (vw (kSlice E K) xs [.slice none m c])) : xs = [] := by
  obtain ⟨Z, p, cap, e, hl, _, hn, _⟩ := H.arg hk
  simp only [List.cons.injEq, Value.slice.injEq, and_true] at e
  obtain ⟨rfl, _, rfl⟩ := e
  have := hn rfl
  exact List.eq_nil_of_length_eq_zero (by omega)

/-! ### make -/
theorem chunk_get (z : List Value) (c : Nat) : ∀ j, j < c * z.length → (madeCells z.toArray (c * z.length)).toList[j]? = z[j % z.length]? := fun j hj => by
  have hz : 0 < z.length := by
    rcases Nat.eq_zero_or_pos z.length with h | h
    · rw [h] at hj; omega
    · exact h
  have hm := Nat.mod_lt j hz
  simp [madeCells, hj, hm]
theorem madeCells_flat (z : List Value) (c : Nat) : (madeCells z.toArray (c * z.length)).toList = (List.replicate c z).flatten := by
  apply List.ext_getElem?
  intro j
  by_cases hj : j < c * z.length
  · rw [chunk_get z c j hj]
    induction c generalizing j with
    | zero => simp at hj
    | succ c ih =>
      rw [List.replicate_succ, List.flatten_cons]
      rcases Nat.lt_or_ge j z.length with h | h
      · rw [List.getElem?_append_left h, Nat.mod_eq_of_lt h]
      · rw [List.getElem?_append_right h, ← ih (j - z.length) (by rw [Nat.succ_mul] at hj; omega), ← Nat.mod_eq_sub_mod h]
  · rw [List.getElem?_eq_none (by simp [size_madeCells]; omega), List.getElem?_eq_none (by simp; omega)]
def makes (i : Int) (b : Nat) : Bool := decide (0 ≤ i ∧ i * b ≤ 281474976710656 ∧ i ≤ 281474976710656)
theorem wl_make {α : Type} {t e : TypeId} {x y : Operand} {K : Kind α} {k : IntKind} {i : Int} {z0 : α} {z : Value} {zc : List Value} {b : Nat} (E : Env n a l) (H : St w0 M Y w A L) (hw : Wanted ops a ⟨some d, .makeSlice t x y, ty, pos, af, gd⟩) (hu : P.underlying t = some (.slice e)) (hti : TI P e z K.n b)
    (hx : opv l x = some (.int k i)) (hy : opv l y = some (.int k i)) (hc : makes i b = true) (hz : z.cells = zc.toArray) (hzl : zc.length = K.n) (hK : ∀ w Z, K.O w Z Nil z0 zc) (hd : Nat.blt d n = true)
    (h : ∀ p m c w' a', Env n a' ((d, .slice p m c) :: l) → St w0 M Y w' A ([row e K (List.replicate i.toNat z0) (.slice p m c)] :: L) → κ a' w') :
    Step P ops Q ⟨some d, .makeSlice t x y, ty, pos, af, gd⟩ κ a w := by
  have hc' : 0 ≤ i ∧ i * b ≤ 281474976710656 ∧ i ≤ 281474976710656 := by simpa [makes] using hc
  obtain ⟨ti, h1, h2, h3, h4⟩ := hti.out
  have hr := run_make (P := P) w t e ti z hu h1 h2 k k i i hc'.1 (Int.le_refl _) (by rw [h4, Int.mul_comm]; exact hc'.2.1) (by omega)
  rw [h3, hz, ← hzl] at hr
  have hlen : (List.replicate i.toNat z0).length = i.toNat := by simp
  refine wl_val (v := .slice (some ⟨w.heap.size, 0, none⟩) (List.replicate i.toNat z0).length i.toNat) (w' := w.alloc (.cells (madeCells zc.toArray (i.toNat * zc.length)) e)) E hw ?_ hd fun a' E' => h _ _ _ _ a' E' (H.news (N := [[row e K (List.replicate i.toNat z0) (.slice (some ⟨w.heap.size, 0, none⟩) (List.replicate i.toNat z0).length i.toNat)]]) (Chg.alloc _ _ _) (News.one (S := fun b => b = w.heap.size) (fun b hb => by subst hb; simp) ⟨.inr ⟨w.heap.size, 0, i.toNat, [], (List.replicate i.toNat zc).flatten, [], rfl, rfl, ?_, rfl, by rw [hlen]; exact Nat.le_refl _, ?_, ?_, Nil, fun _ h => h.elim, fun h => h, EO_replicate (hK _ _) _⟩, trivial⟩))
  · simp only [execOp, E.eval hx, E.eval hy, Sem.run_bind, hr, Result.andThen_ok, Sem.run_pure, hlen]
  · rw [heap_alloc_new, ← madeCells_flat]
    simp
  · rw [hlen]; simp
  · simp only [maxLen]; omega

/-! ### Cuts -/
theorem run_cut {t e : TypeId} {p : Option Addr} {m c : Nat} {z : Value} {s b : Nat} {lo hi : Option Value} {i j : Int} (hu : P.underlying t = some (.slice e)) (hti : TI P e z s b)
    (hlo : (lo = none ∧ i = 0) ∨ ∃ k, lo = some (.int k i)) (hhi : (hi = none ∧ j = m) ∨ ∃ k, hi = some (.int k j)) (h0 : 0 ≤ i) (h1 : i ≤ j) (h2 : j ≤ m) (hmc : m ≤ c) :
    (Instr.sliceAt t (.slice p m c) lo hi none).run P w = .ok (.slice (if c = i.toNat then p else p.map (·.add (i.toNat * s))) (j.toNat - i.toNat) (c - i.toNat)) w := by
  have hj : i ≤ (j.toNat : Int) := by omega
  have hjc : j ≤ (c : Int) := by omega
  have hj0 : 0 ≤ j := by omega
  have b1 := fun k code => run_bound (P := P) (w := w) (k := k) (code := code) h0 hj
  have b2 := fun k code => run_bound (P := P) (w := w) (k := k) (code := code) hj0 hjc
  have b3 := fun k code => run_bound (P := P) (w := w) (k := k) (code := code) h0 (Int.le_trans h1 h2)
  rcases hlo with ⟨rfl, rfl⟩ | ⟨k, rfl⟩ <;> rcases hhi with ⟨rfl, rfl⟩ | ⟨k', rfl⟩
  · simp [Instr.sliceAt, Instr.slice, Instr.sliceBounds, run_underlying hu, hti.sizeOf]
  · simp [Instr.sliceAt, Instr.slice, Instr.sliceBounds, run_underlying hu, hti.sizeOf, b2]
  · simp [Instr.sliceAt, Instr.slice, Instr.sliceBounds, run_underlying hu, hti.sizeOf, b3]
  · simp [Instr.sliceAt, Instr.slice, Instr.sliceBounds, run_underlying hu, hti.sizeOf, b1, b2]
theorem rn_cut {o : Oper} {t e : TypeId} {x : Operand} {lo hi : Option Operand} {p : Option Addr} {m c : Nat} {z : Value} {s b : Nat} {i j : Int} (E : Env n a l) (ho : o.op = .slice t x lo hi none) (hu : P.underlying t = some (.slice e)) (hti : TI P e z s b) (hx : opv l x = some (.slice p m c))
    (hlo : (lo = none ∧ i = 0) ∨ ∃ y k, lo = some y ∧ opv l y = some (.int k i)) (hhi : (hi = none ∧ j = m) ∨ ∃ y k, hi = some y ∧ opv l y = some (.int k j)) (h0 : 0 ≤ i) (h1 : i ≤ j) (h2 : j ≤ m) (hmc : m ≤ c) :
    (execOp a.eval o).run P w = .ok (.value (.slice (if c = i.toNat then p else p.map (·.add (i.toNat * s))) (j.toNat - i.toNat) (c - i.toNat))) w := by
  have := run_cut (P := P) (w := w) (p := p) (m := m) (c := c) (lo := lo.map a.eval) (hi := hi.map a.eval) (i := i) (j := j) hu hti
    (hlo.imp (fun ⟨h, k⟩ => ⟨by rw [h]; rfl, k⟩) fun ⟨y, k, h, hv⟩ => ⟨k, by rw [h]; simp [E.eval hv]⟩) (hhi.imp (fun ⟨h, k⟩ => ⟨by rw [h]; rfl, k⟩) fun ⟨y, k, h, hv⟩ => ⟨k, by rw [h]; simp [E.eval hv]⟩) h0 h1 h2 hmc
  simp [execOp, ho, E.eval hx, this]
theorem wl_cutA {α : Type} {t e : TypeId} {x : Operand} {lo hi : Option Operand} {K : Kind α} {xs : List α} {Et : TypeId} {p : Option Addr} {m c q : Nat} {z : Value} {b : Nat} {i j : Int} (E : Env n a l) (H : St w0 M Y w A L) (hw : Wanted ops a ⟨some d, .slice t x lo hi none, ty, pos, af, gd⟩) (hu : P.underlying t = some (.slice e)) (hti : TI P e z K.n b) (hx : opv l x = some (.slice p m c))
    (hq : A[q]? = some (vw (kSlice Et K) xs [.slice p m c])) (hlo : (lo = none ∧ i = 0) ∨ ∃ y k, lo = some y ∧ opv l y = some (.int k i)) (hhi : (hi = none ∧ j = xs.length) ∨ ∃ y k, hi = some y ∧ opv l y = some (.int k j)) (hc : cutOk xs i j) (hd : Nat.blt d n = true)
    (h : ∀ p' m' c' a', Env n a' ((d, .slice p' m' c') :: l) → St w0 M Y w (vw (kSlice Et K) (cut xs i j) [.slice p' m' c'] :: A) L → κ a' w) : Step P ops Q ⟨some d, .slice t x lo hi none, ty, pos, af, gd⟩ κ a w := by
  obtain ⟨Z0, p', cap, e0, hl, hmx, hn, hh⟩ := H.arg hq
  simp only [List.cons.injEq, Value.slice.injEq, and_true] at e0
  obtain ⟨rfl, rfl, rfl⟩ := e0
  have hr := rn_cut (P := P) (w := w) (o := ⟨some d, .slice t x lo hi none, ty, pos, af, gd⟩) E rfl hu hti hx hlo hhi hc.1 hc.2.1 hc.2.2 hl
  exact wl_val E hw hr hd fun a' E' => h _ _ _ a' E' (H.more (A' := [_]) fun Z hA => ⟨sliceR_cut (argHolds_get hA hq : sliceR K w Z xs [.slice p xs.length c]) hc, trivial⟩)
/-- A cut of a row of the walk's own: the rest is forgotten. -/
theorem wl_cutL {α : Type} {t e : TypeId} {x : Operand} {lo hi : Option Operand} {K : Kind α} {xs : List α} {Et : TypeId} {p : Option Addr} {m c q : Nat} {z : Value} {b : Nat} {i j : Int} (E : Env n a l) (H : St w0 M Y w A L) (hw : Wanted ops a ⟨some d, .slice t x lo hi none, ty, pos, af, gd⟩) (hu : P.underlying t = some (.slice e)) (hti : TI P e z K.n b) (hx : opv l x = some (.slice p m c))
    (hq : L[q]? = some [row Et K xs (.slice p m c)]) (hlo : (lo = none ∧ i = 0) ∨ ∃ y k, lo = some y ∧ opv l y = some (.int k i)) (hhi : (hi = none ∧ j = xs.length) ∨ ∃ y k, hi = some y ∧ opv l y = some (.int k j)) (hc : cutOk xs i j) (hi0 : i = 0 ∨ i < j) (hd : Nat.blt d n = true)
    (h : ∀ p' m' c' a', Env n a' ((d, .slice p' m' c') :: l) → St w0 M Y w A (L.set q [row Et K (cut xs i j) (.slice p' m' c')]) → κ a' w) : Step P ops Q ⟨some d, .slice t x lo hi none, ty, pos, af, gd⟩ κ a w := by
  obtain ⟨Z0, S0, hrow, _⟩ := H.item hq
  obtain ⟨p', cap, e0, hl, _⟩ := rowH.read hrow
  simp only [List.cons.injEq, Value.slice.injEq, and_true] at e0
  obtain ⟨rfl, rfl, rfl⟩ := e0
  have hr := rn_cut (P := P) (w := w) (o := ⟨some d, .slice t x lo hi none, ty, pos, af, gd⟩) E rfl hu hti hx hlo hhi hc.1 hc.2.1 hc.2.2 hl
  exact wl_val E hw hr hd fun a' E' => h _ _ _ a' E' (H.upd hq fun Z S1 _ _ _ _ ⟨hR, _⟩ => ⟨S1, ⟨rowH_cut hR hc (hi0.imp id fun h => by have := hc.2.2; omega), trivial⟩, fun b hb => .inl hb, Chg.refl _ _⟩)
end
end Go.Gx
