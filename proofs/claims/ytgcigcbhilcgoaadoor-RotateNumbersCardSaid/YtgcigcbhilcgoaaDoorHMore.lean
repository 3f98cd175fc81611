/- Slices of a walk's own that grow. -/
import Derived.Test.YtgcigcbhilcgoaaDoorHRows
import Derived.Deep.AppendSrc
import Derived.Deep.LoopGhost
import Derived.Laws.MakeOwn
namespace Go.Gx
open Go.RowKit
/-- Kinds of value that lead nowhere. -/
def FlatK {α : Type} (K : Kind α) : Prop := ∀ {w : World} {S : FP} {x : α} {cs : List Value}, K.R w S x cs → K.O w Nil Nil x cs
theorem flatK_int (k : IntKind) : FlatK (kInt k) := fun h => h
theorem flatK_bool : FlatK kBool := fun h => h
theorem flatK_str : FlatK kStr := fun h => h
theorem flatK_pair {α β : Type} {K : Kind α} {J : Kind β} (h : FlatK K) (k : FlatK J) : FlatK (kPair K J) := fun ⟨c1, c2, e, h1, h2⟩ => ⟨c1, c2, Nil, Nil, e, fun _ h => h, fun _ h => h, fun _ h => h.elim, h h1, k h2⟩
theorem flatK_iso {α β : Type} {K : Kind α} {f : β → α} (h : FlatK K) : FlatK (kIso K f) := fun {_ _ _ _} k => h k
theorem flat_EO {α : Type} {K : Kind α} (h : FlatK K) {w : World} {Z S T : FP} : ∀ {xs : List α} {cs : List Value}, ER K w xs S cs → EO K w Z xs T cs
  | [], _, k => k
  | _ :: _, _, ⟨c1, c2, e, k1, k2⟩ => ⟨c1, c2, Nil, Nil, e, fun _ h => h.elim, fun _ h => h.elim, fun _ h => h.elim, K.monoO (fun _ h => h.elim) (fun _ h => h) (h k1), flat_EO h k2⟩
/-- Kinds of value that don't hang on what is shared. -/
def IndK {α : Type} (K : Kind α) : Prop := ∀ {w : World} {Z S : FP} {x : α} {cs : List Value}, K.O w Z S x cs → K.O w Nil S x cs
theorem indK_int (k : IntKind) : IndK (kInt k) := fun h => h
theorem indK_bool : IndK kBool := fun h => h
theorem indK_str : IndK kStr := fun h => h
theorem indK_pair {α β : Type} {K : Kind α} {J : Kind β} (h : IndK K) (k : IndK J) : IndK (kPair K J) := fun ⟨c1, c2, S1, S2, e, a, b, d, h1, h2⟩ => ⟨c1, c2, S1, S2, e, a, b, d, h h1, k h2⟩
theorem indK_iso {α β : Type} {K : Kind α} {f : β → α} (h : IndK K) : IndK (kIso K f) := fun {_ _ _ _ _} k => h k
theorem ind_EO {α : Type} {K : Kind α} (h : IndK K) {w : World} {Z : FP} : ∀ {xs : List α} {S : FP} {cs : List Value}, EO K w Z xs S cs → EO K w Nil xs S cs
  | [], _, _, k => k
  | _ :: _, _, _, ⟨c1, c2, S1, S2, e, a, b, d, k1, k2⟩ => ⟨c1, c2, S1, S2, e, a, b, d, h k1, ind_EO h k2⟩
theorem indK_slice {α : Type} (E : TypeId) {K : Kind α} (h : IndK K) : IndK (kSlice E K) := fun k => k.imp id fun ⟨g, off, cap, pre, el, post, a1, a2, a3, a4, a5, a6, a7, S', a8, a9, a10⟩ => ⟨g, off, cap, pre, el, post, a1, a2, a3, a4, a5, a6, a7, S', a8, a9, ind_EO h a10⟩
theorem flat_nil : Flat [] := fun _ _ _ _ => trivial
theorem flat_cons {α : Type} {K : Kind α} {x : α} {cs : List Value} {N : List (List SP)} (h : IndK K) (k : Flat N) : Flat ([ow K x cs] :: N) := by
  rintro w Z S ⟨S1, S2, h1, h2, hd, ⟨hR, _⟩, hN⟩
  exact ⟨S1, S2, h1, h2, hd, ⟨h hR, trivial⟩, k _ _ _ hN⟩
theorem flat_blk {g : Nat} {cs : List Value} {T : TypeId} {N : List (List SP)} (k : Flat N) : Flat ([blk g cs T] :: N) := by
  rintro w Z S ⟨S1, S2, h1, h2, hd, ⟨hR, _⟩, hN⟩
  exact ⟨S1, S2, h1, h2, hd, ⟨hR, trivial⟩, k _ _ _ hN⟩

section
variable {P : Program} {ops : Array Oper} {rest : List Oper} {Q : Exit → Act → World → Prop} {κ : Act → World → Prop} {a : Act} {w w0 w' : World} {n : Nat} {l : List (Nat × Value)} {M Y : FP} {A A' Ac : List VP} {L L' : List (List SP)}
  {d : Nat} {op : Op} {ty : TypeId} {pos : String} {af : Array Edge} {gd : Option (Nat × Bool)} {v : Value}

/-- The lists' bound: what may be appended to; a longer one ends the plain function with none. -/
def fits (n b : Nat) : Bool := decide (n * b ≤ 140737488355328)

theorem src_cast {s1 s2 m : Nat} {tx : TypeId} {x : Value} {news : List Value} (e : s1 = s2) (h : Src P s1 tx x m news w) : Src P s2 tx x m news w := e ▸ h
theorem row_append {α : Type} {E : TypeId} {K : Kind α} {xs ys : List α} {v x z : Value} {t tx ty : TypeId} {Z S Sy : FP} {m b : Nat} {news : List Value} (hR : rowH E K xs v w Z S) (ht : P.underlying t = some (.slice E)) (hti : TI P E z K.n b) (hzs : z.cells.size = K.n) (hb : 0 < b) (hfit : fits (xs.length + ys.length) b = true)
    (hsrc : Src P K.n tx x m news w) (hm : m = ys.length) (hE : EO K w Z ys Sy news) (hZS : ∀ b, Z b → ¬ S b) (hZ : ∀ b, Z b → b < w.heap.size) (hS : ∀ b, S b → b < w.heap.size) (hSy : ∀ b, Sy b → b < w.heap.size) (hSS : ∀ b, S b → ¬ Sy b) :
    ∃ p c w', (Builtin.append_ #[t, tx] ty #[v, x]).run P w = .ok (.slice p (xs ++ ys).length c) w' ∧ Chg w w' S ∧ ∃ S', rowH E K (xs ++ ys) (.slice p (xs ++ ys).length c) w' Z S' ∧ ∀ b, S' b → S b ∨ Sy b ∨ (w.heap.size ≤ b ∧ b < w'.heap.size) := by
  subst hm
  have hfit' : (xs.length + ys.length) * b ≤ 140737488355328 := by simpa [fits] using hfit
  have hlen : xs.length + ys.length ≤ 140737488355328 := Nat.le_trans (Nat.le_mul_of_pos_right _ hb) hfit'
  obtain ⟨i, hi, hz, hn, hby⟩ := hti.out
  have hsrc' := src_cast hn.symm hsrc
  have hnl := EO_len hE
  -- the old elements
  have hold : ∃ g0 off cap olds So, v = .slice g0 xs.length cap ∧ EO K w Z xs So olds ∧ (∀ b, So b → S b) ∧ (Builtin.firstCells i.size xs.length v).run P w.drew = .ok olds.toArray w.drew ∧
      (xs.length + ys.length ≤ cap → ys = [] ∧ xs = [] ∧ cap = 0 ∨ ∃ g pre post, g0 = some ⟨g, off, none⟩ ∧ S g ∧ ¬ So g ∧ w.heap[g]? = some (.cells (pre ++ olds ++ post).toArray E (0, 0)) ∧ pre.length = off ∧ (cap - xs.length) * K.n ≤ post.length ∧ cap ≤ maxLen) := by
    rcases hR with ⟨⟨q, e⟩, rfl⟩ | ⟨g, off, cap, pre, el, post, e, hg, hh, ho, hl, hp, hmx, S', h1, h2, hE0⟩
    · obtain rfl := (List.cons.inj e).1
      refine ⟨q, 0, 0, [], Nil, rfl, rfl, fun _ h => h.elim, by cases q <;> simp [Builtin.firstCells, loadCells, loadCellsFrom], fun h => .inl ⟨?_, rfl, rfl⟩⟩
      have : ys.length = 0 := by simpa using h
      exact List.eq_nil_of_length_eq_zero this
    · obtain rfl := (List.cons.inj e).1
      refine ⟨_, off, cap, el, S', rfl, hE0, h1, ?_, fun _ => .inr ⟨g, pre, post, rfl, hg, h2, hh, ho, hp, hmx⟩⟩
      refine run_firstCells_some w.drew i.size xs.length ⟨g, off, none⟩ xs.length cap el (by rw [hn, EO_len hE0]) fun j u hu => ?_
      rw [addr_add, World.cell?_drew]
      have hlt : j < el.length := (List.getElem?_eq_some_iff.1 hu).1
      simp only [World.cell?, hh, Option.isSome_none, Bool.false_eq_true, if_false, List.getElem?_toArray]
      rw [List.getElem?_append_left (by simp; omega), List.getElem?_append_right (by omega), ← hu]
      congr 1
      omega
  obtain ⟨g0, off, cap, olds, So, rfl, hEo, hSo, hcells, hroom⟩ := hold
  have hol := EO_len hEo
  by_cases hc : xs.length + ys.length ≤ cap
  · rcases hroom hc with ⟨hy, hx0, hc0⟩ | ⟨g, pre, post, rfl, hg, hng, hh, ho, hp, hmx⟩
    · subst hy hx0 hc0
      have hr : (Builtin.append_ #[t, tx] ty #[.slice g0 0 0, x]).run P w = .ok (.slice g0 0 0) w := by
        have h1 := hsrc'.cells
        have h2 := hsrc'.len
        have h3 : news = [] := List.eq_nil_of_length_eq_zero (by rw [hnl]; simp)
        subst h3
        simp only [List.length_nil] at h1 h2
        rcases hsrc.kind with ⟨e', hk⟩ | hk <;> cases g0 <;> simp [Builtin.append_, run_underlying ht, run_underlying hk, sizeOf, typeInfo, hi, h1, h2, storeCells]
      exact ⟨g0, 0, w, hr, Chg.refl _ _, S, .inl ⟨⟨g0, rfl⟩, rfl⟩, fun b hb => .inl hb⟩
    · have hgrow : ys.length * K.n ≤ post.length := Nat.le_trans (Nat.mul_le_mul_right _ (by omega)) hp
      have hst := run_storeCells_at P g (off + xs.length * K.n) E news 0 (pre ++ olds ++ post).toArray w hh (by simp; omega) hsrc.one
      simp only [Nat.add_zero] at hst
      have hr : (Builtin.append_ #[t, tx] ty #[.slice (some ⟨g, off, none⟩) xs.length cap, x]).run P w = .ok (.slice (some ⟨g, off, none⟩) (xs.length + ys.length) cap)
          (w.setRow g ((pre ++ olds ++ post).toArray.toList.take (off + xs.length * K.n) ++ news ++ (pre ++ olds ++ post).toArray.toList.drop (off + xs.length * K.n + news.length)).toArray) := by
        rcases hsrc.kind with ⟨e', hk⟩ | hk <;> simp [Builtin.append_, run_underlying ht, run_underlying hk, sizeOf, typeInfo, hi, hsrc.len, hc, hsrc.cells, addr_add, hn] <;> simp at hst <;> rw [hst] <;> rfl
      have hX : ((pre ++ olds ++ post).toArray.toList.take (off + xs.length * K.n) ++ news ++ (pre ++ olds ++ post).toArray.toList.drop (off + xs.length * K.n + news.length)) = pre ++ (olds ++ news) ++ post.drop news.length := by
        have hpl : (pre ++ olds).length = off + xs.length * K.n := by simp; omega
        rw [← hpl, List.take_append, List.take_of_length_le (Nat.le_refl _), Nat.sub_self, List.take_zero, List.append_nil, List.drop_append, List.drop_of_length_le (by omega), Nat.add_sub_cancel_left]
        simp [List.append_assoc]
      rw [hX] at hr
      refine ⟨some ⟨g, off, none⟩, cap, _, by rw [List.length_append]; exact hr, Chg.setRow _ hg, fun b => b = g ∨ So b ∨ Sy b, .inr ⟨g, off, cap, pre, olds ++ news, post.drop news.length, rfl, .inl rfl, setRow_heap w g _ _ E (0, 0) hh, ho, by rw [List.length_append]; exact hc, ?_, hmx, fun b => So b ∨ Sy b, fun b h => .inr h, fun h => h.elim hng (hSS g hg), ?_⟩, fun b hb => ?_⟩
      · rw [List.length_append, List.length_drop, hnl]
        have : (cap - (xs.length + ys.length)) * K.n + ys.length * K.n ≤ post.length := by
          rw [← Nat.add_mul]
          exact Nat.le_trans (Nat.mul_le_mul_right _ (by omega)) hp
        omega
      · have ag : ∀ T : FP, ¬ T g → Agree w (w.setRow g (pre ++ (olds ++ news) ++ post.drop news.length).toArray) T := fun T hT b hb => setRow_other w g b _ (fun e => hT (e ▸ hb))
        exact EO_append (EO_loc (ag Z (fun h => hZS g h hg)) (ag So hng) hEo) (EO_loc (ag Z (fun h => hZS g h hg)) (ag Sy (hSS g hg)) hE) (fun b h => hSS b (hSo b h)) (fun b h => .inl h) (fun b h => .inr h)
      · rcases hb with rfl | hb | hb
        · exact .inl hg
        · exact .inl (hSo b hb)
        · exact .inr (.inl hb)
  · have hfit2 := growslice_fits (old := cap) (by omega : cap < xs.length + ys.length) hfit'
    rw [← hby] at hfit2
    have hr := run_append_grow_src (P := P) w t tx ty E i z ht hi hz g0 xs.length cap olds hcells x ys.length news hsrc' (by omega) (by omega) hfit2
    have hge := grownCap_ge w (xs.length + ys.length) cap E
    have hle := grownCap_le_maxLen w (xs.length + ys.length) cap E (by simp only [maxLen]; omega)
    generalize grownCap w (xs.length + ys.length) cap E = nc at *
    have ag : ∀ {T : FP}, (∀ b, T b → b < w.heap.size) → Agree w (w.drew.alloc (.cells ((olds ++ news).toArray ++ Builtin.zeroCells z.cells (nc - (xs.length + ys.length))) E)) T := fun hT b hb => Below.heap_alloc w.drew _ b (hT b hb)
    have hnot : ∀ {T : FP}, (∀ b, T b → b < w.heap.size) → ¬ T w.heap.size := fun hT h => Nat.lt_irrefl _ (hT _ h)
    refine ⟨_, nc, _, by rw [List.length_append]; exact hr, (Chg.drew w S).trans (Chg.alloc _ _ Nil) (fun _ h => h.elim), fun b => b = w.heap.size ∨ So b ∨ Sy b, .inr ⟨w.heap.size, 0, nc, [], olds ++ news, (Builtin.zeroCells z.cells (nc - (xs.length + ys.length))).toList, rfl, .inl rfl, ?_, rfl, by rw [List.length_append]; exact hge, ?_, hle, fun b => So b ∨ Sy b, fun b h => .inr h, fun h => h.elim (hnot fun b h => hS b (hSo b h)) (hnot hSy), ?_⟩, ?_⟩
    · have := heap_alloc_new w.drew (.cells ((olds ++ news).toArray ++ Builtin.zeroCells z.cells (nc - (xs.length + ys.length))) E)
      rw [World.size_drew] at this
      rw [this]
      congr 2
      apply Array.ext'
      simp
    · have e : ∀ k, ((Builtin.zeroCells z.cells k).toList).length = k * K.n := fun k => by rw [← hzs, ← size_zeroCells, Array.length_toList]
      rw [List.length_append, e]
      exact Nat.le_refl _
    · exact EO_append (EO_loc (ag hZ) (ag fun b h => hS b (hSo b h)) hEo) (EO_loc (ag hZ) (ag hSy) hE) (fun b h => hSS b (hSo b h)) (fun b h => .inl h) (fun b h => .inr h)
    · intro b hb
      rcases hb with rfl | hb | hb
      · refine .inr (.inr ⟨Nat.le_refl _, ?_⟩)
        show w.heap.size < (w.heap.push _).size
        simp
      · exact .inl (hSo b hb)
      · exact .inr (.inl hb)

/-- How an appended slice is read, and what its elements own. -/
def SrcOf {α : Type} (K : Kind α) (ys : List α) (x : Value) (w : World) (Z S : FP) : Prop := ∀ (P : Program) (tx e' : TypeId), P.underlying tx = some (.slice e') → ∃ news, Src P K.n tx x ys.length news w ∧ EO K w Z ys S news
theorem srcOf_cells {α : Type} {K : Kind α} {ys : List α} {g off c : Nat} {news : List Value} {Z S : FP} (hE : EO K w Z ys S news) (hc : ∀ j u, news[j]? = some u → w.cell? ⟨g, off + j, none⟩ = some u) : SrcOf K ys (.slice (some ⟨g, off, none⟩) ys.length c) w Z S :=
  fun _ _ _ hk => ⟨news, Src.ofSlice w hk ⟨g, off, none⟩ ys.length c news (EO_len hE) (fun j u hu => by rw [addr_add]; exact hc j u hu) (ER_one (EO_ER hE)), hE⟩
theorem row_cells {g off : Nat} {pre el post : List Value} {T : TypeId} {fr : Nat × Nat} (hh : w.heap[g]? = some (.cells (pre ++ el ++ post).toArray T fr)) (ho : pre.length = off) : ∀ j u, el[j]? = some u → w.cell? ⟨g, off + j, none⟩ = some u := fun j u hu => by
  have hlt : j < el.length := (List.getElem?_eq_some_iff.1 hu).1
  simp only [World.cell?, hh, Option.isSome_none, Bool.false_eq_true, if_false, List.getElem?_toArray]
  rw [List.getElem?_append_left (by simp; omega), List.getElem?_append_right (by omega), ← hu]
  congr 1
  omega
/-- What is read, where the elements lead nowhere (f), or to what is shared. -/
theorem srcOf_read {α : Type} {K J : Kind α} {ys : List α} {x : Value} {Z T S : FP} (h : sliceR K w T ys [x]) (f : ∀ cs, ER K w ys T cs → EO J w Z ys S cs) : SrcOf J ys x w Z S := by
  obtain ⟨p, c, e, _, _, _, hh⟩ := h
  obtain rfl := (List.cons.inj e).1
  rcases ys with _ | ⟨y, ys⟩
  · cases p with
    | none => exact fun _ _ _ hk => ⟨[], Src.ofNil w hk c, rfl⟩
    | some q => exact fun _ _ _ hk => ⟨[], Src.ofSlice w hk q 0 c [] (by simp) (fun j u hu => by simp at hu) (fun _ h => by cases h), rfl⟩
  · obtain ⟨g, off, pre, el, post, T', fr, rfl, _, hb, hpre, hE⟩ := hh (by simp)
    exact srcOf_cells (f _ hE) (row_cells hb hpre)
/-- append. -/
theorem wl_append {α : Type} {Et e' t tx : TypeId} {K : Kind α} {s x : Operand} {xs ys : List α} {vs vx z : Value} {b : Nat} {Ny Lr : List (List SP)} (E : Env n a l) (H : St w0 M Y w A L) (hw : Wanted ops a ⟨some d, .call ⟨.builtin .append, #[s, x], #[t, tx]⟩, ty, pos, af, gd⟩)
    (hs : opv l s = some vs) (hx : opv l x = some vx) (hp : Pick L ([row Et K xs vs] :: Ny) Lr) (ht : P.underlying t = some (.slice Et)) (htx : P.underlying tx = some (.slice e')) (hti : TI P Et z K.n b) (hzs : z.cells.size = K.n) (hb : 0 < b) (hfit : fits (xs.length + ys.length) b = true) (hd : Nat.blt d n = true)
    (hsrc : ∀ Z S Sy, argHolds w A Z → Holds w Z L S → Holds w Z Ny Sy → SrcOf K ys vx w Z Sy)
    (h : ∀ p m c w' a', Env n a' ((d, .slice p m c) :: l) → St w0 M Y w' A ([row Et K (xs ++ ys) (.slice p m c)] :: Lr) → κ a' w') :
    Step P ops Q ⟨some d, .call ⟨.builtin .append, #[s, x], #[t, tx]⟩, ty, pos, af, gd⟩ κ a w := by
  obtain ⟨hc, Z, S, h1, h2, h3, h4, h5, h6⟩ := H
  obtain ⟨Sc, Sr, e1, e2, ed, ⟨S1, S2, g1, g2, gd1, ⟨hR, _⟩, k2⟩, kr⟩ := Holds_pick hp h2
  obtain ⟨news, hsr, hE⟩ := hsrc Z S S2 h1 h2 k2 P tx e' htx
  obtain ⟨p, c, w', hr, hch, S', hR', hS'⟩ := row_append (ty := ty) hR ht hti hzs hb hfit hsr rfl hE (fun b hz hb => h3 b hz (e1 b (g1 b hb))) h4 (fun b hb => (h5 b (e1 b (g1 b hb))).1) (fun b hb => (h5 b (e1 b (g2 b hb))).1) gd1
  refine wl_val (v := .slice p (xs ++ ys).length c) (w' := w') E hw ?_ hd fun a' E' => h p _ c w' a' E' (St.callG (A' := []) (N := [[row Et K (xs ++ ys) (.slice p (xs ++ ys).length c)]]) hc h1 h3 h4 h5 h6 e1 e2 ed kr ⟨hch.mono g1, Nil, S', trivial, ⟨S', Nil, fun _ h => h, fun _ h => h.elim, fun _ _ h => h.elim, ⟨(kSlice Et K).monoO (fun b h => .inl h) (fun _ h => h) hR', trivial⟩, trivial⟩, fun _ h => h.elim, fun _ h => h.elim, fun b hb => ?_⟩)
  · simp [execOp, resolve, E.eval hs, E.eval hx, invoke, builtin, hr]
  · rcases hS' b hb with h | h | h
    · exact ⟨Nat.lt_of_lt_of_le (h5 b (e1 b (g1 b h))).1 hch.size, .inr (g1 b h)⟩
    · exact ⟨Nat.lt_of_lt_of_le (h5 b (e1 b (g2 b h))).1 hch.size, .inr (g2 b h)⟩
    · exact ⟨h.2, .inl h.1⟩
end
end Go.Gx
