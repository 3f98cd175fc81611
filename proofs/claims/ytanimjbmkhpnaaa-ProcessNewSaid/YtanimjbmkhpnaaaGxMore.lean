/- Slices of a walk's own that grow or are cut; what is made; tests, loops, ends. -/
import Derived.Test.YtanimjbmkhpnaaaGxRows
import Derived.Deep.AppendSrc
import Derived.Deep.LoopGhost
import Derived.Laws.MakeOwn
namespace Go.Gx
open Go.RowKit
section
variable {P : Program} {ops : Array Oper} {rest : List Oper} {Q : Exit → Act → World → Prop} {κ : Act → World → Prop} {a : Act} {w w0 w' : World} {n : Nat} {l : List (Nat × Value)} {M Y : FP} {A A' Ac : List VP} {L L' : List (List SP)}
  {d : Nat} {op : Op} {ty : TypeId} {pos : String} {af : Array Edge} {gd : Option (Nat × Bool)} {v : Value}

/-- The lists' bound: what may be appended to; a longer one ends the plain function with none. -/
def fits (n b : Nat) : Bool := decide (n * b ≤ 140737488355328)

theorem src_cast {s1 s2 m : Nat} {tx : TypeId} {x : Value} {news : List Value} (e : s1 = s2) (h : Src P s1 tx x m news w) : Src P s2 tx x m news w := e ▸ h
theorem row_append {α : Type} {E : TypeId} {K : Kind α} {xs ys : List α} {v x z : Value} {t tx ty : TypeId} {Z S : FP} {m b : Nat} {news : List Value} (hR : rowH E K xs v w Z S) (ht : P.underlying t = some (.slice E)) (hti : TI P E z K.n b) (hzs : z.cells.size = K.n) (hb : 0 < b) (hfit : fits (xs.length + ys.length) b = true)
    (hsrc : Src P K.n tx x m news w) (hm : m = ys.length) (hE : ER K w ys Z news) (hZS : ∀ b, Z b → ¬ S b) (hZ : ∀ b, Z b → b < w.heap.size) :
    ∃ p c w', (Builtin.append_ #[t, tx] ty #[v, x]).run P w = .ok (.slice p (xs ++ ys).length c) w' ∧ Chg w w' S ∧ ∃ S', rowH E K (xs ++ ys) (.slice p (xs ++ ys).length c) w' Z S' ∧ ∀ b, S' b → S b ∨ (w.heap.size ≤ b ∧ b < w'.heap.size) := by
  subst hm
  have hfit' : (xs.length + ys.length) * b ≤ 140737488355328 := by simpa [fits] using hfit
  have hlen : xs.length + ys.length ≤ 140737488355328 := Nat.le_trans (Nat.le_mul_of_pos_right _ hb) hfit'
  obtain ⟨i, hi, hz, hn, hby⟩ := hti.out
  have hsrc' := src_cast hn.symm hsrc
  have hnl := ER_len hE
  -- the old elements
  have hold : ∃ g0 off cap olds, v = .slice g0 xs.length cap ∧ ER K w xs Z olds ∧ (Builtin.firstCells i.size xs.length v).run P w.drew = .ok olds.toArray w.drew ∧
      (xs.length + ys.length ≤ cap → ys = [] ∧ g0 = none ∨ ∃ g pre post, g0 = some ⟨g, off, none⟩ ∧ S g ∧ w.heap[g]? = some (.cells (pre ++ olds ++ post).toArray E (0, 0)) ∧ pre.length = off ∧ (cap - xs.length) * K.n ≤ post.length ∧ cap ≤ maxLen) := by
    rcases hR with ⟨rfl, rfl⟩ | ⟨g, off, cap, pre, el, post, e, hg, hh, ho, hl, hp, hmx, hE0⟩
    · refine ⟨none, 0, 0, [], rfl, rfl, by simp [Builtin.firstCells], fun h => .inl ⟨?_, rfl⟩⟩
      have : ys.length = 0 := by simpa using h
      exact List.eq_nil_of_length_eq_zero this
    · refine ⟨_, off, cap, el, e, hE0, ?_, fun _ => .inr ⟨g, pre, post, rfl, hg, hh, ho, hp, hmx⟩⟩
      rw [e]
      refine run_firstCells_some w.drew i.size xs.length ⟨g, off, none⟩ xs.length cap el (by rw [hn, ER_len hE0]) fun j u hu => ?_
      rw [addr_add, World.cell?_drew]
      have hlt : j < el.length := (List.getElem?_eq_some_iff.1 hu).1
      simp only [World.cell?, hh, Option.isSome_none, Bool.false_eq_true, if_false, List.getElem?_toArray]
      rw [List.getElem?_append_left (by simp; omega), List.getElem?_append_right (by omega), ← hu]
      congr 1
      omega
  obtain ⟨g0, off, cap, olds, rfl, hEo, hcells, hroom⟩ := hold
  have hol := ER_len hEo
  by_cases hc : xs.length + ys.length ≤ cap
  · rcases hroom hc with ⟨hy, hg⟩ | ⟨g, pre, post, rfl, hg, hh, ho, hp, hmx⟩
    · subst hy hg
      rcases hR with ⟨e, rfl⟩ | ⟨g, off, cap', pre, el, post, e, _⟩
      · simp only [Value.slice.injEq, true_and] at e
        obtain ⟨_, rfl⟩ := e
        have hr : (Builtin.append_ #[t, tx] ty #[.slice none 0 0, x]).run P w = .ok (.slice none 0 0) w := by
          have h1 := hsrc'.cells
          have h2 := hsrc'.len
          simp only [List.length_nil] at h1 h2
          rcases hsrc.kind with ⟨e', hk⟩ | hk <;> simp [Builtin.append_, run_underlying ht, run_underlying hk, sizeOf, typeInfo, hi, h1, h2]
        exact ⟨none, 0, w, hr, Chg.refl _ _, S, .inl ⟨rfl, rfl⟩, fun b hb => .inl hb⟩
      · simp at e
    · have hgrow : ys.length * K.n ≤ post.length := Nat.le_trans (Nat.mul_le_mul_right _ (by omega)) hp
      have hst := run_storeCells_at P g (off + xs.length * K.n) E news 0 (pre ++ olds ++ post).toArray w hh (by simp; omega) hsrc.one
      simp only [Nat.add_zero] at hst
      have hr : (Builtin.append_ #[t, tx] ty #[.slice (some ⟨g, off, none⟩) xs.length cap, x]).run P w = .ok (.slice (some ⟨g, off, none⟩) (xs.length + ys.length) cap)
          (w.setRow g ((pre ++ olds ++ post).toArray.toList.take (off + xs.length * K.n) ++ news ++ (pre ++ olds ++ post).toArray.toList.drop (off + xs.length * K.n + news.length)).toArray) := by
        rcases hsrc.kind with ⟨e', hk⟩ | hk <;> simp [Builtin.append_, run_underlying ht, run_underlying hk, sizeOf, typeInfo, hi, hsrc.len, hc, hsrc.cells, addr_add, hn] <;> simp at hst <;> rw [hst] <;> rfl
      have hX : ((pre ++ olds ++ post).toArray.toList.take (off + xs.length * K.n) ++ news ++ (pre ++ olds ++ post).toArray.toList.drop (off + xs.length * K.n + news.length)) = pre ++ (olds ++ news) ++ post.drop news.length := by
        have hpl : (pre ++ olds).length = off + xs.length * K.n := by simp; omega
        simp only [List.toList_toArray]
        rw [← hpl, List.take_append, List.take_of_length_le (Nat.le_refl _), Nat.sub_self, List.take_zero, List.append_nil, List.drop_append, List.drop_of_length_le (by omega), Nat.add_sub_cancel_left]
        simp [List.append_assoc]
      rw [hX] at hr
      refine ⟨some ⟨g, off, none⟩, cap, _, by rw [List.length_append]; exact hr, Chg.setRow _ hg, S, .inr ⟨g, off, cap, pre, olds ++ news, post.drop news.length, rfl, hg, setRow_heap w g _ _ E (0, 0) hh, ho, by rw [List.length_append]; exact hc, ?_, hmx, ?_⟩, fun b hb => .inl hb⟩
      · rw [List.length_append, List.length_drop, hnl]
        have : (cap - (xs.length + ys.length)) * K.n + ys.length * K.n ≤ post.length := by
          rw [← Nat.add_mul]
          exact Nat.le_trans (Nat.mul_le_mul_right _ (by omega)) hp
        omega
      · exact ER_loc (fun b hb => setRow_other w g b _ (fun e => hZS b hb (e ▸ hg))) (ER_append hEo hE)
  · have hfit2 := growslice_fits (old := cap) (by omega : cap < xs.length + ys.length) hfit'
    rw [← hby] at hfit2
    have hr := run_append_grow_src (P := P) w t tx ty E i z ht hi hz g0 xs.length cap olds hcells x ys.length news hsrc' (by omega) (by omega) hfit2
    have hge := grownCap_ge w (xs.length + ys.length) cap E
    have hle := grownCap_le_maxLen w (xs.length + ys.length) cap E (by simp only [maxLen]; omega)
    generalize grownCap w (xs.length + ys.length) cap E = nc at *
    refine ⟨_, nc, _, by rw [List.length_append]; exact hr, (Chg.drew w S).trans (Chg.alloc _ _ Nil) (fun _ h => h.elim), fun b => b = w.heap.size, .inr ⟨w.heap.size, 0, nc, [], olds ++ news, (Builtin.zeroCells z.cells (nc - (xs.length + ys.length))).toList, rfl, rfl, ?_, rfl, by rw [List.length_append]; exact hge, ?_, hle, ?_⟩, ?_⟩
    · have := heap_alloc_new w.drew (.cells ((olds ++ news).toArray ++ Builtin.zeroCells z.cells (nc - (xs.length + ys.length))) E)
      rw [World.size_drew] at this
      rw [this]
      congr 2
      apply Array.ext'
      simp
    · have e : ∀ k, ((Builtin.zeroCells z.cells k).toList).length = k * K.n := fun k => by rw [← hzs, ← size_zeroCells, Array.length_toList]
      rw [List.length_append, e]
      exact Nat.le_refl _
    · exact ER_loc (w := w) (fun b hb => Below.heap_alloc w.drew _ b (hZ b hb)) (ER_append (w := w) hEo hE)
    · intro b hb
      subst hb
      refine .inr ⟨Nat.le_refl _, ?_⟩
      show w.heap.size < (w.heap.push _).size
      simp

/-- How an appended slice may be read: in what is shared. -/
def SrcOf {α : Type} (K : Kind α) (ys : List α) (x : Value) (w : World) (Z : FP) : Prop := ∀ (P : Program) (tx e' : TypeId), P.underlying tx = some (.slice e') → ∃ news, Src P K.n tx x ys.length news w ∧ ER K w ys Z news
theorem srcOf_cells {α : Type} {K : Kind α} {ys : List α} {g off c : Nat} {news : List Value} {Z : FP} (hE : ER K w ys Z news) (hc : ∀ j u, news[j]? = some u → w.cell? ⟨g, off + j, none⟩ = some u) : SrcOf K ys (.slice (some ⟨g, off, none⟩) ys.length c) w Z :=
  fun _ _ _ hk => ⟨news, Src.ofSlice w hk ⟨g, off, none⟩ ys.length c news (ER_len hE) (fun j u hu => by rw [addr_add]; exact hc j u hu) (ER_one hE), hE⟩
theorem row_cells {g off : Nat} {pre el post : List Value} {T : TypeId} {fr : Nat × Nat} (hh : w.heap[g]? = some (.cells (pre ++ el ++ post).toArray T fr)) (ho : pre.length = off) : ∀ j u, el[j]? = some u → w.cell? ⟨g, off + j, none⟩ = some u := fun j u hu => by
  have hlt : j < el.length := (List.getElem?_eq_some_iff.1 hu).1
  simp only [World.cell?, hh, Option.isSome_none, Bool.false_eq_true, if_false, List.getElem?_toArray]
  rw [List.getElem?_append_left (by simp; omega), List.getElem?_append_right (by omega), ← hu]
  congr 1
  omega
theorem srcOf_read {α : Type} {K : Kind α} {ys : List α} {x : Value} {Z : FP} (h : sliceR K w Z ys [x]) : SrcOf K ys x w Z := by
  obtain ⟨p, c, e, _, _, _, hh⟩ := h
  obtain rfl := (List.cons.inj e).1
  rcases ys with _ | ⟨y, ys⟩
  · cases p with
    | none => exact fun _ _ _ hk => ⟨[], Src.ofNil w hk c, rfl⟩
    | some q => exact fun _ _ _ hk => ⟨[], Src.ofSlice w hk q 0 c [] (by simp) (fun j u hu => by simp at hu) (fun _ h => by cases h), rfl⟩
  · obtain ⟨g, off, pre, el, post, T, fr, rfl, _, hb, hpre, hE⟩ := hh (by simp)
    exact srcOf_cells hE (row_cells hb hpre)
theorem srcOf_row {α : Type} {E : TypeId} {K : Kind α} {ys : List α} {x : Value} {Z S : FP} (h : rowH E K ys x w Z S) : SrcOf K ys x w Z := by
  rcases h with ⟨rfl, rfl⟩ | ⟨g, off, cap, pre, el, post, rfl, hg, hh, ho, hl, _, hm, hE⟩
  · exact fun _ _ _ hk => ⟨[], Src.ofNil w hk 0, rfl⟩
  · exact srcOf_cells hE (row_cells hh ho)
/-- How the cells of a value are told, and what its slices lead to. -/
def Opens {α τ : Type} (K : Kind α) (f : α → τ → List Value) (B : α → τ → List VP) : Prop := ∀ {w : World} {Z : FP} {x : α} {cs : List Value}, K.R w Z x cs → ∃ t, cs = f x t ∧ argHolds w (B x t) Z
theorem opens_int (k : IntKind) : Opens (kInt k) (fun x (_ : Unit) => [.int k x]) (fun _ _ => []) := fun h => ⟨(), h, trivial⟩
theorem opens_bool : Opens kBool (fun x (_ : Unit) => [.bool x]) (fun _ _ => []) := fun h => ⟨(), h, trivial⟩
theorem opens_str : Opens kStr (fun x (_ : Unit) => [.string x]) (fun _ _ => []) := fun h => ⟨(), h, trivial⟩
theorem opens_slice {α : Type} (E : TypeId) (K : Kind α) : Opens (kSlice E K) (fun x (t : Option Addr × Nat) => [.slice t.1 x.length t.2]) (fun x t => [vw (kSlice E K) x [.slice t.1 x.length t.2]]) := fun {_ _ x cs} h => by
  obtain ⟨p, c, rfl, hh⟩ := h
  exact ⟨(p, c), rfl, ⟨p, c, rfl, hh⟩, trivial⟩
theorem St.openA {α τ : Type} {f : α → τ → List Value} {B : α → τ → List VP} {E : TypeId} {K : Kind α} {xs : List α} {p : Option Addr} {m c k : Nat} {i : Int} {u : α} (op : Opens K f B) (H : St w0 M Y w A L) (hk : A[k]? = some (vw (kSlice E K) xs [.slice p m c])) (hi : at_ xs i = some u) :
    ∃ t, St w0 M Y w (A ++ B u t) L ∧ ∀ off q, Idx p i K.n off q → ∃ g o, q = ⟨g, o, none⟩ ∧ ∀ j v, (f u t)[off + j]? = some v → w.cell? ⟨g, o + j, none⟩ = some v := by
  obtain ⟨hc, Z, S, h1, h2⟩ := H
  have hR : sliceR K w Z xs [.slice p m c] := argHolds_get h1 hk
  obtain ⟨cs, hcs, hcell⟩ := elem_cells hR hi
  obtain ⟨t, rfl, hB⟩ := op hcs
  exact ⟨t, ⟨hc, Z, S, argHolds_append h1 hB, h2⟩, hcell⟩
theorem St.openL {α τ : Type} {f : α → τ → List Value} {B : α → τ → List VP} {E : TypeId} {K : Kind α} {xs : List α} {p : Option Addr} {m c k : Nat} {i : Int} {u : α} {I : List SP} (op : Opens K f B) (H : St w0 M Y w A L) (hk : L[k]? = some (row E K xs (.slice p m c) :: I)) (hi : at_ xs i = some u) :
    ∃ t, St w0 M Y w (A ++ B u t) L ∧ ∀ off q, Idx p i K.n off q → ∃ g o, q = ⟨g, o, none⟩ ∧ ∀ j v, (f u t)[off + j]? = some v → w.cell? ⟨g, o + j, none⟩ = some v := by
  obtain ⟨hc, Z, S, h1, h2, h3⟩ := H
  obtain ⟨S1, _, _, _, _, ⟨hR, _⟩, _⟩ := Holds_get h2 hk
  obtain ⟨cs, hcs, hcell⟩ := rowH.elem hR hi
  obtain ⟨t, rfl, hB⟩ := op hcs
  exact ⟨t, ⟨hc, Z, S, argHolds_append h1 hB, h2, h3⟩, hcell⟩
/-- append. -/
theorem wl_append {α : Type} {Et e' t tx : TypeId} {K : Kind α} {s x : Operand} {xs ys : List α} {vs vx z : Value} {b i : Nat} {I : List SP} (E : Env n a l) (H : St w0 M Y w A L) (hw : Wanted ops a ⟨some d, .call ⟨.builtin .append, #[s, x], #[t, tx]⟩, ty, pos, af, gd⟩)
    (hs : opv l s = some vs) (hx : opv l x = some vx) (hi : L[i]? = some (row Et K xs vs :: I)) (ht : P.underlying t = some (.slice Et)) (htx : P.underlying tx = some (.slice e')) (hti : TI P Et z K.n b) (hzs : z.cells.size = K.n) (hb : 0 < b) (hfit : fits (xs.length + ys.length) b = true) (hd : Nat.blt d n = true)
    (hsrc : ∀ Z S, argHolds w A Z → Holds w Z L S → SrcOf K ys vx w Z)
    (h : ∀ p c w' a', Env n a' ((d, .slice p (xs ++ ys).length c) :: l) → St w0 M Y w' A (L.set i [row Et K (xs ++ ys) (.slice p (xs ++ ys).length c)]) → κ a' w') :
    Step P ops Q ⟨some d, .call ⟨.builtin .append, #[s, x], #[t, tx]⟩, ty, pos, af, gd⟩ κ a w := by
  obtain ⟨⟨p, c, w'⟩, hr, H'⟩ := H.updE (ρ := Option Addr × Nat × World) (Wr := fun r => r.2.2) (Ir := fun r => [row Et K (xs ++ ys) (.slice r.1 (xs ++ ys).length r.2.1)])
    (Φ := fun r => (Builtin.append_ #[t, tx] ty #[vs, vx]).run P w = .ok (.slice r.1 (xs ++ ys).length r.2.1) r.2.2) hi fun Z S1 hz hs1 hzs1 hA ⟨S, hL⟩ ⟨hR, _⟩ => by
      obtain ⟨news, hsr, hE⟩ := hsrc Z S hA hL P tx e' htx
      obtain ⟨p, c, w', hr, hc, S', hR', hS'⟩ := row_append (ty := ty) hR ht hti hzs hb hfit hsr rfl hE hzs1 hz
      exact ⟨(p, c, w'), hr, S', ⟨hR', trivial⟩, hS', hc⟩
  refine wl_val (v := .slice p (xs ++ ys).length c) (w' := w') E hw ?_ hd fun a' E' => h p c w' a' E' H'
  simp [execOp, resolve, E.eval hs, E.eval hx, invoke, builtin, hr]
end
end Go.Gx
