/- Rows of flat elements laid open as blocks of cells: copies, appended zeros, overlaps: what slices.Insert asks. -/
import Derived.Test.YtgcigcbhilcgoaaDoorHTri3
import Derived.Lib.AppendZerosOnto
import Derived.Lib.Overlaps
set_option linter.unusedVariables false
namespace Go.Gx
open Go.RowKit
/-- The cells of elements that lead nowhere. -/
def FO {α : Type} (K : Kind α) (xs : List α) (cs : List Value) : Prop := ∀ (w : World) (Z S : FP), EO K w Z xs S cs
theorem flat_FO {α : Type} {K : Kind α} (h : FlatK K) {w : World} {S : FP} {xs : List α} {cs : List Value} (k : ER K w xs S cs) : FO K xs cs := fun w' Z T =>
  EO_mono (fun _ h => h.elim) (fun _ h => h.elim) (EO_loc (w := w) (w' := w') (Z := Nil) (S := Nil) (fun _ h => h.elim) (fun _ h => h.elim) (flat_EO h k))
theorem FO.len {α : Type} {K : Kind α} {xs : List α} {cs : List Value} (w : World) (h : FO K xs cs) : cs.length = xs.length * K.n := EO_len (h w Nil Nil)
theorem FO.one {α : Type} {K : Kind α} {xs : List α} {cs : List Value} (w : World) (h : FO K xs cs) : ∀ v ∈ cs, v.oneCell' = true := ER_one (EO_ER (h w Nil Nil))
theorem FO.append {α : Type} {K : Kind α} {xs ys : List α} {c d : List Value} (h : FO K xs c) (k : FO K ys d) : FO K (xs ++ ys) (c ++ d) := fun w Z S =>
  EO_append (h w Z Nil) (k w Z Nil) (fun _ h => h.elim) (fun _ h => h.elim) (fun _ h => h.elim)
theorem FO.left {α : Type} {K : Kind α} {xs ys : List α} {cs : List Value} (h : FO K (xs ++ ys) cs) : FO K xs (cs.take (xs.length * K.n)) := fun w Z S => by
  obtain ⟨c, d, S1, S2, rfl, h1, _, _, k1, _⟩ := EO_split (h w Z S)
  rw [← EO_len k1, List.take_left']
  · exact EO_mono (fun _ h => h) h1 k1
  · rfl
theorem FO.right {α : Type} {K : Kind α} {xs ys : List α} {cs : List Value} (h : FO K (xs ++ ys) cs) : FO K ys (cs.drop (xs.length * K.n)) := fun w Z S => by
  obtain ⟨c, d, S1, S2, rfl, _, h2, _, k1, k2⟩ := EO_split (h w Z S)
  rw [← EO_len k1, List.drop_left']
  · exact EO_mono (fun _ h => h) h2 k2
  · rfl

theorem FO.parts {α : Type} {K : Kind α} {xs ys : List α} {cs : List Value} (h : FO K (xs ++ ys) cs) : ∃ c1 c2, cs = c1 ++ c2 ∧ FO K xs c1 ∧ FO K ys c2 :=
  ⟨_, _, (List.take_append_drop (xs.length * K.n) cs).symm, h.left, h.right⟩
theorem over_at {a b c N P : List Value} {o : Nat} (hP : P = a ++ b ++ c) (ho : o = a.length) (h : N.length = b.length) : P.take o ++ N ++ P.drop (o + N.length) = a ++ N ++ c := by
  subst hP ho
  rw [h, List.append_assoc a b c, List.take_left' rfl, ← List.append_assoc a b c, ← List.length_append, List.drop_left' rfl]
theorem over_shift {pre c1 c2 post : List Value} {v o : Nat} (ho : o = pre.length + c1.length + v) (hv : v ≤ post.length) : (pre ++ (c1 ++ c2) ++ post).take o ++ c2 ++ (pre ++ (c1 ++ c2) ++ post).drop (o + c2.length) = pre ++ c1 ++ (c2 ++ post).take v ++ c2 ++ post.drop v := by
  have e : pre ++ (c1 ++ c2) ++ post = (pre ++ c1 ++ (c2 ++ post).take v) ++ ((c2 ++ post).drop v).take c2.length ++ post.drop v := by
    have e1 : ((c2 ++ post).drop v).take c2.length ++ post.drop v = (c2 ++ post).drop v := by
      have e2 : ((c2 ++ post).drop v).drop c2.length = post.drop v := by
        rw [List.drop_drop, Nat.add_comm, ← List.drop_drop, List.drop_left' rfl]
      rw [← e2, List.take_append_drop]
    rw [List.append_assoc (pre ++ c1 ++ (c2 ++ post).take v), e1, List.append_assoc (pre ++ c1), List.take_append_drop]
    simp [List.append_assoc]
  refine over_at e ?_ ?_
  · rw [ho]; simp [List.length_take]; omega
  · simp [List.length_take]; omega
section
variable {P : Program} {ops : Array Oper} {rest : List Oper} {Q Q' : Exit → Act → World → Prop} {K κ κ' : Act → World → Prop} {n : Nat} {c : Cx} {A A' B Ac : List VP} {L L' Lc Lr N : List (List SP)} {l l' : List (Nat × Value)}
  {d : Nat} {op : Op} {ty tx : TypeId} {pos : String} {af : Array Edge} {v u : Value} {x y : Operand} {dd : Option Nat} {gg : Option (Nat × Bool)}
/-- A row of flat elements is laid open. -/
theorem t_opn {α : Type} {E : TypeId} {Kd : Kind α} {xs : List α} {p : Option Addr} {m k : Nat} (hL : Ext L [row E Kd xs (.slice p m k)] Lr) (hf : FlatK Kd) (hne : xs ≠ [])
    (h : ∀ g pre el post, p = some ⟨g, pre.length, none⟩ → m = xs.length → FO Kd xs el → m ≤ k → (k - m) * Kd.n ≤ post.length → k ≤ maxLen → T n c A ([blk g (pre ++ el ++ post) E] :: Lr) l κ) : T n c A L l κ := fun a w Ev H => by
  have H1 := H.front1 hL
  obtain ⟨Z0, S0, hR0, _⟩ := H1.item (i := 0) rfl
  rcases hR0 with ⟨_, e⟩ | ⟨g, off, cap, pre, el, post, e, hg, hh, ho, hl, hp, hm, S', h1, h2, hE⟩
  · exact absurd e hne
  · simp only [List.cons.injEq, Value.slice.injEq, and_true] at e
    obtain ⟨rfl, rfl, rfl⟩ := e
    subst ho
    refine h g pre el post rfl rfl (flat_FO hf (EO_ER hE)) hl hp hm a w Ev (H1.upd (i := 0) (I' := [blk g (pre ++ el ++ post) E]) rfl fun Z S1 _ _ _ _ ⟨hR, _⟩ => ⟨S1, ⟨⟨?_, hh⟩, trivial⟩, fun b hb => .inl hb, Chg.refl _ _⟩)
    rcases hR with ⟨⟨q, e⟩, e'⟩ | ⟨g', off', cap', pre', el', post', e', hg', _⟩
    · exact absurd e' hne
    · simp only [List.cons.injEq, Value.slice.injEq, and_true, Option.some.injEq, Addr.mk.injEq] at e'
      rw [e'.1.1]; exact hg'
/-- A block of cells becomes a row again. -/
theorem t_shu {α : Type} {E : TypeId} {Kd : Kind α} {xs : List α} {g k m off : Nat} {pre el post cs : List Value} (hL : Ext L [blk g cs E] Lr) (hcs : cs = pre ++ el ++ post) (hF : FO Kd xs el) (ho : pre.length = off) (hm : m = xs.length) (hl : m ≤ k) (hp : (k - m) * Kd.n ≤ post.length) (hk : k ≤ maxLen)
    (h : T n c A ([row E Kd xs (.slice (some ⟨g, off, none⟩) m k)] :: Lr) l κ) : T n c A L l κ := fun a w Ev H => by
  subst hcs hm ho
  refine h a w Ev (H.melt (N := [_]) (.cons hL .nil) fun Z S hZS _ ⟨S1, S2, e1, e2, ed, ⟨⟨hg, hh⟩, _⟩, _⟩ => ⟨S1, S2, e1, e2, ed, ⟨?_, trivial⟩, trivial⟩)
  exact .inr ⟨g, pre.length, k, pre, el, post, rfl, hg, hh, rfl, hl, hp, hk, Nil, fun _ h => h.elim, fun h => h, hF w Z Nil⟩
/-- Two blocks are two. -/
theorem t_ne {g1 g2 : Nat} {c1 c2 : List Value} {T1 T2 : TypeId} (hL : Pick L [[blk g1 c1 T1], [blk g2 c2 T2]] Lr) (h : g1 ≠ g2 → T n c A L l κ) : T n c A L l κ := fun a w Ev H => by
  refine h ?_ a w Ev H
  obtain ⟨_, _, S, _, h2, _⟩ := H
  obtain ⟨S1, S2, _, _, _, ⟨Sa, Sb, ea, eb, ed, ⟨⟨hg, _⟩, _⟩, ⟨Sc, Sd, ec, _, _, ⟨⟨hg2, _⟩, _⟩, _⟩⟩, _⟩ := Holds_pick hL h2
  intro e
  subst e
  exact ed _ hg (ec _ hg2)
theorem cell_blk {g off : Nat} {pre el post : List Value} {T : TypeId} {w : World} (hh : w.heap[g]? = some (.cells (pre ++ el ++ post).toArray T (0, 0))) (ho : pre.length = off) : ∀ j u, el[j]? = some u → w.cell? ⟨g, off + j, none⟩ = some u := row_cells hh ho
/-- append(s, make([]T, k)...) where there is no room. -/
theorem t_apz {E t tn : TypeId} {g off i k m sz b : Nat} {kq kn : IntKind} {mi : Int} {pre el el' post : List Value} {zz : Value} (hL : At L [blk g (pre ++ (el ++ el') ++ post) E]) (hx : opv l x = some (.slice (some ⟨g, off, none⟩) i k)) (hy : opv l y = some (.int kq mi)) (hmi : mi = m) (ht : P.underlying t = some (.slice E)) (htn : P.underlying tn = some (.int kn)) (hti : TI P E zz sz b) (hzs : zz.cells.size = sz)
    (hsz : 0 < sz) (hb : 0 < b) (ho : pre.length = off) (hi : el.length = i * sz) (h0 : 0 < m) (hg : k < i + m) (hfit : (i + m) * b ≤ 140737488355328) (hd : Nat.blt d n = true)
    (h : ∀ g2 k2 rest, i + m ≤ k2 → k2 ≤ maxLen → rest.length = (m + (k2 - (i + m))) * sz → T n c A ([blk g2 (el ++ rest) E] :: L) ((d, .slice (some ⟨g2, 0, none⟩) (i + m) k2) :: l) K) : T n c A L l (Step P ops Q ⟨some d, .call ⟨.builtin .append, #[x, y], #[t, tn]⟩, ty, pos, af, none⟩ K) := fun a w Ev H => by
  subst hmi
  obtain ⟨_, hq⟩ := hL.get
  obtain ⟨_, S, ⟨hS, hh⟩, _⟩ := H.item hq
  obtain ⟨ti, h1, h2, h3, h4⟩ := hti.out
  have hlen : i + m ≤ 140737488355328 := Nat.le_trans (Nat.le_mul_of_pos_right _ hb) hfit
  have hmb : m * b ≤ (i + m) * b := Nat.mul_le_mul_right _ (by omega)
  have hold : (Builtin.firstCells ti.size i (.slice (some ⟨g, off, none⟩) i k)).run P w.drew = .ok el.toArray w.drew := by
    refine run_firstCells_some w.drew ti.size i ⟨g, off, none⟩ i k el (by rw [h3, hi]) fun j u hu => ?_
    rw [addr_add, World.cell?_drew]
    refine cell_blk (pre := pre) (el := el) (post := el' ++ post) (T := E) ?_ ho j u hu
    rw [hh]; simp
  have hr := Lib.run_append_grow_zeros (P := P) w t tn ty E ti zz kq kn ht htn h1 h2 (some ⟨g, off, none⟩) i k el hold m h0 (by omega) hg (by omega) (by rw [h4]; omega) (by rw [h4]; exact growslice_fits hg hfit)
  have hge := grownCap_ge w (i + m) k E
  have hle := grownCap_le_maxLen w (i + m) k E (by simp only [maxLen]; omega)
  generalize grownCap w (i + m) k E = nc at *
  have ez : ∀ q, ((Builtin.zeroCells zz.cells q).toList).length = q * sz := fun q => by rw [← hzs, ← size_zeroCells, Array.length_toList]
  refine wl_val (v := .slice (some ⟨w.heap.size, 0, none⟩) (i + m) nc) (w' := w.drew.alloc (.cells (el.toArray ++ Builtin.zeroCells zz.cells m ++ Builtin.zeroCells zz.cells (nc - (i + m))) E)) Ev rfl ?_ hd fun a' E' => ?_
  · simp [execOp, resolve, Ev.eval hx, Ev.eval hy, invoke, builtin, hr]
  · refine h w.heap.size nc ((Builtin.zeroCells zz.cells m).toList ++ (Builtin.zeroCells zz.cells (nc - (i + m))).toList) hge hle (by rw [List.length_append, ez, ez, ← Nat.add_mul]) a' _ E' ?_
    have hne := heap_alloc_new w.drew (.cells (el.toArray ++ Builtin.zeroCells zz.cells m ++ Builtin.zeroCells zz.cells (nc - (i + m))) E)
    rw [World.size_drew] at hne
    refine H.news (N := [[blk w.heap.size (el ++ ((Builtin.zeroCells zz.cells m).toList ++ (Builtin.zeroCells zz.cells (nc - (i + m))).toList)) E]]) ((Chg.drew w Nil).trans (Chg.alloc _ _ Nil) (fun _ h => h.elim)) (News.one (S := fun b => b = w.heap.size) (fun b hb => ?_) ⟨⟨rfl, ?_⟩, trivial⟩)
    · subst hb
      refine ⟨Nat.le_refl _, ?_⟩
      show w.heap.size < (w.heap.push _).size
      simp
    · rw [hne]
      congr 2
      apply Array.ext'
      simp [List.append_assoc]
/-- copy, between blocks of cells: all is read before anything is written. -/
theorem t_cp {t t' e E E' : TypeId} {g o g' o' dl dc sl sc sz b : Nat} {cs cs' src pre el post : List Value} {zz : Value} (hL : Upd L [blk g cs E] [blk g cs' E] L') (hS : At L [blk g' src E']) (hx : opv l x = some (.slice (some ⟨g, o, none⟩) dl dc)) (hy : opv l y = some (.slice (some ⟨g', o', none⟩) sl sc)) (hu : P.underlying t = some (.slice e)) (hti : TI P e zz sz b)
    (hsrc : src = pre ++ el ++ post) (ho : pre.length = o') (hn : el.length = Nat.min sl dl * sz) (h1 : ∀ v ∈ el, v.oneCell' = true) (hfit : o + el.length ≤ cs.length) (hcs : cs.take o ++ el ++ cs.drop (o + el.length) = cs') (hd : Nat.blt d n = true)
    (h : T n c A L' ((d, .int .i64 (Nat.min sl dl : Nat)) :: l) K) : T n c A L l (Step P ops Q ⟨some d, .call ⟨.builtin .copy, #[x, y], #[t, t']⟩, ty, pos, af, none⟩ K) := fun a w Ev H => by
  subst hsrc hcs
  obtain ⟨q, hq, rfl⟩ := hL.get
  obtain ⟨_, hk⟩ := hS.get
  obtain ⟨_, S, ⟨_, hh⟩, _⟩ := H.item hk
  obtain ⟨_, _, ⟨_, hd0⟩, _⟩ := H.item hq
  have hl := run_loadCells_list (P := P) w ⟨g', o', none⟩ el fun j u hu => by rw [addr_add]; exact cell_blk hh ho j u hu
  have hst := run_storeCells_at P g o E el 0 cs.toArray w hd0 (by simpa using hfit) h1
  simp only [Nat.add_zero] at hst
  have hr : (Builtin.copy_ #[t, t'] ty #[.slice (some ⟨g, o, none⟩) dl dc, .slice (some ⟨g', o', none⟩) sl sc]).run P w = .ok (goInt (Nat.min sl dl)) (w.setRow g (cs.take o ++ el ++ cs.drop (o + el.length)).toArray) := by
    simp [Builtin.copy_, run_underlying hu, Builtin.lenOf, Builtin.firstCells, hti.sizeOf, ← hn, hl, hst]
  refine wl_val (v := goInt (Nat.min sl dl)) (w' := w.setRow g (cs.take o ++ el ++ cs.drop (o + el.length)).toArray) Ev rfl ?_ hd fun a' E' => h a' _ E' (H.upd hq fun _ S1 _ _ _ _ ⟨⟨h2, h3⟩, _⟩ => ⟨S1, ⟨⟨h2, setRow_heap w g _ _ E (0, 0) h3⟩, trivial⟩, fun b hb => .inl hb, Chg.setRow _ h2⟩)
  simp [execOp, resolve, Ev.eval hx, Ev.eval hy, invoke, builtin, hr]
/-- Cuts of a slice whose block is known; its cap. -/
theorem r_cutS {t e : TypeId} {g off m k sz b : Nat} {lo hi : Option Operand} {i j : Int} {zz : Value} (hu : P.underlying t = some (.slice e)) (hti : TI P e zz sz b) (hx : opv l x = some (.slice (some ⟨g, off, none⟩) m k))
    (hlo : (lo = none ∧ i = 0) ∨ ∃ y k, lo = some y ∧ opv l y = some (.int k i)) (hhi : (hi = none ∧ j = m) ∨ ∃ y k, hi = some y ∧ opv l y = some (.int k j)) (i' j' : Nat) (ei : i = i') (ej : j = j') (h1 : i' ≤ j') (h2 : j' ≤ k) (h3 : i' < k) :
    RP P ⟨dd, .slice t x lo hi none, ty, pos, af, gg⟩ n l (.slice (some ⟨g, off + i' * sz, none⟩) (j' - i') (k - i')) := fun a w E => by
  subst ei ej
  have b1 := fun kk code => run_bound (P := P) (w := w) (k := kk) (code := code) (i := (i' : Int)) (y := j') (by omega) (by omega)
  have b2 := fun kk code => run_bound (P := P) (w := w) (k := kk) (code := code) (i := (j' : Int)) (y := k) (by omega) (by omega)
  have b3 := fun kk code (hjm : (i' : Int) ≤ m) => run_bound (P := P) (w := w) (k := kk) (code := code) (i := (i' : Int)) (y := m) (by omega) hjm
  have hki : k ≠ i' := by omega
  have hk0 : k ≠ 0 := by omega
  rcases hlo with ⟨rfl, hi0⟩ | ⟨y, kk, rfl, hy⟩ <;> rcases hhi with ⟨rfl, hj0⟩ | ⟨y', kk', rfl, hy'⟩
  · obtain rfl : i' = 0 := by omega
    obtain rfl : j' = m := by omega
    simp [execOp, E.eval hx, Instr.sliceAt, Instr.slice, Instr.sliceBounds, run_underlying hu, hti.sizeOf, hk0, addr_add]
  · obtain rfl : i' = 0 := by omega
    simp [execOp, E.eval hx, E.eval hy', Instr.sliceAt, Instr.slice, Instr.sliceBounds, run_underlying hu, hti.sizeOf, hk0, addr_add, b2]
  · obtain rfl : j' = m := by omega
    simp [execOp, E.eval hx, E.eval hy, Instr.sliceAt, Instr.slice, Instr.sliceBounds, run_underlying hu, hti.sizeOf, hki, addr_add, b3 _ _ (by omega : (i' : Int) ≤ (j' : Nat))]
  · simp [execOp, E.eval hx, E.eval hy, E.eval hy', Instr.sliceAt, Instr.slice, Instr.sliceBounds, run_underlying hu, hti.sizeOf, hki, addr_add, b1, b2]
theorem r_cutE {t e : TypeId} {g off m k sz b : Nat} {lo hi : Option Operand} {i j : Int} {zz : Value} (hu : P.underlying t = some (.slice e)) (hti : TI P e zz sz b) (hx : opv l x = some (.slice (some ⟨g, off, none⟩) m k))
    (hlo : (lo = none ∧ i = 0) ∨ ∃ y k, lo = some y ∧ opv l y = some (.int k i)) (hhi : (hi = none ∧ j = m) ∨ ∃ y k, hi = some y ∧ opv l y = some (.int k j)) (i' j' : Nat) {o2 m2 k2 : Nat} (ei : i = i') (ej : j = j') (h1 : i' ≤ j') (h2 : j' ≤ k) (h3 : i' < k) (e1 : off + i' * sz = o2) (e2 : j' - i' = m2) (e3 : k - i' = k2) :
    RP P ⟨dd, .slice t x lo hi none, ty, pos, af, gg⟩ n l (.slice (some ⟨g, o2, none⟩) m2 k2) := by
  subst e1 e2 e3
  exact r_cutS hu hti hx hlo hhi i' j' ei ej h1 h2 h3
theorem r_cap {t e : TypeId} {p : Option Addr} {m k : Nat} (hu : P.underlying t = some (.slice e)) (hx : opv l x = some (.slice p m k)) : RP P ⟨dd, .call ⟨.builtin .cap, #[x], #[t]⟩, ty, pos, af, gg⟩ n l (.int .i64 k) := fun a w E => by
  simp [execOp, resolve, E.eval hx, invoke, builtin, Builtin.cap_, run_underlying hu, goInt]
/-- slices.overlaps, of two blocks. -/
theorem r_ov {f : FuncId} {tS tR e E1 E2 : TypeId} {g1 o1 m1 k1 g2 o2 m2 k2 sz b : Nat} {c1 c2 : List Value} {zz : Value} {ts : Array TypeId} (hf : opv l (.func f) = some (.func (.func f) #[] #[])) (hx : opv l x = some (.slice (some ⟨g1, o1, none⟩) m1 k1)) (hy : opv l y = some (.slice (some ⟨g2, o2, none⟩) m2 k2)) (hu : P.underlying tS = some (.slice e)) (hti : TI P e zz sz b) (h1 : At L [blk g1 c1 E1]) (h2 : At L [blk g2 c2 E2]) (hne : g1 ≠ g2) (hc2 : c2.length ≠ 0)
    (hcall : ∀ w, (callFunc f #[.slice (some ⟨g1, o1, none⟩) m1 k1, .slice (some ⟨g2, o2, none⟩) m2 k2]).run P w = ((Extern.SlicesOverlaps.overlaps #[tS, tS] #[tR] #[.slice (some ⟨g1, o1, none⟩) m1 k1, .slice (some ⟨g2, o2, none⟩) m2 k2]).run P w).andThen fun v w' => .ok (.value v) w') :
    RS P ⟨dd, .call ⟨.value (.func f), #[x, y], ts⟩, ty, pos, af, gg⟩ n c A L l (.bool false) := fun a w Ev H => by
  obtain ⟨_, q1⟩ := h1.get
  obtain ⟨_, q2⟩ := h2.get
  obtain ⟨_, _, ⟨_, hh1⟩, _⟩ := H.item q1
  obtain ⟨_, _, ⟨_, hh2⟩, _⟩ := H.item q2
  have ho := Lib.run_overlaps_apart (P := P) w tS tR e hu sz (hti.sizeOf) ⟨g1, o1, none⟩ ⟨g2, o2, none⟩ m1 k1 m2 k2 hne E1 E2 c1.length c2.length (by simp [World.shape?, hh1]) (by simp [World.shape?, hh2]) hc2 (by simp [World.frozen?, hh1]) (by simp [World.frozen?, hh1])
  simp [execOp, resolve, Ev.eval hx, Ev.eval hy, Ev.eval hf, Deferred.ofValue, invoke, hcall, ho]
/-! ### Arrays of the walk's own, told by a plain list -/
theorem at_map {α : Type} {xs : List α} {i : Int} {u : α} {f : α → Value} (h : at_ xs i = some u) : (xs.map f)[i.toNat]? = some (f u) := by
  unfold at_ at h
  split at h
  · rw [List.getElem?_map, h]; rfl
  · cases h
theorem r_ixA {t e : TypeId} {g m b : Nat} {kk : IntKind} {i : Int} {zz : Value} (hu : P.underlying t = some (.array m e)) (hti : TI P e zz 1 b) (hx : opv l x = some (.pointer (some ⟨g, 0, none⟩))) (hy : opv l y = some (.int kk i)) (hi : 0 ≤ i ∧ i < m) :
    RP P ⟨dd, .indexAddr t x y, ty, pos, af, gg⟩ n l (.pointer (some ⟨g, i.toNat, none⟩)) := fun a w E => by
  obtain ⟨j, rfl⟩ := Int.eq_ofNat_of_zero_le hi.1
  have hj : j < m := by omega
  simp [execOp, E.eval hx, E.eval hy, Instr.indexAt, Instr.sureAddr, asIntOf, run_underlying hu, hti.sizeOf, hj, addr_add]
theorem t_sx {α : Type} {g : Nat} {i : Int} {xs : List α} {u0 u' : α} {f : α → Value} {T' : TypeId} {zz : Value} {b : Nat} (hL : Upd L [blk g (xs.map f) T'] [blk g ((xs.set i.toNat u').map f) T'] L') (hti : TI P tx zz 1 b) (hx : opv l x = some (.pointer (some ⟨g, i.toNat, none⟩))) (hy : opv l y = some (f u')) (hv : (f u').cells = #[f u']) (h1 : (f u').oneCell' = true) (hi : at_ xs i = some u0) (h : T n c A L' l K) : T n c A L l (Step P ops Q ⟨none, .store tx x y, ty, pos, af, none⟩ K) := fun a w E H => by
  obtain ⟨_, hk, hs⟩ := hL.get
  have hlt : i.toNat < xs.length := by
    unfold at_ at hi
    split at hi
    · exact (List.getElem?_eq_some_iff.1 hi).1
    · cases hi
  refine wl_store (vs := [f u']) E H rfl hx hy hk hti (by simpa using hv) rfl (by simp [h1]) (Nat.ble_eq_true_of_le (by simp; omega)) ?_ hs fun w' a' E' H' => h a' w' E' H'
  apply List.ext_getElem?
  intro j
  rw [List.map_set]
  rcases Nat.lt_trichotomy j i.toNat with hj | hj | hj
  · rw [List.append_assoc, List.getElem?_append_left (by simp; omega), List.getElem?_take_of_lt hj, List.getElem?_set_ne (by omega)]
  · subst hj
    rw [List.append_assoc, List.getElem?_append_right (by simp; exact Nat.min_le_left _ _), List.getElem?_set_self (by simpa using hlt)]
    simp [Nat.min_eq_left (Nat.le_of_lt hlt)]
  · rw [List.getElem?_append_right (by simp; omega), List.getElem?_set_ne (by omega), List.getElem?_drop]
    congr 1
    simp; omega
theorem r_ixP {t e : TypeId} {g off m i sz b o2 : Nat} {kk : IntKind} {zz : Value} (hu : P.underlying t = some (.array m e)) (hti : TI P e zz sz b) (hx : opv l x = some (.pointer (some ⟨g, off, none⟩))) (hy : opv l y = some (.int kk (i : Nat))) (hi : Nat.blt i m = true) (ho : off + i * sz = o2) :
    RP P ⟨dd, .indexAddr t x y, ty, pos, af, gg⟩ n l (.pointer (some ⟨g, o2, none⟩)) := fun a w E => by
  subst ho
  have hj : i < m := by simpa using hi
  simp [execOp, E.eval hx, E.eval hy, Instr.indexAt, Instr.sureAddr, asIntOf, run_underlying hu, hti.sizeOf, hj, addr_add]
theorem r_crs {k : IntKind} {i : Int} {ty' : TypeId} {ds : TypeDesc} (hs : P.underlying tx = some ds) (hd : P.underlying ty' = some .string) (hx : opv l x = some (.int k i)) : RP P ⟨dd, .convert tx ty' x, ty, pos, af, gg⟩ n l (.string (Utf8.encode i)) := fun a w E => by
  simp [execOp, E.eval hx, convert, run_underlying hs, run_underlying hd, Conv.intToString]
end
end Go.Gx
