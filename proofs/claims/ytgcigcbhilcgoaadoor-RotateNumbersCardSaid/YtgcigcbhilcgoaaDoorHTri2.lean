/- The steps of a walk that read, make or write memory; calls; regions whose order is drawn. -/
import Derived.Test.YtgcigcbhilcgoaaDoorHTri
set_option linter.unusedVariables false
namespace Go.Gx
open Go.RowKit
section
variable {P : Program} {ops : Array Oper} {rest : List Oper} {Q Q' : Exit → Act → World → Prop} {K κ κ' : Act → World → Prop} {n : Nat} {c : Cx} {A A' B Ac : List VP} {L L' Lc Lr N : List (List SP)} {l l' : List (Nat × Value)}
  {d : Nat} {op : Op} {ty : TypeId} {pos : String} {af : Array Edge} {v u : Value} {dd : Option Nat} {gg : Option (Nat × Bool)} {x y z : Operand} {tx ty' : TypeId}

/-! ### Loads -/
theorem r_ld {g off : Nat} {df : TypeDesc} {cs : List Value} {T' : TypeId} (hL : At L [blk g cs T']) (hu : P.underlying tx = some df) (hag : aggD df = false) (hx : opv l x = some (.pointer (some ⟨g, off, none⟩))) (hv : cs[off]? = some v) : RS P ⟨dd, .load tx x, ty, pos, af, gg⟩ n c A L l v := fun _ _ E H =>
  let ⟨_, hi⟩ := hL.get; rn_load1 E rfl hu hag hx (H.get (k := 0) hi rfl) hv
theorem r_ldN {g off : Nat} {df : TypeDesc} {zz : Value} {m b : Nat} {cs vs : List Value} {T' : TypeId} (hL : At L [blk g cs T']) (hu : P.underlying tx = some df) (hag : aggD df = true) (hti : TI P tx zz m b) (hx : opv l x = some (.pointer (some ⟨g, off, none⟩))) (hv : Seg cs off m vs) : RS P ⟨dd, .load tx x, ty, pos, af, gg⟩ n c A L l (.agg vs.toArray) := fun _ _ E H =>
  let ⟨_, hi⟩ := hL.get; rn_loadN E rfl hu hag hti hx (H.get (k := 0) hi rfl) hv.eq.2 hv.eq.1
theorem r_ldA {g : Nat} {df : TypeDesc} {zz : Value} {m b : Nat} {cs : List Value} {T' : TypeId} (hL : At L [blk g cs T']) (hu : P.underlying tx = some df) (hag : aggD df = true) (hti : TI P tx zz m b) (hx : opv l x = some (.pointer (some ⟨g, 0, none⟩))) (hv : cs.length = m) : RS P ⟨dd, .load tx x, ty, pos, af, gg⟩ n c A L l (.agg cs.toArray) := fun _ _ E H =>
  let ⟨_, hi⟩ := hL.get; rn_loadN E rfl hu hag hti hx (H.get (k := 0) hi rfl) hv (by subst hv; simp)
/-- The cells of an element of something shared. -/
def elV (p : Option Addr) (i : Int) (m : Nat) (cs : List Value) : VP where
  holds w Z := ∀ off q, Idx p i m off q → ∃ g o, q = ⟨g, o, none⟩ ∧ (cs ≠ [] → Z g) ∧ ∀ j v, cs[off + j]? = some v → w.cell? ⟨g, o + j, none⟩ = some v
  mono hz h := fun off q hq => let ⟨g, o, e, hg, k⟩ := h off q hq; ⟨g, o, e, fun hc => hz _ (hg hc), k⟩
  loc hz h := fun off q hq => by
    obtain ⟨g, o, e, hg, k⟩ := h off q hq
    refine ⟨g, o, e, hg, fun j v hv => ?_⟩
    have hc : cs ≠ [] := by intro e; subst e; simp at hv
    rw [← k j v hv]
    simp [World.cell?, hz g (hg hc)]
theorem elem_cells' {w : World} {α : Type} {Kd : Kind α} {xs : List α} {S : FP} {p : Option Addr} {m k : Nat} {i : Int} {u : α} (hR : sliceR Kd w S xs [.slice p m k]) (hi : at_ xs i = some u) :
    ∃ cs, Kd.R w S u cs ∧ (elV p i Kd.n cs).holds w S := by
  obtain ⟨cs, hcs, h⟩ := elem_cells hR hi
  refine ⟨cs, hcs, fun off q hq => ?_⟩
  obtain ⟨g, o, e, k⟩ := h off q hq
  refine ⟨g, o, e, fun hc => ?_, k⟩
  obtain ⟨a, cap, e0, _, _, _, hh⟩ := hR
  simp only [List.cons.injEq, Value.slice.injEq, and_true] at e0
  obtain ⟨rfl, _, _⟩ := e0
  obtain ⟨h0, hlt, _⟩ := at_some hi
  obtain ⟨g', off', pre, el, post, T', fr, e1, hz, _⟩ := hh (by intro e; subst e; simp at hlt)
  obtain ⟨g2, c2, e2, e3⟩ := hq
  rw [e1] at e2
  simp only [Option.some.injEq, Addr.mk.injEq, and_true] at e2
  obtain ⟨rfl, rfl⟩ := e2
  rw [e] at e3
  simp only [Addr.mk.injEq, and_true] at e3
  rw [e3.1]
  exact hz
/-- The place of an element. -/
theorem t_q {α : Type} {E : TypeId} {Kd : Kind α} {xs : List α} {p : Option Addr} {m k : Nat} {i : Int} {u : α} (hk : At A (vw (kSlice E Kd) xs [.slice p m k])) (hi : at_ xs i = some u) (h : ∀ q, Idx p i Kd.n 0 q → m = xs.length → T n c A L l κ) : T n c A L l κ := fun a w Ev H => by
  obtain ⟨_, hk⟩ := hk.get
  obtain ⟨_, hR⟩ := H.readA hk
  obtain ⟨_, _, e0, _, _, _, hh⟩ := hR
  obtain ⟨h0, hlt, _⟩ := at_some hi
  simp only [List.cons.injEq, Value.slice.injEq, and_true] at e0
  obtain ⟨rfl, hm, _⟩ := e0
  obtain ⟨g, off, _, _, _, _, _, e1, _⟩ := hh (by intro e; subst e; simp at hlt)
  exact h _ ⟨g, off, e1, rfl⟩ hm a w Ev H
theorem t_qL {α : Type} {E : TypeId} {Kd : Kind α} {xs : List α} {p : Option Addr} {m k : Nat} {i : Int} {u : α} (hk : At L [row E Kd xs (.slice p m k)]) (hi : at_ xs i = some u) (h : ∀ q, Idx p i Kd.n 0 q → m = xs.length → T n c A L l κ) : T n c A L l κ := fun a w Ev H => by
  obtain ⟨_, hk⟩ := hk.get
  obtain ⟨_, hR⟩ := H.readL hk
  obtain ⟨_, _, e0, _, _, _, hh⟩ := hR
  obtain ⟨h0, hlt, _⟩ := at_some hi
  simp only [List.cons.injEq, Value.slice.injEq, and_true] at e0
  obtain ⟨rfl, hm, _⟩ := e0
  obtain ⟨g, off, _, _, _, _, _, e1, _⟩ := hh (by intro e; subst e; simp at hlt)
  exact h _ ⟨g, off, e1, rfl⟩ hm a w Ev H
theorem t_qH {α : Type} {E : TypeId} {Kd : Kind α} {xs : List α} {p : Option Addr} {m k i0 : Nat} {cs : List Value} {i : Int} {u : α} (hk : At L [hole E Kd xs i0 cs (.slice p m k)]) (_hi : at_ xs i = some u) (h : ∀ q, Idx p i Kd.n 0 q → m = xs.length → T n c A L l κ) : T n c A L l κ := fun a w Ev H => by
  obtain ⟨_, hk⟩ := hk.get
  obtain ⟨_, _, g, off, _, _, _, _, _, e0, _⟩ := H.get (k := 0) hk rfl
  simp only [Value.slice.injEq] at e0
  obtain ⟨rfl, hm, _⟩ := e0
  exact h _ ⟨g, off, rfl, rfl⟩ hm a w Ev H
theorem r_idx {α : Type} {xs : List α} {u : α} {e : TypeId} {p : Option Addr} {m k b s : Nat} {zz : Value} {kk : IntKind} {i : Int} {q : Addr} (hq : Idx p i m 0 q) (hs : s = xs.length) (hi : at_ xs i = some u) (hu : P.underlying tx = some (.slice e)) (hti : TI P e zz m b) (hx : opv l x = some (.slice p s k)) (hy : opv l y = some (.int kk i)) : RP P ⟨dd, .indexAddr tx x y, ty, pos, af, gg⟩ n l (.pointer (some q)) := fun a w E => by
  subst hs
  obtain ⟨h0, h1, h2⟩ := at_some hi
  obtain ⟨g, off, rfl, rfl⟩ := hq
  have hlt : i < (xs.length : Int) := by omega
  simp [execOp, E.eval hx, E.eval hy, Instr.indexAt, asIntOf, run_underlying hu, h0, hlt, hti.sizeOf, addr_add]
theorem t_qf {off : Nat} {p : Option Addr} {i : Int} {m : Nat} {q : Addr} (hq : Idx p i m off q) (o : Nat) (h : ∀ q', Idx p i m (off + o) q' → T n c A L l κ) : T n c A L l κ := by
  obtain ⟨g, k, e, _⟩ := hq
  exact h _ ⟨g, k, e, rfl⟩
theorem r_fai {f : Nat} {fs : Array Field} {fl : Field} {zz : Value} {m b : Nat} {p : Option Addr} {i : Int} {m' off off' : Nat} {q q' : Addr} (hq : Idx p i m' off q) (hq' : Idx p i m' off' q') (hu : P.underlying tx = some (.struct fs)) (hf : fs[f]? = some fl) (hti : TI P fl.type zz (m + 1) b) (hx : opv l x = some (.pointer (some q))) (he : off + fl.offset = off') : RP P ⟨dd, .fieldAddr tx x f, ty, pos, af, gg⟩ n l (.pointer (some q')) := fun a w E => by
  obtain ⟨q2, h2, hr⟩ := rn_fieldAddrI (P := P) (o := ⟨dd, .fieldAddr tx x f, ty, pos, af, gg⟩) E rfl hu hf hti hx hq he
  obtain ⟨g, k, e, rfl⟩ := hq'
  obtain ⟨g2, k2, e2, rfl⟩ := h2
  rw [e] at e2
  simp only [Option.some.injEq, Addr.mk.injEq, and_true] at e2
  obtain ⟨rfl, rfl⟩ := e2
  exact hr w
/-- An element of something shared is laid open. -/
theorem t_op {α τ : Type} {f : α → τ → List Value} {B : α → τ → List VP} {E : TypeId} {Kd : Kind α} {xs : List α} {p : Option Addr} {m k : Nat} {i : Int} {u : α} (o : Opens Kd f B) (hk : At A (vw (kSlice E Kd) xs [.slice p m k])) (hi : at_ xs i = some u) (h : ∀ t, T n c (B u t ++ (elV p i Kd.n (f u t) :: A)) L l κ) : T n c A L l κ := fun a w Ev H => by
  obtain ⟨_, hk⟩ := hk.get
  obtain ⟨hc, Z, S, h1, h2, h3, h4, h5⟩ := H
  have hR : sliceR Kd w Z xs [.slice p m k] := argHolds_get h1 hk
  obtain ⟨cs, hcs, hcell⟩ := elem_cells' hR hi
  obtain ⟨t, rfl, hB⟩ := o hcs
  exact h t a w Ev ⟨hc, Z, S, argHolds_append hB ⟨hcell, h1⟩, h2, h3, h4, h5⟩
theorem r_e1 {q : Addr} {df : TypeDesc} {p : Option Addr} {i : Int} {m off : Nat} {cs : List Value} (he : At A (elV p i m cs)) (hq : Idx p i m off q) (hu : P.underlying tx = some df) (hag : aggD df = false) (hx : opv l x = some (.pointer (some q))) (hv : cs[off]? = some v) : RS P ⟨dd, .load tx x, ty, pos, af, gg⟩ n c A L l v := fun a w E H => by
  obtain ⟨_, he⟩ := he.get
  obtain ⟨Z, h⟩ := H.arg he
  exact rn_loadI1 E rfl hu hag hx hq (fun off q hq => let ⟨g, o, e, _, k⟩ := h off q hq; ⟨g, o, e, k⟩) hv
theorem r_eN {q : Addr} {df : TypeDesc} {zz : Value} {m' b : Nat} {p : Option Addr} {i : Int} {m off : Nat} {cs vs : List Value} (he : At A (elV p i m cs)) (hq : Idx p i m off q) (hu : P.underlying tx = some df) (hag : aggD df = true) (hti : TI P tx zz m' b) (hx : opv l x = some (.pointer (some q))) (hv : Seg cs off m' vs) : RS P ⟨dd, .load tx x, ty, pos, af, gg⟩ n c A L l (.agg vs.toArray) := fun a w E H => by
  obtain ⟨_, he⟩ := he.get
  obtain ⟨Z, h⟩ := H.arg he
  exact rn_loadIN E rfl hu hag hti hx hq (fun off q hq => let ⟨g, o, e, _, k⟩ := h off q hq; ⟨g, o, e, k⟩) hv.eq.2 hv.eq.1
theorem r_eA {q : Addr} {df : TypeDesc} {zz : Value} {m' b : Nat} {p : Option Addr} {i : Int} {m : Nat} {cs : List Value} (he : At A (elV p i m cs)) (hq : Idx p i m 0 q) (hu : P.underlying tx = some df) (hag : aggD df = true) (hti : TI P tx zz m' b) (hx : opv l x = some (.pointer (some q))) (hv : cs.length = m') : RS P ⟨dd, .load tx x, ty, pos, af, gg⟩ n c A L l (.agg cs.toArray) := fun a w E H => by
  obtain ⟨_, he⟩ := he.get
  obtain ⟨Z, h⟩ := H.arg he
  exact rn_loadIN E rfl hu hag hti hx hq (fun off q hq => let ⟨g, o, e, _, k⟩ := h off q hq; ⟨g, o, e, k⟩) hv (by subst hv; simp)
/-! ### An element of the walk's own is laid open, and shut -/
theorem t_oI {α τ : Type} {f : α → τ → List Value} {No : α → τ → List (List SP)} {B : α → τ → List VP} {E : TypeId} {Kd : Kind α} {xs : List α} {p : Option Addr} {m k : Nat} {i : Int} {u : α} (o : OpensO Kd f No B) (hL : Ext L [row E Kd xs (.slice p m k)] Lr) (hi : at_ xs i = some u) (h : ∀ t, T n c (B u t ++ A) ([hole E Kd xs i.toNat (f u t) (.slice p m k)] :: (No u t ++ Lr)) l κ) : T n c A L l κ := fun a w Ev H => by
  obtain ⟨hc, Z, S, h1, h2, h3, h4, h5, h6⟩ := H
  obtain ⟨S1, S2, e1, e2, ed, ⟨hR, _⟩, k2⟩ := Holds_ext hL h2
  obtain ⟨cs, T1, T2, g1, g2, gd, hh, hK⟩ := row_open hR hi
  obtain ⟨t, rfl, hN, hB⟩ := o hK
  refine h t a w Ev ⟨hc, Z, S, argHolds_append hB h1, ⟨T1, fun b => T2 b ∨ S2 b, fun b hb => e1 b (g1 b hb), fun b hb => hb.elim (fun hb => e1 b (g2 b hb)) (e2 b), fun b hb hh => hh.elim (gd b hb) (ed b (g1 b hb)), ⟨hh, trivial⟩, Holds_append hN k2 (fun b hb => ed b (g2 b hb))⟩, h3, h4, h5, h6⟩
theorem t_cI {α τ : Type} {f : α → τ → List Value} {No : α → τ → List (List SP)} {B : α → τ → List VP} {E : TypeId} {Kd : Kind α} {xs : List α} {i : Nat} {u : α} {t : τ} {cs : List Value} (s : ShutsO Kd f No B) (hp : Pick L ([hole E Kd xs i cs v] :: No u t) Lr) (hc : cs = f u t) (hB : ∀ w Z, argHolds w A Z → argHolds w (B u t) Z) (h : T n c A ([row E Kd (xs.set i u) v] :: Lr) l κ) : T n c A L l κ := fun a w Ev H =>
  h a w Ev (H.melt (N := [[row E Kd (xs.set i u) v]]) hp fun Z S _ hA ⟨S1, S2, e1, e2, ed, ⟨hh, _⟩, k2⟩ => ⟨S, Nil, fun _ h => h, fun _ h => h.elim, fun _ _ h => h.elim, ⟨(kSlice E Kd).monoO (fun _ h => h) (fun b hb => hb.elim (e1 b) (e2 b)) (hole_close hh (hc ▸ s k2 (hB w Z hA)) ed), trivial⟩, trivial⟩)
/-- The same, where the element is what it was. -/
theorem t_cS {α τ : Type} {f : α → τ → List Value} {No : α → τ → List (List SP)} {B : α → τ → List VP} {E : TypeId} {Kd : Kind α} {xs : List α} {i : Int} {u : α} {t : τ} {cs : List Value} (s : ShutsO Kd f No B) (hi : at_ xs i = some u) (hp : Pick L ([hole E Kd xs i.toNat cs v] :: No u t) Lr) (hc : cs = f u t) (hB : ∀ w Z, argHolds w A Z → argHolds w (B u t) Z) (h : T n c A ([row E Kd xs v] :: Lr) l κ) : T n c A L l κ :=
  t_cI s hp hc hB (by rw [set_same hi]; exact h)
theorem r_h1 {α : Type} {E : TypeId} {Kd : Kind α} {xs : List α} {p : Option Addr} {m k off : Nat} {i : Int} {cs : List Value} {q : Addr} {df : TypeDesc} (hL : At L [hole E Kd xs i.toNat cs (.slice p m k)]) (hq : Idx p i Kd.n off q) (hu : P.underlying tx = some df) (hag : aggD df = false) (hx : opv l x = some (.pointer (some q))) (hv : cs[off]? = some v) : RS P ⟨dd, .load tx x, ty, pos, af, gg⟩ n c A L l v := fun _ _ E H =>
  let ⟨_, hi⟩ := hL.get
  let ⟨_, _, hh⟩ := H.get (k := 0) hi rfl
  rn_loadI1 E rfl hu hag hx hq (hole_cells hh) hv
theorem r_hN {α : Type} {E : TypeId} {Kd : Kind α} {xs : List α} {p : Option Addr} {m k off m' b : Nat} {i : Int} {cs vs : List Value} {q : Addr} {df : TypeDesc} {zz : Value} (hL : At L [hole E Kd xs i.toNat cs (.slice p m k)]) (hq : Idx p i Kd.n off q) (hu : P.underlying tx = some df) (hag : aggD df = true) (hti : TI P tx zz m' b) (hx : opv l x = some (.pointer (some q))) (hv : Seg cs off m' vs) : RS P ⟨dd, .load tx x, ty, pos, af, gg⟩ n c A L l (.agg vs.toArray) := fun _ _ E H =>
  let ⟨_, hi⟩ := hL.get
  let ⟨_, _, hh⟩ := H.get (k := 0) hi rfl
  rn_loadIN E rfl hu hag hti hx hq (hole_cells hh) hv.eq.2 hv.eq.1
theorem r_hA {α : Type} {E : TypeId} {Kd : Kind α} {xs : List α} {p : Option Addr} {m k m' b : Nat} {i : Int} {cs : List Value} {q : Addr} {df : TypeDesc} {zz : Value} (hL : At L [hole E Kd xs i.toNat cs (.slice p m k)]) (hq : Idx p i Kd.n 0 q) (hu : P.underlying tx = some df) (hag : aggD df = true) (hti : TI P tx zz m' b) (hx : opv l x = some (.pointer (some q))) (hv : cs.length = m') : RS P ⟨dd, .load tx x, ty, pos, af, gg⟩ n c A L l (.agg cs.toArray) := fun _ _ E H =>
  let ⟨_, hi⟩ := hL.get
  let ⟨_, _, hh⟩ := H.get (k := 0) hi rfl
  rn_loadIN E rfl hu hag hti hx hq (hole_cells hh) hv (by subst hv; simp)
theorem t_hs {α : Type} {E : TypeId} {Kd : Kind α} {xs : List α} {p : Option Addr} {m k off m' b : Nat} {i : Int} {cs cs' vs : List Value} {q : Addr} {zz : Value} (hL : Upd L [hole E Kd xs i.toNat cs (.slice p m k)] [hole E Kd xs i.toNat cs' (.slice p m k)] L') (hq : Idx p i Kd.n off q) (hti : TI P tx zz m' b) (hx : opv l x = some (.pointer (some q))) (hy : opv l y = some v) (hv : v.cells = vs.toArray) (hm : vs.length = m') (h1 : vs.all Value.oneCell' = true) (hc : Spl cs off vs cs') (h : T n c A L' l K) : T n c A L l (Step P ops Q ⟨none, .store tx x y, ty, pos, af, none⟩ K) := fun a w Ev H => by
  obtain ⟨j, hk, rfl⟩ := hL.get
  obtain ⟨hc1, hc2⟩ := hc.eq
  subst hm
  obtain ⟨w', ⟨hr, _⟩, H'⟩ := H.updE (ρ := World) (Wr := id) (Ir := fun _ => [hole E Kd xs i.toNat cs' (.slice p m k)]) (Φ := fun w' => (storeCells q vs).run P w = .ok () w' ∧ True) hk fun Z S1 _ _ hzs _ _ ⟨hh, _⟩ => by
    obtain ⟨w', hr, hch, hh'⟩ := hole_store (P := P) hh hzs hq hc2 hc1 (fun u hu => List.all_eq_true.1 h1 u hu)
    exact ⟨w', ⟨hr, trivial⟩, S1, ⟨hh', trivial⟩, fun b hb => .inl hb, hch⟩
  refine wl_unit (w' := w') Ev rfl ?_ fun a' E' => h a' w' E' H'
  simp [execOp, Ev.eval hx, Ev.eval hy, Instr.storeAt, Instr.sureAddr, storeVar, hti.sizeOf, hv, hr]

/-! ### What makes or writes memory -/
theorem t_al {T' : TypeId} {zz : Value} {m b : Nat} {cs : List Value} (hti : TI P T' zz m b) (hz : zz.cells = cs.toArray) (hd : Nat.blt d n = true) (h : ∀ g, T n c A ([blk g cs T'] :: L) ((d, .pointer (some ⟨g, 0, none⟩)) :: l) K) : T n c A L l (Step P ops Q ⟨some d, .alloc T', ty, pos, af, none⟩ K) := fun a w E H =>
  wl_alloc E H rfl hti hz hd fun g w' a' E' H' => h g a' w' E' H'
theorem t_bx {T' : TypeId} {cs : List Value} (hx : opv l x = some v) (hv : v.cells = cs.toArray) (hd : Nat.blt d n = true) (h : ∀ g, T n c A ([blk g cs T'] :: L) ((d, .pointer (some ⟨g, 0, none⟩)) :: l) K) : T n c A L l (Step P ops Q ⟨some d, .box T' x, ty, pos, af, none⟩ K) := fun a w E H =>
  wl_box E H rfl hx hv hd fun g w' a' E' H' => h g a' w' E' H'
theorem t_st {g off : Nat} {cs cs' vs : List Value} {T' : TypeId} {zz : Value} {m b : Nat} (hL : Upd L [blk g cs T'] [blk g cs' T'] L') (hti : TI P tx zz m b) (hx : opv l x = some (.pointer (some ⟨g, off, none⟩))) (hy : opv l y = some v) (hv : v.cells = vs.toArray) (hm : vs.length = m) (h1 : vs.all Value.oneCell' = true) (hc : Spl cs off vs cs') (h : T n c A L' l K) : T n c A L l (Step P ops Q ⟨none, .store tx x y, ty, pos, af, none⟩ K) := fun a w E H => by
  obtain ⟨_, hi, hs⟩ := hL.get
  obtain ⟨hc1, hc2⟩ := hc.eq
  subst hm
  exact wl_store E H rfl hx hy hi hti hv rfl h1 (Nat.ble_eq_true_of_le hc2) hc1 hs fun w' a' E' H' => h a' w' E' H'
/-- Where what is appended comes from; Ny: what its elements own. -/
def SrcT (A : List VP) (L Ny : List (List SP)) {α : Type} (Kd : Kind α) (ys : List α) (v : Value) : Prop := ∀ w Z S Sy, argHolds w A Z → Holds w Z L S → Holds w Z Ny Sy → SrcOf Kd ys v w Z Sy
theorem srcN {α : Type} (Kd : Kind α) : SrcT A L [] Kd ([] : List α) (.slice none 0 0) := fun w Z S Sy _ _ _ => srcOf_read (K := Kd) (T := Nil) (nil_view 0 Kd w Nil) fun cs h => h
theorem srcA {α : Type} {Kd : Kind α} {E : TypeId} {ys : List α} (hf : FlatK Kd) (hk : At A (vw (kSlice E Kd) ys [v])) : SrcT A L [] Kd ys v := fun w Z S Sy hA _ _ => let ⟨_, hk⟩ := hk.get; srcOf_read (argHolds_get hA hk : sliceR Kd w Z ys [v]) fun cs h => flat_EO hf h
theorem srcAs {α : Type} {Kd : Kind α} {E : TypeId} {ys : List α} (hk : At A (vw (kSlice E Kd) ys [v])) : SrcT A L [] (kShare Kd) ys v := fun w Z S Sy hA _ _ => let ⟨_, hk⟩ := hk.get; srcOf_read (argHolds_get hA hk : sliceR Kd w Z ys [v]) fun cs h => ER_EO_share h
theorem srcL {α : Type} {Kd : Kind α} {E : TypeId} {ys : List α} (hf : FlatK Kd) (hk : At L [row E Kd ys v]) : SrcT A L [] Kd ys v := fun w Z S Sy _ hL _ => let ⟨_, hk⟩ := hk.get; srcOf_read (Holds_row hL hk : sliceR Kd w (fun b => Z b ∨ S b) ys [v]) fun cs h => flat_EO hf h
theorem srcB {α : Type} {Kd : Kind α} {T' : TypeId} {g k : Nat} {news : List Value} {ys : List α} {Ny : List (List SP)} (hk : At L [blk g news T']) (hE : ∀ w Z S, argHolds w A Z → Holds w Z Ny S → EO Kd w Z ys S news) : SrcT A L Ny Kd ys (.slice (some ⟨g, 0, none⟩) ys.length k) := fun w Z S Sy hA hL hN => by
  obtain ⟨_, hk⟩ := hk.get
  obtain ⟨S1, _, _, _, _, ⟨⟨_, hh⟩, _⟩, _⟩ := Holds_get hL hk
  exact srcOf_cells (hE w Z Sy hA hN) fun j u hu => by
    rw [Nat.zero_add]
    exact blk_cell ⟨Z, S1, by assumption, hh⟩ hu
theorem er0 {w : World} {Z : FP} {α : Type} {Kd : Kind α} : ER Kd w ([] : List α) Z [] := rfl
theorem er1 {w : World} {Z : FP} {α : Type} {Kd : Kind α} {x : α} {xs : List α} {c1 c2 : List Value} (h : Kd.R w Z x c1) (k : ER Kd w xs Z c2) : ER Kd w (x :: xs) Z (c1 ++ c2) := ⟨c1, c2, rfl, h, k⟩
theorem eoN {w : World} {Z : FP} {α : Type} {Kd : Kind α} : ∀ S, Holds w Z [] S → EO Kd w Z ([] : List α) S [] := fun _ _ => rfl
theorem eoC {w : World} {Z : FP} {α τ : Type} {f : α → τ → List Value} {No : α → τ → List (List SP)} {B : α → τ → List VP} {Kd : Kind α} {x : α} {t : τ} {xs : List α} {c2 : List Value} {Nr : List (List SP)} (s : ShutsO Kd f No B) (hB : argHolds w (B x t) Z) (k : ∀ S, Holds w Z Nr S → EO Kd w Z xs S c2) : ∀ S, Holds w Z (No x t ++ Nr) S → EO Kd w Z (x :: xs) S (f x t ++ c2) := fun S h => by
  obtain ⟨S1, S2, h1, h2, hd, k1, k2⟩ := Holds_app h
  exact ⟨_, _, S1, S2, rfl, h1, h2, hd, s k1 hB, k S2 k2⟩
theorem t_app {α : Type} {Et e' t tx' : TypeId} {Kd : Kind α} {xs ys : List α} {vs vx zz : Value} {b : Nat} {Ny : List (List SP)} (hp : Pick L ([row Et Kd xs vs] :: Ny) Lr) (hs : opv l x = some vs) (hx : opv l y = some vx) (ht : P.underlying t = some (.slice Et)) (htx : P.underlying tx' = some (.slice e')) (hti : TI P Et zz Kd.n b) (hzs : zz.cells.size = Kd.n) (hb : Nat.blt 0 b = true) (hfit : fits (xs.length + ys.length) b = true) (hsrc : SrcT A L Ny Kd ys vx) (hd : Nat.blt d n = true)
    (h : ∀ t : Option Addr × Nat × Nat, T n c A ([row Et Kd (xs ++ ys) (.slice t.1 t.2.1 t.2.2)] :: Lr) ((d, .slice t.1 t.2.1 t.2.2) :: l) K) : T n c A L l (Step P ops Q ⟨some d, .call ⟨.builtin .append, #[x, y], #[t, tx']⟩, ty, pos, af, none⟩ K) := fun a w E H =>
  wl_append E H rfl hs hx hp ht htx hti hzs (by simpa [Nat.blt_eq] using hb) hfit hd (hsrc w) fun p m k w' a' E' H' => h (p, m, k) a' w' E' H'
theorem t_mk {α : Type} {t e : TypeId} {Kd : Kind α} {k : IntKind} {i : Int} {z0 : α} {zz : Value} {zc : List Value} {b : Nat} (hu : P.underlying t = some (.slice e)) (hti : TI P e zz Kd.n b) (hx : opv l x = some (.int k i)) (hy : opv l y = some (.int k i)) (hc : makes i b = true) (hz : zz.cells = zc.toArray) (hzl : zc.length = Kd.n) (hK : ∀ w Z, Kd.O w Z Nil z0 zc) (hd : Nat.blt d n = true)
    (h : ∀ t : Option Addr × Nat × Nat, T n c A ([row e Kd (List.replicate i.toNat z0) (.slice t.1 t.2.1 t.2.2)] :: L) ((d, .slice t.1 t.2.1 t.2.2) :: l) K) : T n c A L l (Step P ops Q ⟨some d, .makeSlice t x y, ty, pos, af, none⟩ K) := fun a w E H =>
  wl_make E H rfl hu hti hx hy hc hz hzl hK hd fun p m k w' a' E' H' => h (p, m, k) a' w' E' H'
/-- The zero of a kind: nil slices own nothing. -/
theorem k0 {α τ : Type} {f : α → τ → List Value} {No : α → τ → List (List SP)} {B : α → τ → List VP} {Kd : Kind α} (s : ShutsO Kd f No B) (x : α) (t : τ) (hN : ∀ w Z, Holds w Z (No x t) Nil) (hB : ∀ w Z, argHolds w (B x t) Z) : ∀ w Z, Kd.O w Z Nil x (f x t) := fun w Z => s (hN w Z) (hB w Z)
theorem hn0 {w : World} {Z : FP} : Holds w Z [] Nil := trivial
theorem hn1 {w : World} {Z : FP} {α : Type} {E : TypeId} {Kd : Kind α} {N : List (List SP)} (h : Holds w Z N Nil) : Holds w Z ([row E Kd ([] : List α) (.slice none 0 0)] :: N) Nil := ⟨Nil, Nil, fun _ h => h, fun _ h => h, fun _ h => h.elim, ⟨.inl ⟨⟨none, rfl⟩, rfl⟩, trivial⟩, h⟩
theorem t_bs {T' e : TypeId} {k m b : Nat} {parts : Array (Nat × Operand)} {ps : List (Nat × Value)} {cs : List Value} {zz : Value} (hu : P.underlying T' = some (.slice e)) (hti : TI P e zz m b) (hps : parts.toList.map (fun p => (p.1, opv l p.2)) = ps.map (fun p => (p.1, some p.2))) (hsm : Nat.ble (k * m) 16777216 = true)
    (hfill : Instr.fill (fun i => some (i * m, m)) ((Array.range (k * m)).map ((if k * m = 0 then #[] else zz.cells)[· % (if k * m = 0 then #[] else zz.cells).size]!)) ps = some cs.toArray) (hd : Nat.blt d n = true)
    (h : ∀ g, T n c A ([blk g cs e] :: L) ((d, .slice (some ⟨g, 0, none⟩) k k) :: l) K) : T n c A L l (Step P ops Q ⟨some d, .buildSlice T' k parts, ty, pos, af, none⟩ K) := fun a w E H =>
  wl_buildSlice E H rfl hu hti hps hsm hfill hd fun g w' a' E' H' => h g a' w' E' H'
theorem t_cutA {α : Type} {t e : TypeId} {lo hi : Option Operand} {Kd : Kind α} {xs : List α} {Et : TypeId} {p : Option Addr} {m k : Nat} {zz : Value} {b : Nat} {i j : Int} (hk : At A (vw (kSlice Et Kd) xs [.slice p m k])) (hu : P.underlying t = some (.slice e)) (hti : TI P e zz Kd.n b) (hx : opv l x = some (.slice p m k))
    (hlo : (lo = none ∧ i = 0) ∨ ∃ y k, lo = some y ∧ opv l y = some (.int k i)) (hhi : (hi = none ∧ j = xs.length) ∨ ∃ y k, hi = some y ∧ opv l y = some (.int k j)) (hc : cutOk xs i j) (hd : Nat.blt d n = true)
    (h : ∀ t : Option Addr × Nat × Nat, T n c (vw (kSlice Et Kd) (cut xs i j) [.slice t.1 t.2.1 t.2.2] :: A) L ((d, .slice t.1 t.2.1 t.2.2) :: l) K) : T n c A L l (Step P ops Q ⟨some d, .slice t x lo hi none, ty, pos, af, none⟩ K) := fun a w E H => by
  obtain ⟨_, hk⟩ := hk.get
  exact wl_cutA E H rfl hu hti hx hk hlo hhi hc hd fun p' m' k' a' E' H' => h (p', m', k') a' w E' H'
theorem t_cutL {α : Type} {t e : TypeId} {lo hi : Option Operand} {Kd : Kind α} {xs : List α} {Et : TypeId} {p : Option Addr} {m k : Nat} {zz : Value} {b : Nat} {i j : Int} (hL : Ext L [row Et Kd xs (.slice p m k)] Lr) (hu : P.underlying t = some (.slice e)) (hti : TI P e zz Kd.n b) (hx : opv l x = some (.slice p m k))
    (hlo : (lo = none ∧ i = 0) ∨ ∃ y k, lo = some y ∧ opv l y = some (.int k i)) (hhi : (hi = none ∧ j = xs.length) ∨ ∃ y k, hi = some y ∧ opv l y = some (.int k j)) (hc : cutOk xs i j) (hi0 : i = 0 ∨ i < j) (hd : Nat.blt d n = true)
    (h : ∀ t : Option Addr × Nat × Nat, T n c A ([row Et Kd (cut xs i j) (.slice t.1 t.2.1 t.2.2)] :: Lr) ((d, .slice t.1 t.2.1 t.2.2) :: l) K) : T n c A L l (Step P ops Q ⟨some d, .slice t x lo hi none, ty, pos, af, none⟩ K) := fun a w E H => by
  obtain ⟨_, hk, hs⟩ := hL.get
  exact wl_cutL E H rfl hu hti hx hk hlo hhi hc hi0 hd fun p' m' k' a' E' H' => h (p', m', k') a' w E' (H'.front1 (hs _))
/-- A nil slice is a row of the walk's own; a literal's block is one; what is owned is shared. -/
theorem t_nr {α : Type} (E : TypeId) (Kd : Kind α) (h : T n c A ([row E Kd [] (.slice none 0 0)] :: L) l κ) : T n c A L l κ := fun a w Ev H => h a w Ev (H.nilRow E Kd)
theorem t_tr {α : Type} {E : TypeId} {Kd : Kind α} {xs : List α} {g : Nat} {cs : List Value} {Ny : List (List SP)} (hp : Pick L ([blk g cs E] :: Ny) Lr) (hx : Nat.ble xs.length maxLen = true) (hE : ∀ w Z S, argHolds w A Z → Holds w Z Ny S → EO Kd w Z xs S cs) (h : T n c A ([row E Kd xs (.slice (some ⟨g, 0, none⟩) xs.length xs.length)] :: Lr) l κ) : T n c A L l κ := fun a w Ev H =>
  h a w Ev (H.toRow hp hx (hE w))
theorem t_sh {α : Type} {Kd : Kind α} {x : α} {cs : List Value} (hL : Ext L [ow Kd x cs] Lr) (h : T n c (vw Kd x cs :: A) Lr l κ) : T n c A L l κ := fun a w Ev H => h a w Ev (H.share (A' := [vw Kd x cs]) hL fun Z S1 h => ⟨Kd.OR h.1, trivial⟩)
/-- Lengths. -/
theorem r_lnA {e E : TypeId} {α : Type} {Kd : Kind α} {xs : List α} {p : Option Addr} {m k : Nat} (hk : At A (vw (kSlice E Kd) xs [.slice p m k])) (hu : P.underlying tx = some (.slice e)) (hx : opv l x = some (.slice p m k)) : RS P ⟨dd, .call ⟨.builtin .len, #[x], #[tx]⟩, ty, pos, af, gg⟩ n c A L l (.int .i64 xs.length) := fun a w Ev H => by
  obtain ⟨_, hk⟩ := hk.get
  obtain ⟨_, _, _, e0, _⟩ := H.readA hk
  simp only [List.cons.injEq, Value.slice.injEq, and_true] at e0
  rw [← e0.2.1]
  exact rn_len Ev rfl hu hx
theorem r_lnL {e E : TypeId} {α : Type} {Kd : Kind α} {xs : List α} {p : Option Addr} {m k : Nat} (hk : At L [row E Kd xs (.slice p m k)]) (hu : P.underlying tx = some (.slice e)) (hx : opv l x = some (.slice p m k)) : RS P ⟨dd, .call ⟨.builtin .len, #[x], #[tx]⟩, ty, pos, af, gg⟩ n c A L l (.int .i64 xs.length) := fun a w Ev H => by
  obtain ⟨_, hk⟩ := hk.get
  obtain ⟨_, _, _, e0, _⟩ := H.readL hk
  simp only [List.cons.injEq, Value.slice.injEq, and_true] at e0
  rw [← e0.2.1]
  exact rn_len Ev rfl hu hx
theorem r_lnH {e E : TypeId} {α : Type} {Kd : Kind α} {xs : List α} {p : Option Addr} {m k i : Nat} {cs : List Value} (hk : At L [hole E Kd xs i cs (.slice p m k)]) (hu : P.underlying tx = some (.slice e)) (hx : opv l x = some (.slice p m k)) : RS P ⟨dd, .call ⟨.builtin .len, #[x], #[tx]⟩, ty, pos, af, gg⟩ n c A L l (.int .i64 xs.length) := fun a w Ev H => by
  obtain ⟨_, hk⟩ := hk.get
  obtain ⟨_, _, g, off, _, _, _, _, _, e0, _⟩ := H.get (k := 0) hk rfl
  simp only [Value.slice.injEq] at e0
  rw [← e0.2.1]
  exact rn_len Ev rfl hu hx
/-- Of a literal or nil: the length stands there. -/
theorem r_ln0 {e : TypeId} {p : Option Addr} {m k : Nat} (hu : P.underlying tx = some (.slice e)) (hx : opv l x = some (.slice p m k)) : RP P ⟨dd, .call ⟨.builtin .len, #[x], #[tx]⟩, ty, pos, af, gg⟩ n l (.int .i64 m) := fun _ _ E => rn_len E rfl hu hx
/-- A slice that is nil has no elements. -/
theorem t_n0 {α : Type} {E : TypeId} {Kd : Kind α} {xs : List α} {m k : Nat} (hk : At A (vw (kSlice E Kd) xs [.slice none m k])) (h : xs = [] → T n c A L l κ) : T n c A L l κ := fun a w Ev H => let ⟨_, hk⟩ := hk.get; h (H.nilA hk) a w Ev H

/-! ### Calls by their contracts -/
theorem V0 {w : World} {Z : FP} : argHolds w [] Z := trivial
theorem V1 {w : World} {Z : FP} {a : VP} {A B : List VP} (ha : At A a) (hA : argHolds w A Z) (h : argHolds w B Z) : argHolds w (a :: B) Z := ⟨let ⟨_, hk⟩ := ha.get; argHolds_get hA hk, h⟩
theorem VN {w : World} {Z : FP} {α : Type} (E : TypeId) {Kd : Kind α} {B : List VP} (h : argHolds w B Z) : argHolds w (vw (kSlice E Kd) [] [.slice none 0 0] :: B) Z := ⟨nil_view E Kd w Z, h⟩
theorem t_ca {f : FuncId} {fn : Func} {cd : Code} {xs : Array Operand} {ts : Array TypeId} {args : List Value} {τ : Type} {v : τ → Value} {A' : τ → List VP} {N : τ → List (List SP)} (hf : FunG P f args.toArray Ac Lc v A' N) (hF : P.funcs[f]? = some fn) (hname : (fn.name == "runtime.NumGoroutine") = false) (hb : fn.body = some cd) (hx : opv l x = some (.func (.func f) #[] #[])) (hxs : xs.toList.map (opv l) = args.map some)
    (hp : Pick L Lc Lr) (hA : ∀ w Z, argHolds w A Z → argHolds w Ac Z) (hd : Nat.blt d n = true) (h : ∀ t, T n c (A' t ++ A) (N t ++ Lr) ((d, v t) :: l) K) : T n c A L l (Step P ops Q ⟨some d, .call ⟨.value x, xs, ts⟩, ty, pos, af, none⟩ K) := fun a w E H =>
  wl_funG E H rfl (rn_call E rfl hx hxs hF hname hb) hd hp (hA w) hf fun t w' a' E' H' => h t a' w' E' H'
/-- The same where the arguments lead to rows of the walk's own: F1 looks in what is left. -/
theorem F1 {w : World} {Z S : FP} {a : VP} {A B : List VP} (ha : At A a) (hA : argHolds w A Z) (h : argHolds w B (fun b => Z b ∨ S b)) : argHolds w (a :: B) (fun b => Z b ∨ S b) := ⟨let ⟨_, hk⟩ := ha.get; a.mono (fun _ h => .inl h) (argHolds_get hA hk), h⟩
theorem FL {w : World} {Z S : FP} {α : Type} {Kd : Kind α} {x : α} {cs : List Value} {B : List VP} (hk : At L [ow Kd x cs]) (hL : Holds w Z L S) (h : argHolds w B (fun b => Z b ∨ S b)) : argHolds w (vw Kd x cs :: B) (fun b => Z b ∨ S b) := ⟨let ⟨_, hk⟩ := hk.get; Holds_row hL hk, h⟩
theorem FN {w : World} {Z S : FP} {α : Type} (E : TypeId) {Kd : Kind α} {B : List VP} (h : argHolds w B (fun b => Z b ∨ S b)) : argHolds w (vw (kSlice E Kd) [] [.slice none 0 0] :: B) (fun b => Z b ∨ S b) := ⟨nil_view E Kd w _, h⟩
theorem F0 {w : World} {Z : FP} : argHolds w [] Z := trivial
theorem t_cf {f : FuncId} {fn : Func} {cd : Code} {xs : Array Operand} {ts : Array TypeId} {args : List Value} {τ : Type} {v : τ → Value} {N : τ → List (List SP)} (hf : FunG P f args.toArray Ac Lc v (fun _ => []) N) (hfl : ∀ t, Flat (N t)) (hF : P.funcs[f]? = some fn) (hname : (fn.name == "runtime.NumGoroutine") = false) (hb : fn.body = some cd) (hx : opv l x = some (.func (.func f) #[] #[])) (hxs : xs.toList.map (opv l) = args.map some)
    (hp : Pick L Lc Lr) (hA : ∀ w Z S, argHolds w A Z → Holds w Z Lr S → argHolds w Ac (fun b => Z b ∨ S b)) (hd : Nat.blt d n = true) (h : ∀ t, T n c A (N t ++ Lr) ((d, v t) :: l) K) : T n c A L l (Step P ops Q ⟨some d, .call ⟨.value x, xs, ts⟩, ty, pos, af, none⟩ K) := fun a w E H =>
  wl_funF E H rfl (rn_call E rfl hx hxs hF hname hb) hd hp (hA w) hf hfl fun t w' a' E' H' => h t a' w' E' H'

/-! ### Regions whose order is drawn -/
section
variable {S : World → Prop} {D Lo : List Nat} {fuel i j k : Nat} {listed : Array Bool} {o oi oj ok : Oper}
theorem t_draw {id m : Nat} (hm : P.follows .mixedOrders = true) (S : World → Prop) (D Lo : List Nat) (hn : ops.size = m) (h : T n c A L l (wpAnyJ P ops Q S D Lo m (Array.replicate m false))) : T n c A L l ((Code.region id ops true).wp P Q) := fun a w E H => wa_begin hm S D Lo H hn fun w' H' => h a w' E H'
theorem q_p (i : Nat) (hQ : PanicOk Q) (hi : ops[i]? = some ⟨some d, op, ty, pos, af, gg⟩) (hD : takes ops Lo listed i = true) (hw : ∀ a, Env n a l → Wanted ops a ⟨some d, op, ty, pos, af, gg⟩) (r : RP P ⟨some d, op, ty, pos, af, gg⟩ n l v) (hd : Nat.blt d n = true) (h : T n c A L ((d, v) :: l) (wpAnyJ P ops Q S D Lo fuel (listed.setIfInBounds i true))) : T n c A L l (wpAnyJ P ops Q S D Lo (fuel + 1) listed) := fun a w E H =>
  wa_take E hi hD hQ (hw a E) (fun w => r a w E) hd fun a' E' => h a' w E' H
theorem q_u (i : Nat) (hQ : PanicOk Q) (hi : ops[i]? = some ⟨some d, op, ty, pos, af, gg⟩) (hD : takes ops Lo listed i = true) (hw : ∀ a, Env n a l → Wanted ops a ⟨some d, op, ty, pos, af, gg⟩) (hU : Lo.all (fun j => anc ops ops.size j i) = true) (r : RS P ⟨some d, op, ty, pos, af, gg⟩ n c A L l v) (hd : Nat.blt d n = true) (h : T n c A L ((d, v) :: l) (wpAnyJ P ops Q S D Lo fuel (listed.setIfInBounds i true))) : T n c A L l (wpAnyJ P ops Q S D Lo (fuel + 1) listed) := fun a w E H =>
  wa_takeU E hi hD hU hQ (hw a E) (r a w E H) hd fun a' E' => h a' w E' H
theorem W0 : ∀ a, Env n a l → Wanted ops a ⟨some d, op, ty, pos, af, none⟩ := fun _ _ => rfl
theorem WG {jj t : Nat} {b e : Bool} (hj : (ops[jj]?).bind (·.dst) = some t) (ht : lk l t = some (.bool e)) (hb : e = b) : ∀ a, Env n a l → Wanted ops a ⟨some d, op, ty, pos, af, some (jj, b)⟩ := fun _ E => E.wantedB rfl hj ht hb
/-- What S tells of a block. -/
def Bk (g : Nat) (cs : List Value) (w : World) : Prop := ∃ T', ∃ Z S, (blk g cs T').holds w Z S
theorem bk {g : Nat} {cs : List Value} {T' : TypeId} (hL : At L [blk g cs T']) {w : World} (H : St c.w0 c.M c.Y w A L) : Bk g cs w := let ⟨_, hi⟩ := hL.get; ⟨T', H.get (k := 0) hi rfl⟩
def RB (P : Program) (o : Oper) (n : Nat) (l : List (Nat × Value)) (S : World → Prop) (v : Value) : Prop := ∀ a w, Env n a l → S w → (execOp a.eval o).run P w = .ok (.value v) w
theorem b_ld {g off : Nat} {df : TypeDesc} {cs : List Value} (hS : ∀ w, S w → Bk g cs w) (hu : P.underlying tx = some df) (hag : aggD df = false) (hx : opv l x = some (.pointer (some ⟨g, off, none⟩))) (hv : cs[off]? = some v) : RB P ⟨dd, .load tx x, ty, pos, af, gg⟩ n l S v := fun _ w E h =>
  let ⟨_, hb⟩ := hS w h; rn_load1 E rfl hu hag hx hb hv
theorem b_ldN {g off : Nat} {df : TypeDesc} {zz : Value} {m b : Nat} {cs vs : List Value} (hS : ∀ w, S w → Bk g cs w) (hu : P.underlying tx = some df) (hag : aggD df = true) (hti : TI P tx zz m b) (hx : opv l x = some (.pointer (some ⟨g, off, none⟩))) (hv : Seg cs off m vs) : RB P ⟨dd, .load tx x, ty, pos, af, gg⟩ n l S (.agg vs.toArray) := fun _ w E h =>
  let ⟨_, hb⟩ := hS w h; rn_loadN E rfl hu hag hti hx hb hv.eq.2 hv.eq.1
theorem q_s (i : Nat) (hQ : PanicOk Q) (hi : ops[i]? = some ⟨some d, op, ty, pos, af, gg⟩) (hD : takes ops Lo listed i = true) (hw : ∀ a, Env n a l → Wanted ops a ⟨some d, op, ty, pos, af, gg⟩) (hiD : D.contains i = true) (hS : ∀ w, St c.w0 c.M c.Y w A L → S w) (r : RB P ⟨some d, op, ty, pos, af, gg⟩ n l S v) (hd : Nat.blt d n = true) (h : T n c A L ((d, v) :: l) (wpAnyJ P ops Q S D Lo fuel (listed.setIfInBounds i true))) : T n c A L l (wpAnyJ P ops Q S D Lo (fuel + 1) listed) := fun a w E H =>
  wa_takeS E hi hD hiD hQ (hw a E) (fun w' h => r a w' E h) (hS w H) hd fun a' E' => h a' w E' H
theorem q_x (i : Nat) {jj t : Nat} {b e : Bool} (hQ : PanicOk Q) (hi : ops[i]? = some ⟨some d, op, ty, pos, af, some (jj, b)⟩) (hD : takes ops Lo listed i = true) (hj : (ops[jj]?).bind (·.dst) = some t) (ht : lk l t = some (.bool e)) (hb : e = !b) (hd : Nat.blt d n = true) (h : T n c A L ((d, undef) :: l) (wpAnyJ P ops Q S D Lo fuel (listed.setIfInBounds i true))) : T n c A L l (wpAnyJ P ops Q S D Lo (fuel + 1) listed) := fun a w E H =>
  wa_pass E hi hD hQ (E.unwanted rfl hj ht hb) hd fun a' E' => h a' w E' H
theorem q_xU (i : Nat) {jj t : Nat} {b : Bool} (hQ : PanicOk Q) (hi : ops[i]? = some ⟨some d, op, ty, pos, af, some (jj, b)⟩) (hD : takes ops Lo listed i = true) (hj : (ops[jj]?).bind (·.dst) = some t) (ht : lk l t = some undef) (hd : Nat.blt d n = true) (h : T n c A L ((d, undef) :: l) (wpAnyJ P ops Q S D Lo fuel (listed.setIfInBounds i true))) : T n c A L l (wpAnyJ P ops Q S D Lo (fuel + 1) listed) := fun a w E H =>
  wa_pass E hi hD hQ (E.unwanted0 rfl hj ht) hd fun a' E' => h a' w E' H
theorem d1 (i : Nat) (hi : ops[i]? = some o) (hL : Lo.contains i = true) (hr : Region.ready .any ops listed = [i]) (h : T n c A L l (Step P ops Q o (fun a' w' => (needs ops D i = true → S w') ∧ wpAnyJ P ops Q S D Lo fuel (listed.setIfInBounds i true) a' w'))) : T n c A L l (wpAnyJ P ops Q S D Lo (fuel + 1) listed) := fun a w E H => wa_only hi hL hr (h a w E H)
theorem d2 (i j : Nat) (hi : ops[i]? = some oi) (hj : ops[j]? = some oj) (hL : (Lo.contains i && Lo.contains j) = true) (hr : Region.ready .any ops listed = [i, j])
    (h1 : T n c A L l (Step P ops Q oi (fun a' w' => (needs ops D i = true → S w') ∧ wpAnyJ P ops Q S D Lo fuel (listed.setIfInBounds i true) a' w')))
    (h2 : T n c A L l (Step P ops Q oj (fun a' w' => (needs ops D j = true → S w') ∧ wpAnyJ P ops Q S D Lo fuel (listed.setIfInBounds j true) a' w'))) : T n c A L l (wpAnyJ P ops Q S D Lo (fuel + 1) listed) := fun a w E H => wa_two hi hj hL hr (h1 a w E H) (h2 a w E H)
theorem d3 (i j k : Nat) (hi : ops[i]? = some oi) (hj : ops[j]? = some oj) (hk : ops[k]? = some ok) (hL : (Lo.contains i && Lo.contains j && Lo.contains k) = true) (hr : Region.ready .any ops listed = [i, j, k])
    (h1 : T n c A L l (Step P ops Q oi (fun a' w' => (needs ops D i = true → S w') ∧ wpAnyJ P ops Q S D Lo fuel (listed.setIfInBounds i true) a' w')))
    (h2 : T n c A L l (Step P ops Q oj (fun a' w' => (needs ops D j = true → S w') ∧ wpAnyJ P ops Q S D Lo fuel (listed.setIfInBounds j true) a' w')))
    (h3 : T n c A L l (Step P ops Q ok (fun a' w' => (needs ops D k = true → S w') ∧ wpAnyJ P ops Q S D Lo fuel (listed.setIfInBounds k true) a' w'))) : T n c A L l (wpAnyJ P ops Q S D Lo (fuel + 1) listed) := fun a w E H => wa_three hi hj hk hL hr (h1 a w E H) (h2 a w E H) (h3 a w E H)
theorem dn (hs : needs ops D i = false) (h : T n c A L l (wpAnyJ P ops Q S D Lo fuel listed)) : T n c A L l (fun a' w' => (needs ops D i = true → S w') ∧ wpAnyJ P ops Q S D Lo fuel listed a' w') := fun a w E H => ⟨fun h => (needs_no hs h).elim, h a w E H⟩
theorem dk (hs : ∀ w, St c.w0 c.M c.Y w A L → S w) (h : T n c A L l (wpAnyJ P ops Q S D Lo fuel listed)) : T n c A L l (fun a' w' => (needs ops D i = true → S w') ∧ wpAnyJ P ops Q S D Lo fuel listed a' w') := fun a w E H => ⟨fun _ => hs w H, h a w E H⟩
theorem dz (hr : Region.ready .any ops listed = []) (h : T n c A L l (Q .normal)) : T n c A L l (wpAnyJ P ops Q S D Lo fuel listed) := fun a w E H => wa_done hr (h a w E H)
end
end
end Go.Gx
