/- Tests, loops, the begin and the end of a function's walk; what is made; cuts of slices. -/
import Derived.Test.YtgcigcbhilcgoaaDoorHMore
namespace Go.Gx
open Go.RowKit
section
variable {P : Program} {ops : Array Oper} {rest : List Oper} {Q : Exit → Act → World → Prop} {κ : Act → World → Prop} {a : Act} {w w0 w' : World} {n : Nat} {l : List (Nat × Value)} {M Y : FP} {A A' Ac : List VP} {L L' : List (List SP)}
  {d : Nat} {op : Op} {ty : TypeId} {pos : String} {af : Array Edge} {gd : Option (Nat × Bool)} {v : Value}

/-! ### Code -/
theorem wc_cond {c : Operand} {x y : Code} {b : Bool} (E : Env n a l) (hc : opv l c = some (.bool b)) (ht : b = true → x.wp P Q a w) (hf : b = false → y.wp P Q a w) : (Code.cond c x y).wp P Q a w :=
  wp_cond_split (E.eval hc) ht hf
theorem wc_true {c : Operand} {x y : Code} (E : Env n a l) (hc : opv l c = some (.bool true)) (ht : x.wp P Q a w) : (Code.cond c x y).wp P Q a w := wp_cond_true (E.eval hc) ht
theorem wc_false {c : Operand} {x y : Code} (E : Env n a l) (hc : opv l c = some (.bool false)) (hf : y.wp P Q a w) : (Code.cond c x y).wp P Q a w := wp_cond_false (E.eval hc) hf
theorem wc_T {c : Operand} {x y : Code} {b : Bool} (E : Env n a l) (hc : opv l c = some (.bool b)) (hb : b = true) (ht : x.wp P Q a w) : (Code.cond c x y).wp P Q a w := by subst hb; exact wc_true E hc ht
theorem wc_F {c : Operand} {x y : Code} {b : Bool} (E : Env n a l) (hc : opv l c = some (.bool b)) (hb : b = false) (hf : y.wp P Q a w) : (Code.cond c x y).wp P Q a w := by subst hb; exact wc_false E hc hf
theorem then_normal {K : Act → World → Prop} (h : K a w) : Exit.then K Q .normal a w := h
theorem then_exit {K : Act → World → Prop} {id : Nat} (h : Q (.exit id) a w) : Exit.then K Q (.exit id) a w := h
theorem then_ret {K : Act → World → Prop} (h : Q .ret a w) : Exit.then K Q .ret a w := h
theorem block_normal {id : Nat} (h : Q .normal a w) : Exit.inBlock id Q .normal a w := h
theorem block_ret {id : Nat} (h : Q .ret a w) : Exit.inBlock id Q .ret a w := h
theorem block_exit {id : Nat} (h : Q .normal a w) : Exit.inBlock id Q (.exit id) a w := by simp only [Exit.inBlock, if_true]; exact h
theorem block_other {id id' : Nat} (hne : Nat.beq id' id = false) (h : Q (.exit id') a w) : Exit.inBlock id Q (.exit id') a w := by
  have : id' ≠ id := fun e => by subst e; simp at hne
  simp only [Exit.inBlock, if_neg this]; exact h
/-- The plain function's tests and steps. -/
theorem bs {α β : Type} {x : Option α} {f : α → Option β} {r : β} (h : x.bind f = some r) : ∃ y, x = some y ∧ f y = some r := Option.bind_eq_some_iff.1 h
theorem itT {α : Type} {b : Bool} {x y : Option α} {r : α} (hb : b = true) (h : (if b = true then x else y) = some r) : x = some r := by rwa [if_pos hb] at h
theorem itF {α : Type} {b : Bool} {x y : Option α} {r : α} (hb : b = false) (h : (if b = true then x else y) = some r) : y = some r := by rwa [if_neg (by simp [hb])] at h
/-- A check of the plain function: none where it fails. -/
def ck {α : Type} (c : Prop) [Decidable c] (x : Option α) : Option α := if c then x else none
theorem ck_out {α : Type} {c : Prop} [Decidable c] {x : Option α} {r : α} (h : ck c x = some r) : c ∧ x = some r := by
  unfold ck at h
  split at h
  · exact ⟨‹_›, h⟩
  · cases h
def allLk (l : List (Nat × Value)) : List (Nat × Value) → Prop
  | [] => True
  | p :: r => lk l p.1 = some p.2 ∧ allLk l r
theorem Env.pick (E : Env n a l) {l' : List (Nat × Value)} (h : allLk l l') : Env n a l' := by
  refine E.sub ?_
  induction l' with
  | nil => intro p hp; cases hp
  | cons q r ih =>
    intro p hp
    rcases List.mem_cons.1 hp with rfl | hp
    · exact h.1
    · exact ih h.2 p hp
theorem St.front {N : List (List SP)} (H : St w0 M Y w A (L ++ N)) : St w0 M Y w A L := by
  obtain ⟨hc, Z, S, h1, h2, h3⟩ := H
  refine ⟨hc, Z, S, h1, ?_, h3⟩
  clear h3
  induction L generalizing S with
  | nil => trivial
  | cons I L ih =>
    obtain ⟨S1, S2, e1, e2, ed, k1, k2⟩ := h2
    exact ⟨S1, S2, e1, e2, ed, k1, ih S2 k2⟩
theorem St.sel (H : St w0 M Y w A L) (f : ∀ Z, argHolds w A Z → argHolds w A' Z) : St w0 M Y w A' L := by
  obtain ⟨hc, Z, S, h1, h2⟩ := H
  exact ⟨hc, Z, S, f Z h1, h2⟩
theorem Holds_row {α : Type} {K : Kind α} {x : α} {cs : List Value} {I : List SP} {i : Nat} {Z S : FP} (h : Holds w Z L S) (hi : L[i]? = some (ow K x cs :: I)) : K.R w (fun b => Z b ∨ S b) x cs := by
  obtain ⟨S1, _, h1, _, _, ⟨hR, _⟩, _⟩ := Holds_get h hi
  exact K.monoR (fun b hb => hb.imp id (h1 b)) (K.OR hR)
theorem nil_view {α : Type} (E : TypeId) (K : Kind α) (w : World) (Z : FP) : (kSlice E K).R w Z ([] : List α) [.slice none 0 0] := ⟨none, 0, rfl, Nat.le_refl _, Nat.zero_le _, fun _ => rfl, fun h => absurd rfl h⟩
/-- In the loop, ahead of a round. -/
def LoopW (P : Program) (c : Code) (Q : Exit → Act → World → Prop) (a : Act) (w : World) : Prop :=
  ∀ (b : Frame) (k : List Item) (cs : List Frame), ∃ e a' w', Q e a' w' ∧ Arrives P (lone (b.at a (.code c :: .inLoop c :: k)) cs w) b k cs e a' w'
theorem wp_of_loopW {c : Code} (h : LoopW P c Q a w) : (Code.loop c).wp P Q a w := fun b k cs =>
  let ⟨e, a', w', hq, harr⟩ := h b k cs
  ⟨e, a', w', hq, .of_steps (.one step_loop) harr⟩
theorem loopW_round {c : Code} (h : c.wp P (Exit.then (LoopW P c Q) Q) a w) : LoopW P c Q a w := by
  intro b k cs
  obtain ⟨e, a₁, w₁, hq, harr⟩ := h b (.inLoop c :: k) cs
  cases e with
  | normal =>
    obtain ⟨e₂, a₂, w₂, hq₂, harr₂⟩ := hq b k cs
    exact ⟨e₂, a₂, w₂, hq₂, .of_steps (Steps.trans harr (.one step_inLoop)) harr₂⟩
  | exit id => exact ⟨_, a₁, w₁, hq, .pass (x := .inLoop c) rfl (fun _ _ => .inl (by simp)) harr⟩
  | goto l => exact ⟨_, a₁, w₁, hq, .pass (x := .inLoop c) rfl (fun _ _ => .inl (by simp)) harr⟩
  | ret => exact ⟨_, a₁, w₁, hq, .pass (x := .inLoop c) rfl (fun _ _ => .inl (by simp)) harr⟩
  | panic ch => exact ⟨_, a₁, w₁, hq, .pass (x := .inLoop c) rfl (fun _ _ => .inl (by simp)) harr⟩
  | outgrown => exact ⟨_, a₁, w₁, hq, .pass (x := .inLoop c) rfl (fun _ _ => .inl (by simp)) harr⟩

/-! ### The begin -/
def enumA : Nat → List Value → List (Nat × Value)
  | _, [] => []
  | i, v :: r => (i, v) :: enumA (i + 1) r
theorem lk_enumA : ∀ (r : List Value) (i j : Nat) (v : Value), lk (enumA i r) j = some v → i ≤ j ∧ r[j - i]? = some v
  | [], _, _, _, h => by simp [enumA, lk] at h
  | u :: r, i, j, v, h => by
    simp only [enumA, lk] at h
    cases hb : Nat.beq i j with
    | true =>
      rw [hb] at h
      obtain rfl := Nat.eq_of_beq_eq_true hb
      exact ⟨Nat.le_refl _, by simpa using h⟩
    | false =>
      rw [hb] at h
      obtain ⟨h1, h2⟩ := lk_enumA r (i + 1) j v (by simpa using h)
      refine ⟨by omega, ?_⟩
      rw [show j - i = (j - (i + 1)) + 1 by omega]
      simpa using h2
theorem Env.init {fn : Func} {args : List Value} (hn : fn.ntmps = n) (hle : Nat.ble args.length n = true) : Env n ({ tmps := args.toArray ++ Array.replicate (fn.ntmps - args.toArray.size) undef, defers := [] } : Act) (enumA 0 args) := by
  have hle' := Nat.le_of_ble_eq_true hle
  refine ⟨by simp [hn]; omega, rfl, fun i v h => ?_⟩
  obtain ⟨_, h2⟩ := lk_enumA args 0 i v h
  have h3 : args[i]? = some v := by simpa using h2
  have hlt : i < args.length := (List.getElem?_eq_some_iff.1 h3).1
  rw [Array.getElem?_append_left (by simpa using hlt)]
  simpa using h3
theorem funG_begin {f : FuncId} {fn : Func} {c : Code} {args : List Value} {Lc : List (List SP)} {τ : Type} {v : τ → Value} {A' : τ → List VP} {N : τ → List (List SP)} (hf : P.funcs[f]? = some fn) (hb : fn.body = some c) (hn : fn.ntmps = n) (hle : Nat.ble args.length n = true)
    (h : ∀ w Z S a, Env n a (enumA 0 args) → St w S Z w Ac Lc → c.wp P (bodyPost P fn fun e w2 => ∃ t, e = .returned (v t) ∧ PostG w w2 S Z (A' t) (N t)) a w) : FunG P f args.toArray Ac Lc v A' N := by
  intro w Z S hZ hS hZS hA hL
  exact calls_of_wp hf hb (h w Z S _ (Env.init hn hle) ⟨Chg.refl _ _, Z, S, hA, hL, hZS, hZ, fun b hb => ⟨hS b hb, .inr hb⟩, fun b hb => .inl hb⟩)

/-! ### The end -/
def rvSem (tmps : Array Value) : ResultVar → Sem Value
  | .tmp t => pure (tmps.getD t undef)
  | .cell x t => do loadVar t (← asAddr (tmps.getD x undef))
abbrev RV (P : Program) (w : World) (a : Act) (r : ResultVar) (v : Value) : Prop := (rvSem a.tmps r).run P w = .ok v w
theorem rv_tmp (E : Env n a l) {t : Nat} (h : lk l t = some v) : RV P w a (.tmp t) v := by
  simp [RV, rvSem, E.get t v h]
theorem rv_cell1 (E : Env n a l) {x T g : Nat} {df : TypeDesc} {cs : List Value} {T' : TypeId} (hx : lk l x = some (.pointer (some ⟨g, 0, none⟩))) (hu : P.underlying T = some df) (hag : aggD df = false) (hb : ∃ Z S, (blk g cs T').holds w Z S) (hv : cs[0]? = some v) : RV P w a (.cell x T) v := by
  simp [RV, rvSem, E.get x _ hx, asAddr, loadVar, run_isAgg hu, hag, blk_cell hb hv]
theorem rv_cellN (E : Env n a l) {x T g m b : Nat} {df : TypeDesc} {z : Value} {cs : List Value} {T' : TypeId} (hx : lk l x = some (.pointer (some ⟨g, 0, none⟩))) (hu : P.underlying T = some df) (hag : aggD df = true) (hti : TI P T z m b) (hb : ∃ Z S, (blk g cs T').holds w Z S) (hm : cs.length = m) : RV P w a (.cell x T) (.agg cs.toArray) := by
  have := run_load_cells (P := P) (w := w) g 0 cs fun j v hj => by rw [Nat.zero_add]; exact blk_cell hb hj
  rw [hm] at this
  simp [RV, rvSem, E.get x _ hx, asAddr, loadVar, run_isAgg hu, hag, hti.sizeOf, this]
theorem results_eq (fn : Func) (tmps : Array Value) : results fn tmps = (do let vs ← fn.results.mapM (rvSem tmps); pure (if h : vs.size = 1 then vs[0] else .tuple vs)) := by
  unfold results
  congr 1
theorem wb_ret0 {fn : Func} {R : Ending → World → Prop} (E : Env n a l) (hrs : fn.results = #[]) (h : R (.returned (.tuple #[])) w) : bodyPost P fn R .ret a w :=
  ⟨E.defers, .tuple #[], by rw [results_eq, hrs]; simp, h⟩
theorem wb_end0 {fn : Func} {R : Ending → World → Prop} (E : Env n a l) (hrs : fn.results = #[]) (h : R (.returned (.tuple #[])) w) : bodyPost P fn R .normal a w :=
  ⟨E.defers, .tuple #[], by rw [results_eq, hrs]; simp, h⟩
theorem wb_ret1 {fn : Func} {R : Ending → World → Prop} {r1 : ResultVar} {v1 : Value} (E : Env n a l) (hrs : fn.results = #[r1]) (h1 : RV P w a r1 v1) (h : R (.returned v1) w) : bodyPost P fn R .ret a w :=
  ⟨E.defers, v1, by rw [results_eq, hrs]; simp [RV] at h1; simp [h1], h⟩
theorem wb_ret2 {fn : Func} {R : Ending → World → Prop} {r1 r2 : ResultVar} {v1 v2 : Value} (E : Env n a l) (hrs : fn.results = #[r1, r2]) (h1 : RV P w a r1 v1) (h2 : RV P w a r2 v2) (h : R (.returned (.tuple #[v1, v2])) w) : bodyPost P fn R .ret a w :=
  ⟨E.defers, .tuple #[v1, v2], by rw [results_eq, hrs]; simp [RV] at h1 h2; simp [h1, h2], h⟩
theorem wb_ret3 {fn : Func} {R : Ending → World → Prop} {r1 r2 r3 : ResultVar} {v1 v2 v3 : Value} (E : Env n a l) (hrs : fn.results = #[r1, r2, r3]) (h1 : RV P w a r1 v1) (h2 : RV P w a r2 v2) (h3 : RV P w a r3 v3) (h : R (.returned (.tuple #[v1, v2, v3])) w) : bodyPost P fn R .ret a w :=
  ⟨E.defers, .tuple #[v1, v2, v3], by rw [results_eq, hrs]; simp [RV] at h1 h2 h3; simp [h1, h2, h3], h⟩
theorem wb_ret4 {fn : Func} {R : Ending → World → Prop} {r1 r2 r3 r4 : ResultVar} {v1 v2 v3 v4 : Value} (E : Env n a l) (hrs : fn.results = #[r1, r2, r3, r4]) (h1 : RV P w a r1 v1) (h2 : RV P w a r2 v2) (h3 : RV P w a r3 v3) (h4 : RV P w a r4 v4) (h : R (.returned (.tuple #[v1, v2, v3, v4])) w) : bodyPost P fn R .ret a w :=
  ⟨E.defers, .tuple #[v1, v2, v3, v4], by rw [results_eq, hrs]; simp [RV] at h1 h2 h3 h4; simp [h1, h2, h3, h4], h⟩

/-! ### Literals and what is made -/
theorem wl_buildSlice {T e : TypeId} {k m b : Nat} {parts : Array (Nat × Operand)} {ps : List (Nat × Value)} {cs : List Value} {z : Value} (E : Env n a l) (H : St w0 M Y w A L) (hw : Wanted ops a ⟨some d, .buildSlice T k parts, ty, pos, af, gd⟩) (hu : P.underlying T = some (.slice e)) (hti : TI P e z m b)
    (hps : parts.toList.map (fun p => (p.1, opv l p.2)) = ps.map (fun p => (p.1, some p.2))) (hsm : Nat.ble (k * m) 16777216 = true)
    (hfill : Instr.fill (fun i => some (i * m, m)) ((Array.range (k * m)).map ((if k * m = 0 then #[] else z.cells)[· % (if k * m = 0 then #[] else z.cells).size]!)) ps = some cs.toArray) (hd : Nat.blt d n = true)
    (h : ∀ g w' a', Env n a' ((d, .slice (some ⟨g, 0, none⟩) k k) :: l) → St w0 M Y w' A ([blk g cs e] :: L) → κ a' w') : Step P ops Q ⟨some d, .buildSlice T k parts, ty, pos, af, gd⟩ κ a w := by
  have e1 : parts.map (fun x => (x.1, a.eval x.2)) = ps.toArray := by
    apply Array.ext'
    rw [Array.toList_map]
    have : ∀ (ys : List (Nat × Operand)) (zs : List (Nat × Value)), ys.map (fun p => (p.1, opv l p.2)) = zs.map (fun p => (p.1, some p.2)) → ys.map (fun p => (p.1, a.eval p.2)) = zs := by
      intro ys
      induction ys with
      | nil => intro zs h; cases zs with | nil => rfl | cons _ _ => simp at h
      | cons y ys ih =>
        intro zs h
        cases zs with
        | nil => simp at h
        | cons z zs =>
          simp only [List.map_cons, List.cons.injEq, Prod.mk.injEq] at h
          rw [List.map_cons, ih zs h.2, h.1.1, E.eval h.1.2]
    exact this _ _ hps
  have hsm' : ¬ (k * m > 2 ^ 24) := by have := Nat.le_of_ble_eq_true hsm; omega
  refine wl_val (v := .slice (some ⟨w.heap.size, 0, none⟩) k k) (w' := w.alloc (.cells cs.toArray e)) E hw ?_ hd fun a' E' => h w.heap.size _ a' E' (H.news (Chg.alloc _ _ _) (blk_new cs e w))
  by_cases hk : k * m = 0
  · rw [if_pos hk] at hfill
    simp only [execOp, Instr.buildSlice, e1, Sem.run_bind, run_underlying hu, Result.andThen_ok, hti.sizeOf, Sem.run_ite, if_neg hsm', Sem.run_pure, if_pos hk, hfill, newRow, run_newObj, World.alloc_eq]
  · rw [if_neg hk] at hfill
    simp only [execOp, Instr.buildSlice, e1, Sem.run_bind, run_underlying hu, Result.andThen_ok, hti.sizeOf, Sem.run_ite, if_neg hsm', Sem.run_pure, if_neg hk, hti.zeroValue, hfill, newRow, run_newObj, World.alloc_eq]
/-- A literal's block is a row, with what its elements own. -/
theorem St.toRow {α : Type} {E : TypeId} {K : Kind α} {xs : List α} {g : Nat} {cs : List Value} {N Lr : List (List SP)} (H : St w0 M Y w A L) (hp : Pick L ([blk g cs E] :: N) Lr) (hx : Nat.ble xs.length maxLen = true) (hE : ∀ Z S, argHolds w A Z → Holds w Z N S → EO K w Z xs S cs) :
    St w0 M Y w A ([row E K xs (.slice (some ⟨g, 0, none⟩) xs.length xs.length)] :: Lr) :=
  H.melt (N := [_]) hp fun Z S hZS hA ⟨S1, S2, g1, g2, gd, ⟨⟨hg, hh⟩, _⟩, k2⟩ => ⟨S, Nil, fun _ h => h, fun _ h => h.elim, fun _ _ h => h.elim, ⟨.inr ⟨g, 0, xs.length, [], cs, [], rfl, g1 _ hg, by simpa using hh, rfl, Nat.le_refl _, by simp, Nat.le_of_ble_eq_true hx, S2, g2, gd g hg, hE Z S2 hA k2⟩, trivial⟩, trivial⟩
/-- The part of a list from i to j. -/
def cut {α : Type} (xs : List α) (i j : Int) : List α := (xs.take j.toNat).drop i.toNat
def cutOk {α : Type} (xs : List α) (i j : Int) : Prop := 0 ≤ i ∧ i ≤ j ∧ j ≤ xs.length
instance {α : Type} (xs : List α) (i j : Int) : Decidable (cutOk xs i j) := by unfold cutOk; infer_instance
theorem cut_length {α : Type} {xs : List α} {i j : Int} (h : cutOk xs i j) : (cut xs i j).length = j.toNat - i.toNat := by
  obtain ⟨_, _, h3⟩ := h
  unfold cut
  rw [List.length_drop, List.length_take]
  omega
/-- What a cut of a slice reads. -/
theorem sliceR_cut {α : Type} {K : Kind α} {xs : List α} {p : Option Addr} {m c : Nat} {Z : FP} {i j : Int} (h : sliceR K w Z xs [.slice p m c]) (hc : cutOk xs i j) :
    sliceR K w Z (cut xs i j) [.slice (if c = i.toNat then p else p.map (·.add (i.toNat * K.n))) (j.toNat - i.toNat) (c - i.toNat)] := by
  have hlen := cut_length hc
  obtain ⟨p', cap, e, hl, hm, hn, hh⟩ := h
  simp only [List.cons.injEq, Value.slice.injEq, and_true] at e
  obtain ⟨rfl, rfl, rfl⟩ := e
  obtain ⟨h0, h1, h2⟩ := hc
  refine ⟨_, _, by rw [hlen], by rw [hlen]; omega, by omega, fun h => ?_, fun hx => ?_⟩
  · split at h
    · omega
    · have := hn (by simpa using h); omega
  · have hxs : xs ≠ [] := by rintro rfl; exact hx (by simp [cut])
    have hne : (cut xs i j).length ≠ 0 := fun h => hx (List.eq_nil_of_length_eq_zero h)
    obtain ⟨g, off, pre, el, post, T, fr, rfl, hg, hb, hpre, hE⟩ := hh hxs
    have hsp : xs = xs.take i.toNat ++ (cut xs i j ++ xs.drop j.toNat) := by
      have e1 : cut xs i j ++ xs.drop j.toNat = xs.drop i.toNat := by
        unfold cut
        have : xs.drop i.toNat = (xs.take j.toNat ++ xs.drop j.toNat).drop i.toNat := by rw [List.take_append_drop]
        rw [this, List.drop_append_of_le_length (by rw [List.length_take]; omega)]
      rw [e1, List.take_append_drop]
    rw [hsp] at hE
    obtain ⟨c1, c2, rfl, k1, k2⟩ := ER_split hE
    obtain ⟨c3, c4, rfl, k3, k4⟩ := ER_split k2
    have hl1 := ER_len k1
    have htl : (xs.take i.toNat).length = i.toNat := by rw [List.length_take]; omega
    refine ⟨g, off + i.toNat * K.n, pre ++ c1, c3, c4 ++ post, T, fr, ?_, hg, by rw [hb]; simp [List.append_assoc], by rw [List.length_append, hl1, htl]; omega, k3⟩
    rw [if_neg (by omega)]
    simp [addr_add]
theorem rowH_cut {α : Type} {E : TypeId} {K : Kind α} {xs : List α} {p : Option Addr} {m c : Nat} {Z S : FP} {i j : Int} (h : rowH E K xs (.slice p m c) w Z S) (hc : cutOk xs i j) (hi0 : i = 0 ∨ (c : Int) ≠ i) :
    rowH E K (cut xs i j) (.slice (if c = i.toNat then p else p.map (·.add (i.toNat * K.n))) (j.toNat - i.toNat) (c - i.toNat)) w Z S := by
  have hlen := cut_length hc
  obtain ⟨h0, h1, h2⟩ := hc
  rcases h with ⟨⟨p', e⟩, rfl⟩ | ⟨g, off, cap, pre, el, post, e, hg, hh, ho, hl, hp, hm, S', hs1, hs2, hE⟩
  · simp only [List.cons.injEq, Value.slice.injEq, and_true] at e
    obtain ⟨rfl, rfl, rfl⟩ := e
    simp only [List.length_nil] at h2
    have hj : j = 0 := by omega
    have hi : i = 0 := by omega
    subst hj hi
    exact .inl ⟨⟨p, by simp⟩, by simp [cut]⟩
  · simp only [List.cons.injEq, Value.slice.injEq, and_true] at e
    obtain ⟨rfl, rfl, rfl⟩ := e
    have hsp : xs = xs.take i.toNat ++ (cut xs i j ++ xs.drop j.toNat) := by
      have e1 : cut xs i j ++ xs.drop j.toNat = xs.drop i.toNat := by
        unfold cut
        have : xs.drop i.toNat = (xs.take j.toNat ++ xs.drop j.toNat).drop i.toNat := by rw [List.take_append_drop]
        rw [this, List.drop_append_of_le_length (by rw [List.length_take]; omega)]
      rw [e1, List.take_append_drop]
    have hxl : xs.length = i.toNat + ((cut xs i j).length + (xs.drop j.toNat).length) := by rw [hlen, List.length_drop]; omega
    rw [hsp] at hE
    obtain ⟨c1, c2, T1, T2, rfl, g1, g2, gd, k1, k2⟩ := EO_split hE
    obtain ⟨c3, c4, T3, T4, rfl, g3, g4, gd2, k3, k4⟩ := EO_split k2
    have hl1 := EO_len k1
    have hl4 := EO_len k4
    have htl : (xs.take i.toNat).length = i.toNat := by rw [List.length_take]; omega
    have hdl : (xs.drop j.toNat).length = xs.length - j.toNat := by rw [List.length_drop]
    refine .inr ⟨g, off + i.toNat * K.n, c - i.toNat, pre ++ c1, c3, c4 ++ post, ?_, hg, by rw [hh]; simp [List.append_assoc], by rw [List.length_append, hl1, htl]; omega, by rw [hlen]; omega, ?_, by omega, T3, fun b h => hs1 b (g2 b (g3 b h)), fun h => hs2 (g2 g (g3 g h)), k3⟩
    · rw [hlen]
      by_cases he : c = i.toNat
      · have : i = 0 := by rcases hi0 with h | h <;> omega
        subst this
        simp at he
        subst he
        simp
      · rw [if_neg he]; simp [addr_add]
    · rw [hlen, List.length_append, hl4, hdl]
      have : (c - i.toNat - (j.toNat - i.toNat)) * K.n ≤ (xs.length - j.toNat) * K.n + (c - xs.length) * K.n := by
        rw [← Nat.add_mul]
        exact Nat.mul_le_mul_right _ (by omega)
      omega
end
end Go.Gx
