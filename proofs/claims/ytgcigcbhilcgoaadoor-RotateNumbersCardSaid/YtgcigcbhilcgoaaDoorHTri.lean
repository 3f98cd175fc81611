/- The steps of a walk, said of all frames and worlds that hold what is known: no name for a frame, a world or a fact of them is wanted. -/
import Derived.Test.YtgcigcbhilcgoaaDoorHKit
set_option linter.unusedVariables false
namespace Go.Gx
open Go.RowKit

/-- Where the walk began, what it may change, what is shared from outside. -/
structure Cx where
  w0 : World
  M : FP
  Y : FP
/-- In every frame that holds l and every world that holds A and L. -/
def T (n : Nat) (c : Cx) (A : List VP) (L : List (List SP)) (l : List (Nat × Value)) (κ : Act → World → Prop) : Prop :=
  ∀ a w, Env n a l → St c.w0 c.M c.Y w A L → κ a w
/-- An operation yields v: in whatever world; in the worlds of the walk. -/
def RP (P : Program) (o : Oper) (n : Nat) (l : List (Nat × Value)) (v : Value) : Prop := ∀ a w, Env n a l → (execOp a.eval o).run P w = .ok (.value v) w
def RS (P : Program) (o : Oper) (n : Nat) (c : Cx) (A : List VP) (L : List (List SP)) (l : List (Nat × Value)) (v : Value) : Prop := ∀ a w, Env n a l → St c.w0 c.M c.Y w A L → (execOp a.eval o).run P w = .ok (.value v) w

section
variable {P : Program} {ops : Array Oper} {rest : List Oper} {Q Q' : Exit → Act → World → Prop} {K κ κ' : Act → World → Prop} {n : Nat} {c : Cx} {A A' B Ac : List VP} {L L' Lc Lr N : List (List SP)} {l l' : List (Nat × Value)}
  {d : Nat} {op : Op} {ty : TypeId} {pos : String} {af : Array Edge} {v u : Value}

theorem ti (f : ∀ a w, κ a w → κ' a w) (h : T n c A L l κ) : T n c A L l κ' := fun a w E H => f a w (h a w E H)
theorem pull {β : Type _} {φ : β → Prop} (hx : ∀ w, St c.w0 c.M c.Y w A L → ∃ q, φ q) (h : ∀ q, φ q → T n c A L l κ) : T n c A L l κ := fun a w E H => let ⟨q, hq⟩ := hx w H; h q hq a w E H
theorem ap {b : VP} {B : List VP} (h : T n c (b :: (B ++ A)) L l κ) : T n c ((b :: B) ++ A) L l κ := h
theorem ap0 (h : T n c A L l κ) : T n c ([] ++ A) L l κ := h
theorem np {b : List SP} {B : List (List SP)} (h : T n c A (b :: (B ++ L)) l κ) : T n c A ((b :: B) ++ L) l κ := h
theorem np0 (h : T n c A L l κ) : T n c A ([] ++ L) l κ := h

/-! ### Code -/
theorem t_region {id : Nat} {os : List Oper} (h : T n c A L l (wpList P os.toArray Q os)) : T n c A L l ((Code.region id os.toArray false).wp P Q) := fun a w E H => wp_region_lit (h a w E H)
theorem t_seq {x y : Code} (h : ∀ K : Act → World → Prop, (∀ a w, y.wp P Q a w → K a w) → T n c A L l (x.wp P (Exit.then K Q))) : T n c A L l ((Code.seq x y).wp P Q) := fun a w E H => wp_seq_k fun K hK => h K hK a w E H
theorem t_then {y : Code} (hK : ∀ a w, y.wp P Q a w → K a w) (h : T n c A L l (y.wp P Q)) : T n c A L l (Exit.then K Q' .normal) := fun a w E H => hK a w (h a w E H)
theorem t_nil (h : T n c A L l (Q .normal)) : T n c A L l (wpList P ops Q []) := h
theorem t_skip (h : T n c A L l (Q .normal)) : T n c A L l (Code.skip.wp P Q) := fun a w E H => wp_skip (h a w E H)
theorem t_block {id : Nat} {x : Code} (h : T n c A L l (x.wp P (Exit.inBlock id Q))) : T n c A L l ((Code.block id x).wp P Q) := fun a w E H => wp_block (h a w E H)
theorem t_blockN {id : Nat} (h : T n c A L l (Q .normal)) : T n c A L l (Exit.inBlock id Q .normal) := h
theorem t_exit {id : Nat} (h : T n c A L l (Q (.exit id))) : T n c A L l ((Code.exit id).wp P Q) := fun a w E H => wp_exit (h a w E H)
theorem t_ret (h : T n c A L l (Q .ret)) : T n c A L l (Code.ret.wp P Q) := fun a w E H => wp_ret (h a w E H)
theorem t_T {x : Operand} {y z : Code} {b : Bool} (hx : opv l x = some (.bool b)) (hb : b = true) (h : T n c A L l (y.wp P Q)) : T n c A L l ((Code.cond x y z).wp P Q) := fun a w E H => wc_T E hx hb (h a w E H)
theorem t_F {x : Operand} {y z : Code} {b : Bool} (hx : opv l x = some (.bool b)) (hb : b = false) (h : T n c A L l (z.wp P Q)) : T n c A L l ((Code.cond x y z).wp P Q) := fun a w E H => wc_F E hx hb (h a w E H)
theorem t_lp {x : Code} (h : ∀ κ : Act → World → Prop, (∀ a w, x.wp P (Exit.then κ Q) a w → κ a w) → T n c A L l κ) : T n c A L l ((Code.loop x).wp P Q) := fun a w E H => wp_of_loopW (h (LoopW P x Q) (fun _ _ h => loopW_round h) a w E H)
/-- Ways out, through what stands around. -/
theorem te {K : Act → World → Prop} {id : Nat} (h : T n c A L l (Q (.exit id))) : T n c A L l (Exit.then K Q (.exit id)) := h
theorem tr {K : Act → World → Prop} (h : T n c A L l (Q .ret)) : T n c A L l (Exit.then K Q .ret) := h
theorem be {id id' : Nat} (hne : Nat.beq id' id = false) (h : T n c A L l (Q (.exit id'))) : T n c A L l (Exit.inBlock id Q (.exit id')) := fun a w E H => block_other hne (h a w E H)
theorem bx {id : Nat} (h : T n c A L l (Q .normal)) : T n c A L l (Exit.inBlock id Q (.exit id)) := fun a w E H => block_exit (h a w E H)
theorem br {id : Nat} (h : T n c A L l (Q .ret)) : T n c A L l (Exit.inBlock id Q .ret) := h
theorem t_norm {K : Act → World → Prop} (h : T n c A L l K) : T n c A L l (Exit.then K Q .normal) := h
theorem St.lend {w0 w : World} {M Y : FP} (H : St w0 M Y w A L) (h : Pick L Lc Lr) : St w0 M Y w A Lc := by
  obtain ⟨hc, Z, S, h1, h2, h3, h4, h5, h6⟩ := H
  obtain ⟨S1, S2, e1, _, _, k1, _⟩ := Holds_pick h h2
  exact ⟨hc, Z, S, h1, Holds_mono (fun _ h => h) e1 k1, h3, h4, h5, h6⟩
/-- A state told anew: of the slots, of what is shared, of the items those that are wanted. -/
theorem t_go (k : T n c A' L' l' κ) (h : allLk l l') (hp : Pick L L' Lr) (hA : ∀ w Z, argHolds w A Z → argHolds w A' Z) : T n c A L l κ := fun a w E H => k a w (E.pick h) ((H.lend hp).sel (hA w))
/-- A slot's value told in another way. -/
theorem t_set {i : Nat} (hl : lk l i = some v) (hv : v = u) (h : T n c A L ((i, u) :: l) κ) : T n c A L l κ := fun a w E H => h a w (by
  subst hv
  refine ⟨E.size, E.defers, fun j x hx => ?_⟩
  simp only [lk] at hx
  cases hb : Nat.beq i j with
  | true =>
    rw [hb] at hx
    obtain rfl := Nat.eq_of_beq_eq_true hb
    obtain rfl : v = x := by simpa using hx
    exact E.get _ _ hl
  | false =>
    rw [hb] at hx
    exact E.get _ _ (by simpa using hx)) H

/-! ### A function's begin and end -/
theorem t_begin {f : FuncId} {fn : Func} {cd : Code} {args : List Value} {τ : Type} {v : τ → Value} {A' : τ → List VP} {N : τ → List (List SP)} (hf : P.funcs[f]? = some fn) (hb : fn.body = some cd) (hn : fn.ntmps = n) (hle : Nat.ble args.length n = true)
    (h : ∀ c R, (∀ w2 t, PostG c.w0 w2 c.M c.Y (A' t) (N t) → R (.returned (v t)) w2) → T n c Ac Lc (enumA 0 args) (cd.wp P (bodyPost P fn R))) : FunG P f args.toArray Ac Lc v A' N :=
  funG_begin hf hb hn hle fun w Z S a E H => h ⟨w, S, Z⟩ _ (fun _ t p => ⟨t, rfl, p⟩) a w E H
theorem t_leave {R : Ending → World → Prop} {τ : Type} {v : τ → Value} {A' : τ → List VP} {N : τ → List (List SP)} (hR : ∀ w2 t, PostG c.w0 w2 c.M c.Y (A' t) (N t) → R (.returned (v t)) w2) (t : τ) (hv : v t = u)
    (hA : ∀ w Z, argHolds w A Z → argHolds w (A' t) Z) (hN : Pick L (N t) Lr) : T n c A L l (fun _ w => R (.returned u) w) := by
  subst hv
  exact fun _ w _ H => hR w t (H.leave (hA w) fun Z S h => let ⟨_, _, e1, _, _, k, _⟩ := Holds_pick hN h; Holds_mono (fun _ h => h) e1 k)
theorem t_in {f n2 : Nat} {fn : Func} {cd : Code} {x : Operand} {xs : Array Operand} {ts : Array TypeId} {args cap all : List Value} (hx : opv l x = some (.func (.func f) #[] cap.toArray)) (hxs : xs.toList.map (opv l) = args.map some) (hf : P.funcs[f]? = some fn) (hname : (fn.name == "runtime.NumGoroutine") = false)
    (hb : fn.body = some cd) (hall : args ++ cap = all) (hd : Nat.blt d n = true) (hn : fn.ntmps = n2) (hle : Nat.ble all.length n2 = true)
    (h : ∀ (R : Ending → World → Prop) (κ : Act → World → Prop), (∀ a w, K a w → κ a w) → (∀ v A' L', T n c A' L' ((d, v) :: l) κ → ∀ w, St c.w0 c.M c.Y w A' L' → R (.returned v) w) → T n2 c A L (enumA 0 all) (cd.wp P (bodyPost P fn R))) :
    T n c A L l (Step P ops Q ⟨some d, .call ⟨.value x, xs, ts⟩, ty, pos, af, none⟩ K) := fun a w E H =>
  wl_in rfl (rn_callC E rfl hx hxs hf hname hb hall) hf hb fun a2 h2 => h _ K (fun _ _ h => h) (fun v A' L' hT w H' => ⟨v, rfl, hT _ _ (E.put hd v) H'⟩) a2 w (h2 ▸ Env.init hn hle) H
theorem t_in0 {f n2 : Nat} {fn : Func} {cd : Code} {x : Operand} {xs : Array Operand} {ts : Array TypeId} {args cap all : List Value} (hx : opv l x = some (.func (.func f) #[] cap.toArray)) (hxs : xs.toList.map (opv l) = args.map some) (hf : P.funcs[f]? = some fn) (hname : (fn.name == "runtime.NumGoroutine") = false)
    (hb : fn.body = some cd) (hall : args ++ cap = all) (hn : fn.ntmps = n2) (hle : Nat.ble all.length n2 = true)
    (h : ∀ (R : Ending → World → Prop) (κ : Act → World → Prop), (∀ a w, K a w → κ a w) → (∀ (v : Value) A' L', T n c A' L' l κ → ∀ w, St c.w0 c.M c.Y w A' L' → R (.returned v) w) → T n2 c A L (enumA 0 all) (cd.wp P (bodyPost P fn R))) :
    T n c A L l (Step P ops Q ⟨none, .call ⟨.value x, xs, ts⟩, ty, pos, af, none⟩ K) := fun a w E H => by
  unfold Step
  rw [if_pos (show Region.wanted _ _ = true from rfl)]
  refine .inl ?_
  unfold Oper.wp
  rw [rn_callC E rfl hx hxs hf hname hb hall, Oper.upon_enter]
  refine (calls_of_wp hf hb (h (fun e w2 => ∃ v, e = .returned v ∧ K (a.put none v) w2) K (fun _ _ h => h) (fun v A' L' hT w H' => ⟨v, rfl, hT _ _ (E.none v) H'⟩) _ w (Env.init hn hle) H) : Calls P f all.toArray w _).mono fun e w2 ⟨v, he, hv⟩ => ?_
  subst he
  exact hv
theorem t_bk {R : Ending → World → Prop} {n2 : Nat} {l2 : List (Nat × Value)} {κ' : Act → World → Prop} (hR : ∀ v A' L', T n c A' L' ((d, v) :: l) κ' → ∀ w, St c.w0 c.M c.Y w A' L' → R (.returned v) w) (h : T n c A L ((d, u) :: l) κ') : T n2 c A L l2 (fun _ w => R (.returned u) w) := fun _ w _ H => hR _ _ _ h w H
theorem t_bk0 {R : Ending → World → Prop} {n2 : Nat} {l2 : List (Nat × Value)} {κ' : Act → World → Prop} (hR : ∀ (v : Value) A' L', T n c A' L' l κ' → ∀ w, St c.w0 c.M c.Y w A' L' → R (.returned v) w) (h : T n c A L l κ') : T n2 c A L l2 (fun _ w => R (.returned u) w) := fun _ w _ H => hR _ _ _ h w H
def TV (P : Program) (n : Nat) (c : Cx) (A : List VP) (L : List (List SP)) (l : List (Nat × Value)) (r : ResultVar) (v : Value) : Prop := ∀ a w, Env n a l → St c.w0 c.M c.Y w A L → RV P w a r v
theorem v_t {t : Nat} (h : lk l t = some v) : TV P n c A L l (.tmp t) v := fun _ _ E _ => rv_tmp E h
theorem v_1 {x t g : Nat} {df : TypeDesc} {cs : List Value} {T' : TypeId} (hx : lk l x = some (.pointer (some ⟨g, 0, none⟩))) (hL : At L [blk g cs T']) (hu : P.underlying t = some df) (hag : aggD df = false) (hv : cs[0]? = some v) : TV P n c A L l (.cell x t) v := fun _ _ E H =>
  let ⟨_, hi⟩ := hL.get; rv_cell1 E hx hu hag (H.get (k := 0) hi rfl) hv
theorem v_N {x t g m b : Nat} {df : TypeDesc} {z : Value} {cs : List Value} {T' : TypeId} (hx : lk l x = some (.pointer (some ⟨g, 0, none⟩))) (hL : At L [blk g cs T']) (hu : P.underlying t = some df) (hag : aggD df = true) (hti : TI P t z m b) (hm : cs.length = m) : TV P n c A L l (.cell x t) (.agg cs.toArray) := fun _ _ E H =>
  let ⟨_, hi⟩ := hL.get; rv_cellN E hx hu hag hti (H.get (k := 0) hi rfl) hm
theorem ret0 {fn : Func} {R : Ending → World → Prop} (hrs : fn.results = #[]) (h : T n c A L l (fun _ w => R (.returned (.tuple #[])) w)) : T n c A L l (bodyPost P fn R .ret) := fun a w E H => wb_ret0 E hrs (h a w E H)
theorem end0 {fn : Func} {R : Ending → World → Prop} (hrs : fn.results = #[]) (h : T n c A L l (fun _ w => R (.returned (.tuple #[])) w)) : T n c A L l (bodyPost P fn R .normal) := fun a w E H => wb_end0 E hrs (h a w E H)
theorem ret1 {fn : Func} {R : Ending → World → Prop} {r1 : ResultVar} {v1 : Value} (hrs : fn.results = #[r1]) (h1 : TV P n c A L l r1 v1) (h : T n c A L l (fun _ w => R (.returned v1) w)) : T n c A L l (bodyPost P fn R .ret) := fun a w E H => wb_ret1 E hrs (h1 a w E H) (h a w E H)
theorem ret2 {fn : Func} {R : Ending → World → Prop} {r1 r2 : ResultVar} {v1 v2 : Value} (hrs : fn.results = #[r1, r2]) (h1 : TV P n c A L l r1 v1) (h2 : TV P n c A L l r2 v2) (h : T n c A L l (fun _ w => R (.returned (.tuple #[v1, v2])) w)) : T n c A L l (bodyPost P fn R .ret) := fun a w E H => wb_ret2 E hrs (h1 a w E H) (h2 a w E H) (h a w E H)
theorem ret3 {fn : Func} {R : Ending → World → Prop} {r1 r2 r3 : ResultVar} {v1 v2 v3 : Value} (hrs : fn.results = #[r1, r2, r3]) (h1 : TV P n c A L l r1 v1) (h2 : TV P n c A L l r2 v2) (h3 : TV P n c A L l r3 v3) (h : T n c A L l (fun _ w => R (.returned (.tuple #[v1, v2, v3])) w)) : T n c A L l (bodyPost P fn R .ret) := fun a w E H => wb_ret3 E hrs (h1 a w E H) (h2 a w E H) (h3 a w E H) (h a w E H)
theorem ret4 {fn : Func} {R : Ending → World → Prop} {r1 r2 r3 r4 : ResultVar} {v1 v2 v3 v4 : Value} (hrs : fn.results = #[r1, r2, r3, r4]) (h1 : TV P n c A L l r1 v1) (h2 : TV P n c A L l r2 v2) (h3 : TV P n c A L l r3 v3) (h4 : TV P n c A L l r4 v4) (h : T n c A L l (fun _ w => R (.returned (.tuple #[v1, v2, v3, v4])) w)) : T n c A L l (bodyPost P fn R .ret) := fun a w E H => wb_ret4 E hrs (h1 a w E H) (h2 a w E H) (h3 a w E H) (h4 a w E H) (h a w E H)

/-! ### One operation of a region -/
theorem nx {o : Oper} (h : T n c A L l (Step P ops Q o (wpList P ops Q rest))) : T n c A L l (wpList P ops Q (o :: rest)) := fun a w E H => wl_cons (h a w E H)
/-- A guarded operation that is carried out. -/
theorem gd {dd : Option Nat} {j t : Nat} {b e : Bool} (hj : (ops[j]?).bind (·.dst) = some t) (ht : lk l t = some (.bool e)) (hb : e = b) (h : T n c A L l (Step P ops Q ⟨dd, op, ty, pos, af, none⟩ K)) : T n c A L l (Step P ops Q ⟨dd, op, ty, pos, af, some (j, b)⟩ K) := fun a w E H => by
  have hw : Region.wanted ⟨dd, op, ty, pos, af, some (j, b)⟩ (yielded ops a.tmps) = true := E.wantedB rfl hj ht hb
  have h2 := h a w E H
  unfold Step at h2 ⊢
  rw [if_pos (show Region.wanted _ _ = true from rfl)] at h2
  rw [if_pos hw]
  exact h2
theorem pass {j t : Nat} {b e : Bool} (hj : (ops[j]?).bind (·.dst) = some t) (ht : lk l t = some (.bool e)) (hb : e = !b) (hd : Nat.blt d n = true) (h : T n c A L ((d, undef) :: l) K) : T n c A L l (Step P ops Q ⟨some d, op, ty, pos, af, some (j, b)⟩ K) := fun a w E H =>
  wl_pass E (E.unwanted rfl hj ht hb) hd fun a' E' => h a' w E' H
theorem passU {j t : Nat} {b : Bool} (hj : (ops[j]?).bind (·.dst) = some t) (ht : lk l t = some undef) (hd : Nat.blt d n = true) (h : T n c A L ((d, undef) :: l) K) : T n c A L l (Step P ops Q ⟨some d, op, ty, pos, af, some (j, b)⟩ K) := fun a w E H =>
  wl_pass E (E.unwanted0 rfl hj ht) hd fun a' E' => h a' w E' H
theorem pass0 {j t : Nat} {b e : Bool} (hj : (ops[j]?).bind (·.dst) = some t) (ht : lk l t = some (.bool e)) (hb : e = !b) (h : T n c A L l K) : T n c A L l (Step P ops Q ⟨none, op, ty, pos, af, some (j, b)⟩ K) := fun a w E H =>
  wl_pass0 E (E.unwanted rfl hj ht hb) fun a' E' => h a' w E' H
theorem passU0 {j t : Nat} {b : Bool} (hj : (ops[j]?).bind (·.dst) = some t) (ht : lk l t = some undef) (h : T n c A L l K) : T n c A L l (Step P ops Q ⟨none, op, ty, pos, af, some (j, b)⟩ K) := fun a w E H =>
  wl_pass0 E (E.unwanted0 rfl hj ht) fun a' E' => h a' w E' H
theorem sp (r : RP P ⟨some d, op, ty, pos, af, none⟩ n l v) (hd : Nat.blt d n = true) (h : T n c A L ((d, v) :: l) K) : T n c A L l (Step P ops Q ⟨some d, op, ty, pos, af, none⟩ K) := fun a w E H =>
  wl_val E rfl (r a w E) hd fun a' E' => h a' w E' H
theorem ss (r : RS P ⟨some d, op, ty, pos, af, none⟩ n c A L l v) (hd : Nat.blt d n = true) (h : T n c A L ((d, v) :: l) K) : T n c A L l (Step P ops Q ⟨some d, op, ty, pos, af, none⟩ K) := fun a w E H =>
  wl_val E rfl (r a w E H) hd fun a' E' => h a' w E' H
theorem c_p (r : RP P ⟨some d, op, ty, pos, af, none⟩ n l v) (hd : Nat.blt d n = true) (h : T n c A L ((d, v) :: l) (wpList P ops Q rest)) : T n c A L l (wpList P ops Q (⟨some d, op, ty, pos, af, none⟩ :: rest)) := nx (sp r hd h)
theorem c_s (r : RS P ⟨some d, op, ty, pos, af, none⟩ n c A L l v) (hd : Nat.blt d n = true) (h : T n c A L ((d, v) :: l) (wpList P ops Q rest)) : T n c A L l (wpList P ops Q (⟨some d, op, ty, pos, af, none⟩ :: rest)) := nx (ss r hd h)

/-! ### What yields a value in whatever world -/
section
variable {dd : Option Nat} {gg : Option (Nat × Bool)} {x y z : Operand} {tx ty' : TypeId}
theorem r_mv (hx : opv l x = some v) : RP P ⟨dd, .move x, ty, pos, af, gg⟩ n l v := fun _ _ E => rn_move E rfl hx
theorem r_as (hx : opv l x = some v) : RP P ⟨dd, .assign x, ty, pos, af, gg⟩ n l v := fun _ _ E => rn_assign E rfl hx
theorem r_pT {b : Bool} (hc : opv l x = some (.bool b)) (hb : b = true) (hx : opv l y = some v) : RP P ⟨dd, .pick x y z, ty, pos, af, gg⟩ n l v := fun _ _ E => rn_pickT E rfl hc hb hx
theorem r_pF {b : Bool} (hc : opv l x = some (.bool b)) (hb : b = false) (hx : opv l z = some v) : RP P ⟨dd, .pick x y z, ty, pos, af, gg⟩ n l v := fun _ _ E => rn_pickF E rfl hc hb hx
theorem r_ex {i : Nat} {vs : Array Value} (hx : opv l x = some (.tuple vs)) (hi : vs.toList[i]? = some v) : RP P ⟨dd, .extract x i, ty, pos, af, gg⟩ n l v := fun _ _ E => rn_extract E rfl hx hi
theorem r_mf {fn : Fn} {xs : Array Operand} {vs : List Value} (hxs : xs.toList.map (opv l) = vs.map some) : RP P ⟨dd, .makeFunc fn #[] xs, ty, pos, af, gg⟩ n l (.func fn #[] vs.toArray) := fun _ _ E => rn_makeFunc E rfl hxs
theorem r_nc {p : Addr} (hx : opv l x = some (.pointer (some p))) : RP P ⟨dd, .nilCheck x, ty, pos, af, gg⟩ n l (.pointer (some p)) := fun _ _ E => rn_nilCheck E rfl hx
theorem r_i {op : BinOp} {k : IntKind} {i j : Int} (hx : opv l x = some (.int k i)) (hy : opv l y = some (.int k j)) (h : intB op k i j = some v) : RP P ⟨dd, .binOp op tx x y ty', ty, pos, af, gg⟩ n l v := fun _ _ E => rn_int E rfl hx hy h
theorem r_quo {k : IntKind} {i j : Int} (hx : opv l x = some (.int k i)) (hy : opv l y = some (.int k j)) (h : j ≠ 0) : RP P ⟨dd, .binOp .quo tx x y ty', ty, pos, af, gg⟩ n l (.int k (k.wrap (i.tdiv j))) := fun _ _ E => rn_quo E rfl hx hy h
theorem r_rem {k : IntKind} {i j : Int} (hx : opv l x = some (.int k i)) (hy : opv l y = some (.int k j)) (h : j ≠ 0) : RP P ⟨dd, .binOp .rem tx x y ty', ty, pos, af, gg⟩ n l (.int k (i.tmod j)) := fun _ _ E => rn_rem E rfl hx hy h
theorem r_shl {k k' : IntKind} {i j : Int} (hx : opv l x = some (.int k i)) (hy : opv l y = some (.int k' j)) (h : 0 ≤ j) : RP P ⟨dd, .binOp .shl tx x y ty', ty, pos, af, gg⟩ n l (.int k (k.wrap (i * 2 ^ (min j.toNat k.bits)))) := fun _ _ E => rn_shl E rfl hx hy h
theorem r_shr {k k' : IntKind} {i j : Int} (hx : opv l x = some (.int k i)) (hy : opv l y = some (.int k' j)) (h : 0 ≤ j) : RP P ⟨dd, .binOp .shr tx x y ty', ty, pos, af, gg⟩ n l (.int k (i.fdiv (2 ^ (min j.toNat k.bits)))) := fun _ _ E => rn_shr E rfl hx hy h
theorem r_s {op : BinOp} {i j : ByteArray} (hx : opv l x = some (.string i)) (hy : opv l y = some (.string j)) (h : strB op i j = some v) : RP P ⟨dd, .binOp op tx x y ty', ty, pos, af, gg⟩ n l v := fun _ _ E => rn_str E rfl hx hy h
theorem r_cat {i j : ByteArray} (hx : opv l x = some (.string i)) (hy : opv l y = some (.string j)) (h : i.size + j.size ≤ maxStr) : RP P ⟨dd, .binOp .add tx x y ty', ty, pos, af, gg⟩ n l (.string (i ++ j)) := fun _ _ E => rn_cat E rfl hx hy h
theorem r_beq {i j : Bool} (hu : P.underlying tx = some .bool) (hx : opv l x = some (.bool i)) (hy : opv l y = some (.bool j)) : RP P ⟨dd, .binOp .eql tx x y ty', ty, pos, af, gg⟩ n l (.bool (i == j)) := fun _ _ E => rn_booleq E rfl hu hx hy
theorem r_bne {i j : Bool} (hu : P.underlying tx = some .bool) (hx : opv l x = some (.bool i)) (hy : opv l y = some (.bool j)) : RP P ⟨dd, .binOp .neq tx x y ty', ty, pos, af, gg⟩ n l (.bool (i != j)) := fun _ _ E => rn_boolne E rfl hu hx hy
theorem r_not {b : Bool} (hx : opv l x = some (.bool b)) : RP P ⟨dd, .unOp .not tx x, ty, pos, af, gg⟩ n l (.bool (!b)) := fun _ _ E => rn_not E rfl hx
theorem r_neg {k : IntKind} {i : Int} (hx : opv l x = some (.int k i)) : RP P ⟨dd, .unOp .neg tx x, ty, pos, af, gg⟩ n l (.int k (k.wrap (0 - i))) := fun _ _ E => rn_neg E rfl hx
theorem r_ci {k k' : IntKind} {i : Int} {ds : TypeDesc} (hs : P.underlying tx = some ds) (hd : P.underlying ty' = some (.int k')) (hx : opv l x = some (.int k i)) : RP P ⟨dd, .convert tx ty' x, ty, pos, af, gg⟩ n l (.int k' (k'.wrap i)) := fun _ _ E => rn_convInt E rfl hs hd hx
theorem r_cs {s : ByteArray} {ds : TypeDesc} (hs : P.underlying tx = some ds) (hd : P.underlying ty' = some .string) (hx : opv l x = some (.string s)) : RP P ⟨dd, .convert tx ty' x, ty, pos, af, gg⟩ n l (.string s) := fun _ _ E => rn_convStr E rfl hs hd hx
theorem r_lenS {s : ByteArray} (hu : P.underlying tx = some .string) (hx : opv l x = some (.string s)) : RP P ⟨dd, .call ⟨.builtin .len, #[x], #[tx]⟩, ty, pos, af, gg⟩ n l (.int .i64 s.size) := fun _ _ E => rn_lenStr E rfl hu hx
theorem r_lenA {e : TypeId} {m : Nat} (hu : P.underlying tx = some (.array m e)) (hx : opv l x = some v) : RP P ⟨dd, .call ⟨.builtin .len, #[x], #[tx]⟩, ty, pos, af, gg⟩ n l (.int .i64 m) := fun _ _ E => rn_lenArr E rfl hu hx
theorem r_at {s : ByteArray} {k : IntKind} {i j : Int} (hu : P.underlying tx = some .string) (hx : opv l x = some (.string s)) (hy : opv l y = some (.int k i)) (hc : byteAt s i = some j) : RP P ⟨dd, .index tx x y, ty, pos, af, gg⟩ n l (.int .u8 j) := fun _ _ E => rn_indexStr E rfl hu hx hy hc
theorem r_sub {s r : ByteArray} {k k' : IntKind} {i j : Int} (hu : P.underlying tx = some .string) (hx : opv l x = some (.string s)) (hy : opv l y = some (.int k i)) (hy' : opv l z = some (.int k' j)) (hc : subStr s i j = some r) : RP P ⟨dd, .slice tx x (some y) (some z) none, ty, pos, af, gg⟩ n l (.string r) := fun _ _ E => rn_subStr E rfl hu hx hy hy' hc
theorem r_subF {s r : ByteArray} {k : IntKind} {i : Int} (hu : P.underlying tx = some .string) (hx : opv l x = some (.string s)) (hy : opv l y = some (.int k i)) (hc : subStr s i s.size = some r) : RP P ⟨dd, .slice tx x (some y) none none, ty, pos, af, gg⟩ n l (.string r) := fun _ _ E => rn_subStrFrom E rfl hu hx hy hc
theorem r_subT {s r : ByteArray} {k : IntKind} {j : Int} (hu : P.underlying tx = some .string) (hx : opv l x = some (.string s)) (hy : opv l y = some (.int k j)) (hc : subStr s 0 j = some r) : RP P ⟨dd, .slice tx x none (some y) none, ty, pos, af, gg⟩ n l (.string r) := fun _ _ E => rn_subStrTo E rfl hu hx hy hc
/-- A part of the cells. -/
inductive Tk : List Value → Nat → List Value → Prop
  | z {cs : List Value} : Tk cs 0 []
  | s {u : Value} {cs vs : List Value} {m : Nat} : Tk cs m vs → Tk (u :: cs) (m + 1) (u :: vs)
inductive Seg : List Value → Nat → Nat → List Value → Prop
  | t {cs vs : List Value} {m : Nat} : Tk cs m vs → Seg cs 0 m vs
  | s {u : Value} {cs vs : List Value} {o m : Nat} : Seg cs o m vs → Seg (u :: cs) (o + 1) m vs
theorem Tk.eq {cs vs : List Value} {m : Nat} (h : Tk cs m vs) : cs.take m = vs ∧ vs.length = m := by
  induction h with
  | z => simp
  | s _ ih => simp [ih]
theorem Seg.eq {cs vs : List Value} {o m : Nat} (h : Seg cs o m vs) : (cs.drop o).take m = vs ∧ vs.length = m := by
  induction h with
  | t h => simpa using h.eq
  | s _ ih => simpa using ih
/-- The cells with others in their place. -/
inductive Rep : List Value → List Value → List Value → Prop
  | z {cs : List Value} : Rep cs [] cs
  | s {u v : Value} {cs vs cs' : List Value} : Rep cs vs cs' → Rep (u :: cs) (v :: vs) (v :: cs')
inductive Spl : List Value → Nat → List Value → List Value → Prop
  | t {cs vs cs' : List Value} : Rep cs vs cs' → Spl cs 0 vs cs'
  | s {u : Value} {cs vs cs' : List Value} {o : Nat} : Spl cs o vs cs' → Spl (u :: cs) (o + 1) vs (u :: cs')
theorem Rep.eq {cs vs cs' : List Value} (h : Rep cs vs cs') : vs ++ cs.drop vs.length = cs' ∧ vs.length ≤ cs.length := by
  induction h with
  | z => simp
  | s _ ih => simp [ih]
theorem Spl.eq {cs vs cs' : List Value} {o : Nat} (h : Spl cs o vs cs') : cs.take o ++ vs ++ cs.drop (o + vs.length) = cs' ∧ o + vs.length ≤ cs.length := by
  induction h with
  | t h => simpa using h.eq
  | s _ ih => simp [Nat.add_right_comm _ 1]; simpa using ih
theorem spA : ∀ {vs cs : List Value}, vs.length = cs.length → Rep cs vs vs
  | [], [], _ => .z
  | _ :: _, _ :: _, h => .s (spA (by simpa using h))
theorem r_f1 {f : Nat} {cs : List Value} {fs : Array Field} {fl : Field} {df : TypeDesc} (hu : P.underlying tx = some (.struct fs)) (hf : fs[f]? = some fl) (hdf : P.underlying fl.type = some df) (hag : aggD df = false) (hx : opv l x = some (.agg cs.toArray)) (hv : cs[fl.offset]? = some v) : RP P ⟨dd, .field tx x f, ty, pos, af, gg⟩ n l v := fun _ _ E => rn_field1 E rfl hu hf hdf hag hx hv
theorem r_fN {f : Nat} {cs vs : List Value} {fs : Array Field} {fl : Field} {df : TypeDesc} {zz : Value} {m b : Nat} (hu : P.underlying tx = some (.struct fs)) (hf : fs[f]? = some fl) (hdf : P.underlying fl.type = some df) (hag : aggD df = true) (hti : TI P fl.type zz m b) (hx : opv l x = some (.agg cs.toArray)) (hv : Seg cs fl.offset m vs) : RP P ⟨dd, .field tx x f, ty, pos, af, gg⟩ n l (.agg vs.toArray) := fun _ _ E => rn_fieldN E rfl hu hf hdf hag hti hx hv.eq.1
theorem r_fa {f g off : Nat} {fs : Array Field} {fl : Field} {zz : Value} {m b : Nat} (hu : P.underlying tx = some (.struct fs)) (hf : fs[f]? = some fl) (hti : TI P fl.type zz (m + 1) b) (hx : opv l x = some (.pointer (some ⟨g, off, none⟩))) {off' : Nat} (he : off + fl.offset = off') : RP P ⟨dd, .fieldAddr tx x f, ty, pos, af, gg⟩ n l (.pointer (some ⟨g, off', none⟩)) := fun _ _ E => rn_fieldAddr E rfl hu hf hti hx he
theorem r_bu {parts : Array (Nat × Operand)} {ps : List (Nat × Value)} {cs : List Value} (hps : parts.toList.map (fun p => (p.1, opv l p.2)) = ps.map (fun p => (p.1, some p.2))) (h : P.built ty ps = some cs.toArray) : RP P ⟨dd, .build ty parts, tx, pos, af, gg⟩ n l (.agg cs.toArray) := fun _ _ E => rn_build E rfl hps h
theorem r_eqs {xs ys : List Value} {r : Bool} (hg : P.eqGuardType P.depth tx = false) (he : ∀ w, (Op.equalIn 10000 tx (.agg xs.toArray) (.agg ys.toArray)).run P w = .ok r w) (hx : opv l x = some (.agg xs.toArray)) (hy : opv l y = some (.agg ys.toArray)) : RP P ⟨dd, .binOp .eql tx x y ty', ty, pos, af, gg⟩ n l (.bool r) := fun _ w E => rn_eqstruct E rfl hg hx hy (he w)
theorem r_nes {xs ys : List Value} {r : Bool} (hg : P.eqGuardType P.depth tx = false) (he : ∀ w, (Op.equalIn 10000 tx (.agg xs.toArray) (.agg ys.toArray)).run P w = .ok r w) (hx : opv l x = some (.agg xs.toArray)) (hy : opv l y = some (.agg ys.toArray)) : RP P ⟨dd, .binOp .neq tx x y ty', ty, pos, af, gg⟩ n l (.bool (!r)) := fun _ w E => rn_nestruct E rfl hg hx hy (he w)
theorem r_eqn {e : TypeId} {p : Option Addr} {i j : Nat} (hu : P.underlying tx = some (.slice e)) (hx : opv l x = some (.slice p i j)) (hy : opv l y = some (.slice none 0 0)) : RP P ⟨dd, .binOp .eql tx x y ty', ty, pos, af, gg⟩ n l (.bool p.isNone) := fun _ _ E => rn_eqnil E rfl hu hx hy
theorem r_nen {e : TypeId} {p : Option Addr} {i j : Nat} (hu : P.underlying tx = some (.slice e)) (hx : opv l x = some (.slice p i j)) (hy : opv l y = some (.slice none 0 0)) : RP P ⟨dd, .binOp .neq tx x y ty', ty, pos, af, gg⟩ n l (.bool (!p.isNone)) := fun _ _ E => rn_nenil E rfl hu hx hy
end
end
end Go.Gx
