/- One lemma an operation: what it answers, and what it does to the state of a walk. -/
import Derived.Test.YtgcigcbhilcgoaaDoorHState
namespace Go.Gx
open Go.RowKit

/-- What is known of a type: its zero value, its cells, its bytes. -/
abbrev TI (P : Program) (T : TypeId) (z : Value) (n b : Nat) : Prop := (P.info? T).map (fun i => (i.zero, i.size, i.bytes)) = some (some z, n, b)
def aggD : TypeDesc → Bool
  | .struct _ | .array _ _ => true
  | _ => false
section
variable {P : Program} {T : TypeId} {z : Value} {n b : Nat}
theorem TI.out (h : TI P T z n b) : ∃ i, P.info? T = some i ∧ i.zero = some z ∧ i.size = n ∧ i.bytes = b := by
  cases hq : P.info? T with
  | none => simp [TI, hq] at h
  | some i => simp [TI, hq] at h; exact ⟨i, rfl, h.1, h.2.1, h.2.2⟩
theorem TI.sizeOf (h : TI P T z n b) (w : World) : (sizeOf T).run P w = .ok n w := by
  obtain ⟨i, hi, _, hn, _⟩ := h.out
  simp [Go.sizeOf, typeInfo, hi, hn]
theorem TI.zeroValue (h : TI P T z n b) (w : World) : (zeroValue T).run P w = .ok z w := by
  obtain ⟨i, hi, hz, _⟩ := h.out
  simp [Go.zeroValue, typeInfo, hi, hz]
theorem run_isAgg {d : TypeDesc} (hu : P.underlying T = some d) (w : World) : (isAgg T).run P w = .ok (aggD d) w := by
  unfold isAgg
  rw [Sem.run_bind, run_underlying hu w]
  cases d <;> rfl
end

section
variable {P : Program} {ops : Array Oper} {rest : List Oper} {Q : Exit → Act → World → Prop} {κ : Act → World → Prop} {a : Act} {w w0 w' : World} {n : Nat} {l : List (Nat × Value)} {M Y : FP} {A : List VP} {L L' : List (List SP)}
  {d : Nat} {op : Op} {ty : TypeId} {pos : String} {af : Array Edge} {gd : Option (Nat × Bool)} {v : Value}

/-- One operation of a region, and what follows. -/
def Step (P : Program) (ops : Array Oper) (Q : Exit → Act → World → Prop) (o : Oper) (K : Act → World → Prop) (a : Act) (w : World) : Prop :=
  if Region.wanted o (yielded ops a.tmps) then o.wp P a w K Q ∨ (o.asks P a w ∧ LetsOut Q) else K (a.put o.dst undef) w
theorem wl_cons {o : Oper} (h : Step P ops Q o (wpList P ops Q rest) a w) : wpList P ops Q (o :: rest) a w := by
  unfold wpList
  exact h
/-- An operation that is carried out. -/
abbrev Wanted (ops : Array Oper) (a : Act) (o : Oper) : Prop := Region.wanted o (yielded ops a.tmps) = true
theorem Env.wanted (E : Env n a l) {j t : Nat} {b : Bool} {o : Oper} (ho : o.guard = some (j, b)) (hj : (ops[j]?).bind (·.dst) = some t) (ht : lk l t = some (.bool b)) : Wanted ops a o := by
  simp [Wanted, Region.wanted, ho, yielded, hj, E.get t _ ht]
theorem Env.wantedB (E : Env n a l) {j t : Nat} {b c : Bool} {o : Oper} (ho : o.guard = some (j, b)) (hj : (ops[j]?).bind (·.dst) = some t) (ht : lk l t = some (.bool c)) (hc : c = b) : Wanted ops a o := by
  subst hc
  exact E.wanted ho hj ht
theorem Env.unwanted (E : Env n a l) {j t : Nat} {b c : Bool} {o : Oper} (ho : o.guard = some (j, b)) (hj : (ops[j]?).bind (·.dst) = some t) (ht : lk l t = some (.bool c)) (hc : c = !b) : Region.wanted o (yielded ops a.tmps) = false := by
  subst hc
  simp [Region.wanted, ho, yielded, hj, E.get t _ ht]

theorem wl_val (E : Env n a l) (hw : Wanted ops a ⟨some d, op, ty, pos, af, gd⟩) (hr : (execOp a.eval ⟨some d, op, ty, pos, af, gd⟩).run P w = .ok (.value v) w') (hd : Nat.blt d n = true)
    (h : ∀ a', Env n a' ((d, v) :: l) → κ a' w') : Step P ops Q ⟨some d, op, ty, pos, af, gd⟩ κ a w := by
  unfold Step
  rw [if_pos hw]
  refine .inl ?_
  unfold Oper.wp
  rw [hr]
  exact h _ (E.put hd v)
theorem wl_unit (E : Env n a l) (hw : Wanted ops a ⟨none, op, ty, pos, af, gd⟩) (hr : (execOp a.eval ⟨none, op, ty, pos, af, gd⟩).run P w = .ok .skip w')
    (h : ∀ a', Env n a' l → κ a' w') : Step P ops Q ⟨none, op, ty, pos, af, gd⟩ κ a w := by
  unfold Step
  rw [if_pos hw]
  refine .inl ?_
  unfold Oper.wp
  rw [hr]
  exact h _ (E.none _)
/-- A guarded operation that is passed over. -/
theorem wl_pass (E : Env n a l) (hw : Region.wanted ⟨some d, op, ty, pos, af, gd⟩ (yielded ops a.tmps) = false) (hd : Nat.blt d n = true) (h : ∀ a', Env n a' ((d, undef) :: l) → κ a' w) :
    Step P ops Q ⟨some d, op, ty, pos, af, gd⟩ κ a w := by
  unfold Step
  rw [if_neg (by rw [hw]; simp)]
  exact h _ (E.put hd undef)
theorem wl_pass0 (E : Env n a l) (hw : Region.wanted ⟨none, op, ty, pos, af, gd⟩ (yielded ops a.tmps) = false) (h : ∀ a', Env n a' l → κ a' w) :
    Step P ops Q ⟨none, op, ty, pos, af, gd⟩ κ a w := by
  unfold Step
  rw [if_neg (by rw [hw]; simp)]
  exact h _ (E.none undef)
theorem Env.unwanted0 (E : Env n a l) {j t : Nat} {b : Bool} {o : Oper} (ho : o.guard = some (j, b)) (hj : (ops[j]?).bind (·.dst) = some t) (ht : lk l t = some undef) : Region.wanted o (yielded ops a.tmps) = false := by
  simp [Region.wanted, ho, yielded, hj, E.get t _ ht, undef]
theorem wl_nil (h : Q .normal a w) : wpList P ops Q [] a w := h

/-- A call: the callee's contract. -/
theorem wl_call {f : FuncId} {args : Array Value} {Φ : Value → World → Prop} (E : Env n a l) (hw : Wanted ops a ⟨some d, op, ty, pos, af, gd⟩) (hr : (execOp a.eval ⟨some d, op, ty, pos, af, gd⟩).run P w = .ok (.enter f args) w') (hd : Nat.blt d n = true)
    (hc : Calls P f args w' fun e w2 => ∃ v, e = .returned v ∧ Φ v w2)
    (h : ∀ v w2, Φ v w2 → ∀ a', Env n a' ((d, v) :: l) → κ a' w2) : Step P ops Q ⟨some d, op, ty, pos, af, gd⟩ κ a w := by
  unfold Step
  rw [if_pos hw]
  refine .inl ?_
  unfold Oper.wp
  rw [hr, Oper.upon_enter]
  refine hc.mono fun e w2 ⟨v, he, hv⟩ => ?_
  subst he
  exact h v w2 hv _ (E.put hd v)
theorem run_enter {f : FuncId} {fn : Func} {c : Code} (hf : P.funcs[f]? = some fn) (hname : (fn.name == "runtime.NumGoroutine") = false) (hb : fn.body = some c) (args : Array Value) (w : World) :
    (callFunc f args).run P w = .ok (.enter f args) w := by
  have hn : ¬ fn.name = "runtime.NumGoroutine" := by simpa using hname
  simp [callFunc, hf, hn, hb]
theorem evals (E : Env n a l) : ∀ (ys : List Operand) (zs : List Value), ys.map (opv l) = zs.map some → ys.map a.eval = zs
  | [], [], _ => rfl
  | [], _ :: _, h => by simp at h
  | _ :: _, [], h => by simp at h
  | y :: ys, z :: zs, h => by
    simp only [List.map_cons, List.cons.injEq] at h
    rw [List.map_cons, E.eval h.1, evals E ys zs h.2]
theorem evalsA (E : Env n a l) {xs : Array Operand} {args : List Value} (h : xs.toList.map (opv l) = args.map some) : xs.map a.eval = args.toArray := by
  apply Array.ext'
  rw [Array.toList_map]
  exact evals E _ _ h
theorem rn_call {o : Oper} {f : FuncId} {fn : Func} {c : Code} {x : Operand} {xs : Array Operand} {ts : Array TypeId} {args : List Value} (E : Env n a l) (ho : o.op = .call ⟨.value x, xs, ts⟩) (hx : opv l x = some (.func (.func f) #[] #[]))
    (hxs : xs.toList.map (opv l) = args.map some) (hf : P.funcs[f]? = some fn) (hname : (fn.name == "runtime.NumGoroutine") = false) (hb : fn.body = some c) :
    (execOp a.eval o).run P w = .ok (.enter f args.toArray) w := by
  simp [execOp, ho, resolve, evalsA E hxs, E.eval hx, Deferred.ofValue, invoke, run_enter hf hname hb]
theorem rn_callC {o : Oper} {f : FuncId} {fn : Func} {c : Code} {x : Operand} {xs : Array Operand} {ts : Array TypeId} {args cap all : List Value} (E : Env n a l) (ho : o.op = .call ⟨.value x, xs, ts⟩) (hx : opv l x = some (.func (.func f) #[] cap.toArray))
    (hxs : xs.toList.map (opv l) = args.map some) (hf : P.funcs[f]? = some fn) (hname : (fn.name == "runtime.NumGoroutine") = false) (hb : fn.body = some c) (hall : args ++ cap = all) :
    (execOp a.eval o).run P w = .ok (.enter f all.toArray) w := by
  subst hall
  simp [execOp, ho, resolve, evalsA E hxs, E.eval hx, Deferred.ofValue, invoke, run_enter hf hname hb]
/-- A call that is walked into. -/
theorem wl_in {f : FuncId} {fn : Func} {c : Code} {args : List Value} (hw : Wanted ops a ⟨some d, op, ty, pos, af, gd⟩) (hr : (execOp a.eval ⟨some d, op, ty, pos, af, gd⟩).run P w = .ok (.enter f args.toArray) w)
    (hf : P.funcs[f]? = some fn) (hb : fn.body = some c) (h : ∀ a2, a2 = ({ tmps := args.toArray ++ Array.replicate (fn.ntmps - args.toArray.size) undef, defers := [] } : Act) → c.wp P (bodyPost P fn fun e w2 => ∃ v, e = .returned v ∧ κ (a.put (some d) v) w2) a2 w) :
    Step P ops Q ⟨some d, op, ty, pos, af, gd⟩ κ a w := by
  unfold Step
  rw [if_pos hw]
  refine .inl ?_
  unfold Oper.wp
  rw [hr, Oper.upon_enter]
  refine (calls_of_wp hf hb (h _ rfl) : Calls P f args.toArray w _).mono fun e w2 ⟨v, he, hv⟩ => ?_
  subst he
  exact hv

/-! ### Copies, choices, arithmetic -/
theorem rn_move {o : Oper} {x : Operand} (E : Env n a l) (ho : o.op = .move x) (hx : opv l x = some v) : (execOp a.eval o).run P w = .ok (.value v) w := by
  simp [execOp, ho, E.eval hx]
theorem rn_assign {o : Oper} {x : Operand} (E : Env n a l) (ho : o.op = .assign x) (hx : opv l x = some v) : (execOp a.eval o).run P w = .ok (.value v) w := by
  simp [execOp, ho, E.eval hx]
theorem rn_pick_true {o : Oper} {c x y : Operand} (E : Env n a l) (ho : o.op = .pick c x y) (hc : opv l c = some (.bool true)) (hx : opv l x = some v) : (execOp a.eval o).run P w = .ok (.value v) w := by
  simp [execOp, ho, E.eval hc, E.eval hx, asBool]
theorem rn_pick_false {o : Oper} {c x y : Operand} (E : Env n a l) (ho : o.op = .pick c x y) (hc : opv l c = some (.bool false)) (hx : opv l y = some v) : (execOp a.eval o).run P w = .ok (.value v) w := by
  simp [execOp, ho, E.eval hc, E.eval hx, asBool]
theorem rn_pickT {o : Oper} {c x y : Operand} {b : Bool} (E : Env n a l) (ho : o.op = .pick c x y) (hc : opv l c = some (.bool b)) (hb : b = true) (hx : opv l x = some v) : (execOp a.eval o).run P w = .ok (.value v) w := by
  subst hb; exact rn_pick_true E ho hc hx
theorem rn_pickF {o : Oper} {c x y : Operand} {b : Bool} (E : Env n a l) (ho : o.op = .pick c x y) (hc : opv l c = some (.bool b)) (hb : b = false) (hx : opv l y = some v) : (execOp a.eval o).run P w = .ok (.value v) w := by
  subst hb; exact rn_pick_false E ho hc hx
theorem rn_extract {o : Oper} {x : Operand} {i : Nat} {vs : Array Value} (E : Env n a l) (ho : o.op = .extract x i) (hx : opv l x = some (.tuple vs)) (hi : vs.toList[i]? = some v) : (execOp a.eval o).run P w = .ok (.value v) w := by
  have hi' : vs[i]? = some v := by simpa using hi
  simp [execOp, ho, E.eval hx, Instr.extract, hi']
theorem rn_makeFunc {o : Oper} {fn : Fn} {xs : Array Operand} {vs : List Value} (E : Env n a l) (ho : o.op = .makeFunc fn #[] xs) (hxs : xs.toList.map (opv l) = vs.map some) :
    (execOp a.eval o).run P w = .ok (.value (.func fn #[] vs.toArray)) w := by
  simp [execOp, ho, evalsA E hxs, Instr.makeFunc]
theorem rn_nilCheck {o : Oper} {x : Operand} {p : Addr} (E : Env n a l) (ho : o.op = .nilCheck x) (hx : opv l x = some (.pointer (some p))) : (execOp a.eval o).run P w = .ok (.value (.pointer (some p))) w := by
  simp [execOp, ho, E.eval hx]

/-- The answer of an operator on whole numbers. -/
def intB (op : BinOp) (k : IntKind) (x y : Int) : Option Value :=
  match op with
  | .add => some (.int k (k.wrap (x + y)))
  | .sub => some (.int k (k.wrap (x - y)))
  | .mul => some (.int k (k.wrap (x * y)))
  | .eql => some (.bool (x == y))
  | .neq => some (.bool (x != y))
  | .lss => some (.bool (decide (x < y)))
  | .leq => some (.bool (decide (x ≤ y)))
  | .gtr => some (.bool (decide (x > y)))
  | .geq => some (.bool (decide (x ≥ y)))
  | .and => some (.int k (k.wrap ((BitVec.ofInt k.bits x &&& BitVec.ofInt k.bits y).toNat : Int)))
  | .or => some (.int k (k.wrap ((BitVec.ofInt k.bits x ||| BitVec.ofInt k.bits y).toNat : Int)))
  | .xor => some (.int k (k.wrap ((BitVec.ofInt k.bits x ^^^ BitVec.ofInt k.bits y).toNat : Int)))
  | .andNot => some (.int k (k.wrap ((BitVec.ofInt k.bits x &&& ~~~ BitVec.ofInt k.bits y).toNat : Int)))
  | _ => none
theorem eqGuard_int {op : BinOp} {t : TypeId} {x y : Operand} {k k' : IntKind} {i j : Int} : (eqGuard op t x y (.int k i) (.int k' j)).run P w = .ok () w := by
  cases op <;> simp [eqGuard]
theorem rn_int {o : Oper} {op : BinOp} {tx ty' : TypeId} {x y : Operand} {k : IntKind} {i j : Int} (E : Env n a l) (ho : o.op = .binOp op tx x y ty') (hx : opv l x = some (.int k i)) (hy : opv l y = some (.int k j)) (h : intB op k i j = some v) :
    (execOp a.eval o).run P w = .ok (.value v) w := by
  simp only [execOp, ho, E.eval hx, E.eval hy, Sem.run_bind, eqGuard_int, Result.andThen_ok]
  cases op <;> simp [intB] at h <;> subst h <;> simp [binOp, Op.intArith, Op.intCmp, Op.intBits]
theorem rn_quo {o : Oper} {tx ty' : TypeId} {x y : Operand} {k : IntKind} {i j : Int} (E : Env n a l) (ho : o.op = .binOp .quo tx x y ty') (hx : opv l x = some (.int k i)) (hy : opv l y = some (.int k j)) (h : j ≠ 0) :
    (execOp a.eval o).run P w = .ok (.value (.int k (k.wrap (i.tdiv j)))) w := by
  simp [execOp, ho, E.eval hx, E.eval hy, eqGuard_int, binOp, Op.intDiv, h]
theorem rn_rem {o : Oper} {tx ty' : TypeId} {x y : Operand} {k : IntKind} {i j : Int} (E : Env n a l) (ho : o.op = .binOp .rem tx x y ty') (hx : opv l x = some (.int k i)) (hy : opv l y = some (.int k j)) (h : j ≠ 0) :
    (execOp a.eval o).run P w = .ok (.value (.int k (i.tmod j))) w := by
  simp [execOp, ho, E.eval hx, E.eval hy, eqGuard_int, binOp, Op.intDiv, h]
theorem rn_shl {o : Oper} {tx ty' : TypeId} {x y : Operand} {k k' : IntKind} {i j : Int} (E : Env n a l) (ho : o.op = .binOp .shl tx x y ty') (hx : opv l x = some (.int k i)) (hy : opv l y = some (.int k' j)) (h : 0 ≤ j) :
    (execOp a.eval o).run P w = .ok (.value (.int k (k.wrap (i * 2 ^ (min j.toNat k.bits))))) w := by
  have : ¬ j < 0 := by omega
  simp [execOp, ho, E.eval hx, E.eval hy, eqGuard_int, binOp, Op.shift, this]
theorem rn_shr {o : Oper} {tx ty' : TypeId} {x y : Operand} {k k' : IntKind} {i j : Int} (E : Env n a l) (ho : o.op = .binOp .shr tx x y ty') (hx : opv l x = some (.int k i)) (hy : opv l y = some (.int k' j)) (h : 0 ≤ j) :
    (execOp a.eval o).run P w = .ok (.value (.int k (i.fdiv (2 ^ (min j.toNat k.bits))))) w := by
  have : ¬ j < 0 := by omega
  simp [execOp, ho, E.eval hx, E.eval hy, eqGuard_int, binOp, Op.shift, this]
/-- The answer of an operator on texts. -/
def strB (op : BinOp) (x y : ByteArray) : Option Value :=
  match op with
  | .eql => some (.bool (x.toList == y.toList))
  | .neq => some (.bool (!(x.toList == y.toList)))
  | .lss => some (.bool (Op.bytesLess x.toList y.toList))
  | .leq => some (.bool (Op.bytesLess x.toList y.toList || x.toList == y.toList))
  | .gtr => some (.bool (!(Op.bytesLess x.toList y.toList || x.toList == y.toList)))
  | .geq => some (.bool (!Op.bytesLess x.toList y.toList))
  | _ => none
theorem eqGuard_str {op : BinOp} {t : TypeId} {x y : Operand} {i j : ByteArray} : (eqGuard op t x y (.string i) (.string j)).run P w = .ok () w := by
  cases op <;> simp [eqGuard]
theorem rn_str {o : Oper} {op : BinOp} {tx ty' : TypeId} {x y : Operand} {i j : ByteArray} (E : Env n a l) (ho : o.op = .binOp op tx x y ty') (hx : opv l x = some (.string i)) (hy : opv l y = some (.string j)) (h : strB op i j = some v) :
    (execOp a.eval o).run P w = .ok (.value v) w := by
  simp only [execOp, ho, E.eval hx, E.eval hy, Sem.run_bind, eqGuard_str, Result.andThen_ok]
  cases op <;> simp [strB] at h <;> subst h <;> simp [binOp, Op.stringOp]
/-- Texts together: the bound is the print's own; a longer text ends the plain function with none. -/
def maxStr : Nat := 9223372036854775807
theorem rn_cat {o : Oper} {tx ty' : TypeId} {x y : Operand} {i j : ByteArray} (E : Env n a l) (ho : o.op = .binOp .add tx x y ty') (hx : opv l x = some (.string i)) (hy : opv l y = some (.string j)) (h : i.size + j.size ≤ maxStr) :
    (execOp a.eval o).run P w = .ok (.value (.string (i ++ j))) w := by
  have e : IntKind.i64.max = 9223372036854775807 := by decide
  have h' : ¬ ((i.size : Int) + (j.size : Int) > 9223372036854775807) := by unfold maxStr at h; omega
  have h2 : ¬ (9223372036854775807 < (i.size : Int) + (j.size : Int)) := h'
  simp [execOp, ho, E.eval hx, E.eval hy, eqGuard_str, binOp, Op.stringOp, e, h2]
theorem eqGuard_bool {op : BinOp} {t : TypeId} {x y : Operand} {i j : Bool} : (eqGuard op t x y (.bool i) (.bool j)).run P w = .ok () w := by
  cases op <;> simp [eqGuard]
theorem equal_bool {t : TypeId} (hu : P.underlying t = some .bool) (i j : Bool) : (Op.equal t (.bool i) (.bool j)).run P w = .ok (i == j) w := by
  show (Op.equalIn (9999 + 1) t (.bool i) (.bool j)).run P w = _
  rw [Op.equalIn, Sem.run_bind, run_underlying hu]
  rfl
theorem rn_booleq {o : Oper} {tx ty' : TypeId} {x y : Operand} {i j : Bool} (E : Env n a l) (ho : o.op = .binOp .eql tx x y ty') (hu : P.underlying tx = some .bool) (hx : opv l x = some (.bool i)) (hy : opv l y = some (.bool j)) :
    (execOp a.eval o).run P w = .ok (.value (.bool (i == j))) w := by
  simp [execOp, ho, E.eval hx, E.eval hy, eqGuard_bool, binOp, equal_bool hu]
theorem rn_boolne {o : Oper} {tx ty' : TypeId} {x y : Operand} {i j : Bool} (E : Env n a l) (ho : o.op = .binOp .neq tx x y ty') (hu : P.underlying tx = some .bool) (hx : opv l x = some (.bool i)) (hy : opv l y = some (.bool j)) :
    (execOp a.eval o).run P w = .ok (.value (.bool (i != j))) w := by
  simp [execOp, ho, E.eval hx, E.eval hy, eqGuard_bool, binOp, equal_bool hu, bne]
theorem rn_not {o : Oper} {tx : TypeId} {x : Operand} {b : Bool} (E : Env n a l) (ho : o.op = .unOp .not tx x) (hx : opv l x = some (.bool b)) : (execOp a.eval o).run P w = .ok (.value (.bool (!b))) w := by
  simp [execOp, ho, E.eval hx, Op.unary]
theorem rn_neg {o : Oper} {tx : TypeId} {x : Operand} {k : IntKind} {i : Int} (E : Env n a l) (ho : o.op = .unOp .neg tx x) (hx : opv l x = some (.int k i)) : (execOp a.eval o).run P w = .ok (.value (.int k (k.wrap (0 - i)))) w := by
  simp [execOp, ho, E.eval hx, Op.unary, Op.intArith]
theorem rn_convInt {o : Oper} {src dst : TypeId} {x : Operand} {k k' : IntKind} {i : Int} {ds : TypeDesc} (E : Env n a l) (ho : o.op = .convert src dst x) (hs : P.underlying src = some ds) (hd : P.underlying dst = some (.int k')) (hx : opv l x = some (.int k i)) :
    (execOp a.eval o).run P w = .ok (.value (.int k' (k'.wrap i))) w := by
  simp [execOp, ho, E.eval hx, convert, run_underlying hs, run_underlying hd, Conv.intToInt]
theorem rn_convStr {o : Oper} {src dst : TypeId} {x : Operand} {s : ByteArray} {ds : TypeDesc} (E : Env n a l) (ho : o.op = .convert src dst x) (hs : P.underlying src = some ds) (hd : P.underlying dst = some .string) (hx : opv l x = some (.string s)) :
    (execOp a.eval o).run P w = .ok (.value (.string s)) w := by
  simp [execOp, ho, E.eval hx, convert, run_underlying hs, run_underlying hd]

/-! ### Lengths, elements of texts, fields of values -/
theorem rn_len {o : Oper} {t : TypeId} {x : Operand} {e : TypeId} {p : Option Addr} {m c : Nat} (E : Env n a l) (ho : o.op = .call ⟨.builtin .len, #[x], #[t]⟩) (hu : P.underlying t = some (.slice e)) (hx : opv l x = some (.slice p m c)) :
    (execOp a.eval o).run P w = .ok (.value (.int .i64 (m : Int))) w := by
  simp [execOp, ho, resolve, E.eval hx, invoke, builtin, Builtin.len_, run_underlying hu, goInt]
theorem rn_lenStr {o : Oper} {t : TypeId} {x : Operand} {s : ByteArray} (E : Env n a l) (ho : o.op = .call ⟨.builtin .len, #[x], #[t]⟩) (hu : P.underlying t = some .string) (hx : opv l x = some (.string s)) :
    (execOp a.eval o).run P w = .ok (.value (.int .i64 (s.size : Int))) w := by
  simp [execOp, ho, resolve, E.eval hx, invoke, builtin, Builtin.len_, run_underlying hu, goInt]
theorem rn_lenArr {o : Oper} {t : TypeId} {x : Operand} {e : TypeId} {m : Nat} (E : Env n a l) (ho : o.op = .call ⟨.builtin .len, #[x], #[t]⟩) (hu : P.underlying t = some (.array m e)) (hx : opv l x = some v) :
    (execOp a.eval o).run P w = .ok (.value (.int .i64 (m : Int))) w := by
  simp [execOp, ho, resolve, E.eval hx, invoke, builtin, Builtin.len_, run_underlying hu, goInt]
/-- A byte of a text. -/
def byteAt (s : ByteArray) (i : Int) : Option Int := if 0 ≤ i then (s[i.toNat]?).map (fun b => (b.toNat : Int)) else none
theorem rn_indexStr {o : Oper} {t : TypeId} {x y : Operand} {s : ByteArray} {k : IntKind} {i c : Int} (E : Env n a l) (ho : o.op = .index t x y) (hu : P.underlying t = some .string) (hx : opv l x = some (.string s)) (hy : opv l y = some (.int k i)) (hc : byteAt s i = some c) :
    (execOp a.eval o).run P w = .ok (.value (.int .u8 c)) w := by
  unfold byteAt at hc
  split at hc
  · rename_i h0
    obtain ⟨b, hb, rfl⟩ := Option.map_eq_some_iff.1 hc
    simp [execOp, ho, E.eval hx, E.eval hy, Instr.index, asIntOf, run_underlying hu, h0, hb]
  · cases hc
/-- A part of a text. -/
def subStr (s : ByteArray) (i j : Int) : Option ByteArray := if 0 ≤ i ∧ i ≤ j ∧ j ≤ s.size then some (s.extract i.toNat j.toNat) else none
theorem run_bound {k : IntKind} {i : Int} {y : Nat} {code : BoundsCode} (h0 : 0 ≤ i) (h1 : i ≤ y) : (Instr.sliceBound (.int k i) y code).run P w = .ok i.toNat w := by
  simp [Instr.sliceBound, asIntOf, h0, h1]
theorem rn_subStr {o : Oper} {t : TypeId} {x y y' : Operand} {s r : ByteArray} {k k' : IntKind} {i j : Int} (E : Env n a l) (ho : o.op = .slice t x (some y) (some y') none) (hu : P.underlying t = some .string) (hx : opv l x = some (.string s)) (hy : opv l y = some (.int k i)) (hy' : opv l y' = some (.int k' j)) (hc : subStr s i j = some r) :
    (execOp a.eval o).run P w = .ok (.value (.string r)) w := by
  unfold subStr at hc
  split at hc
  · rename_i h0
    obtain rfl := Option.some.inj hc
    have h1 : i ≤ (j.toNat : Int) := by omega
    simp [execOp, ho, E.eval hx, E.eval hy, E.eval hy', Instr.sliceAt, Instr.slice, Instr.sliceBounds, run_underlying hu, run_bound (by omega : 0 ≤ j) h0.2.2, run_bound h0.1 h1]
  · cases hc
theorem rn_subStrFrom {o : Oper} {t : TypeId} {x y : Operand} {s r : ByteArray} {k : IntKind} {i : Int} (E : Env n a l) (ho : o.op = .slice t x (some y) none none) (hu : P.underlying t = some .string) (hx : opv l x = some (.string s)) (hy : opv l y = some (.int k i)) (hc : subStr s i s.size = some r) :
    (execOp a.eval o).run P w = .ok (.value (.string r)) w := by
  unfold subStr at hc
  split at hc
  · rename_i h0
    obtain rfl := Option.some.inj hc
    simp [execOp, ho, E.eval hx, E.eval hy, Instr.sliceAt, Instr.slice, Instr.sliceBounds, run_underlying hu, run_bound h0.1 h0.2.1]
  · cases hc
theorem rn_subStrTo {o : Oper} {t : TypeId} {x y : Operand} {s r : ByteArray} {k : IntKind} {j : Int} (E : Env n a l) (ho : o.op = .slice t x none (some y) none) (hu : P.underlying t = some .string) (hx : opv l x = some (.string s)) (hy : opv l y = some (.int k j)) (hc : subStr s 0 j = some r) :
    (execOp a.eval o).run P w = .ok (.value (.string r)) w := by
  unfold subStr at hc
  split at hc
  · rename_i h0
    obtain rfl := Option.some.inj hc
    simp [execOp, ho, E.eval hx, E.eval hy, Instr.sliceAt, Instr.slice, Instr.sliceBounds, run_underlying hu, run_bound h0.2.1 h0.2.2]
  · cases hc
theorem rn_field1 {o : Oper} {t : TypeId} {x : Operand} {f : Nat} {cs : List Value} {fs : Array Field} {fl : Field} {df : TypeDesc} (E : Env n a l) (ho : o.op = .field t x f) (hu : P.underlying t = some (.struct fs)) (hf : fs[f]? = some fl) (hdf : P.underlying fl.type = some df) (hag : aggD df = false)
    (hx : opv l x = some (.agg cs.toArray)) (hv : cs[fl.offset]? = some v) : (execOp a.eval o).run P w = .ok (.value v) w := by
  simp [execOp, ho, E.eval hx, Instr.field, run_underlying hu, hf, part, run_isAgg hdf, hag, asAgg, hv]
theorem rn_fieldN {o : Oper} {t : TypeId} {x : Operand} {f : Nat} {cs vs : List Value} {fs : Array Field} {fl : Field} {df : TypeDesc} {z : Value} {m b : Nat} (E : Env n a l) (ho : o.op = .field t x f) (hu : P.underlying t = some (.struct fs)) (hf : fs[f]? = some fl) (hdf : P.underlying fl.type = some df) (hag : aggD df = true)
    (hti : TI P fl.type z m b) (hx : opv l x = some (.agg cs.toArray)) (hv : (cs.drop fl.offset).take m = vs) : (execOp a.eval o).run P w = .ok (.value (.agg vs.toArray)) w := by
  simp [execOp, ho, E.eval hx, Instr.field, run_underlying hu, hf, part, run_isAgg hdf, hag, asAgg, hti.sizeOf, hv]

/-! ### Places -/
theorem addr_add (g off j : Nat) : (⟨g, off, none⟩ : Addr).add j = ⟨g, off + j, none⟩ := by
  unfold Addr.add
  split
  · rename_i h; subst h; rfl
  · rfl
theorem rn_fieldAddr {o : Oper} {t : TypeId} {x : Operand} {f g off : Nat} {fs : Array Field} {fl : Field} {z : Value} {m b : Nat} (E : Env n a l) (ho : o.op = .fieldAddr t x f) (hu : P.underlying t = some (.struct fs)) (hf : fs[f]? = some fl) (hti : TI P fl.type z (m + 1) b)
    (hx : opv l x = some (.pointer (some ⟨g, off, none⟩))) {off' : Nat} (he : off + fl.offset = off') : (execOp a.eval o).run P w = .ok (.value (.pointer (some ⟨g, off', none⟩))) w := by
  subst he
  simp [execOp, ho, E.eval hx, Instr.fieldAt, run_underlying hu, hf, Instr.sureAddr, fieldPlace, hti.sizeOf, addr_add]
/-- The place of an element, 'o' cells on: as the slice's first address has it. -/
def Idx (p : Option Addr) (i : Int) (m off : Nat) (q : Addr) : Prop := ∃ g c, p = some ⟨g, c, none⟩ ∧ q = ⟨g, c + (i.toNat * m + off), none⟩
theorem rn_fieldAddrI {o : Oper} {t : TypeId} {x : Operand} {f : Nat} {fs : Array Field} {fl : Field} {z : Value} {m b : Nat} {p : Option Addr} {i : Int} {m' off : Nat} {q : Addr} (E : Env n a l) (ho : o.op = .fieldAddr t x f) (hu : P.underlying t = some (.struct fs)) (hf : fs[f]? = some fl) (hti : TI P fl.type z (m + 1) b)
    (hx : opv l x = some (.pointer (some q))) (hq : Idx p i m' off q) {off' : Nat} (he : off + fl.offset = off') : ∃ q', Idx p i m' off' q' ∧ ∀ w', (execOp a.eval o).run P w' = .ok (.value (.pointer (some q'))) w' := by
  subst he
  obtain ⟨g, c, hp, rfl⟩ := hq
  refine ⟨⟨g, c + (i.toNat * m' + off) + fl.offset, none⟩, ⟨g, c, hp, by simp only [Nat.add_assoc]⟩, fun w' => ?_⟩
  simp [execOp, ho, E.eval hx, Instr.fieldAt, run_underlying hu, hf, Instr.sureAddr, fieldPlace, hti.sizeOf, addr_add]
/-- What reads an element: the element at i, or none. -/
def at_ {α : Type} (xs : List α) (i : Int) : Option α := if 0 ≤ i then xs[i.toNat]? else none
theorem at_some {α : Type} {xs : List α} {i : Int} {x : α} (h : at_ xs i = some x) : 0 ≤ i ∧ i.toNat < xs.length ∧ xs[i.toNat]? = some x := by
  unfold at_ at h
  split at h
  · rename_i h0
    obtain ⟨h1, _⟩ := List.getElem?_eq_some_iff.1 h
    exact ⟨h0, h1, h⟩
  · cases h
theorem rn_indexAddr {o : Oper} {t e : TypeId} {x y : Operand} {k : IntKind} {i : Int} {p : Option Addr} {m c : Nat} {z : Value} {b : Nat} {α : Type} {K : Kind α} {xs : List α} {S : FP} {u : α} (E : Env n a l) (ho : o.op = .indexAddr t x y) (hu : P.underlying t = some (.slice e)) (hti : TI P e z K.n b)
    (hx : opv l x = some (.slice p m c)) (hy : opv l y = some (.int k i)) (hR : sliceR K w S xs [.slice p m c]) (hi : at_ xs i = some u) : ∃ q, Idx p i K.n 0 q ∧ ∀ w', (execOp a.eval o).run P w' = .ok (.value (.pointer (some q))) w' := by
  obtain ⟨h0, h1, h2⟩ := at_some hi
  obtain ⟨p', cap, e1, _, _, _, hh⟩ := hR
  simp only [List.cons.injEq, Value.slice.injEq, and_true] at e1
  obtain ⟨rfl, rfl, rfl⟩ := e1
  obtain ⟨g, off, _, _, _, _, _, rfl, _⟩ := hh (by rintro rfl; simp at h1)
  refine ⟨⟨g, off + i.toNat * K.n, none⟩, ⟨g, off, rfl, rfl⟩, fun w' => ?_⟩
  have hlt : i < (xs.length : Int) := by omega
  simp [execOp, ho, E.eval hx, E.eval hy, Instr.indexAt, asIntOf, run_underlying hu, h0, hlt, hti.sizeOf, addr_add]

/-! ### Loads -/
theorem run_load_cells (g off : Nat) (cs : List Value) (h : ∀ j v, cs[j]? = some v → w.cell? ⟨g, off + j, none⟩ = some v) : (loadCells ⟨g, off, none⟩ cs.length).run P w = .ok cs.toArray w :=
  run_loadCells_list w ⟨g, off, none⟩ cs fun j v hv => by rw [addr_add]; exact h j v hv
theorem rn_load1_at {o : Oper} {t : TypeId} {x : Operand} {q : Addr} {df : TypeDesc} (E : Env n a l) (ho : o.op = .load t x) (hu : P.underlying t = some df) (hag : aggD df = false) (hx : opv l x = some (.pointer (some q))) (hc : w.cell? q = some v) :
    (execOp a.eval o).run P w = .ok (.value v) w := by
  simp [execOp, ho, E.eval hx, Instr.loadAt, Instr.sureAddr, loadVar, run_isAgg hu, hag, hc]
theorem rn_loadN_at {o : Oper} {t : TypeId} {x : Operand} {g off : Nat} {df : TypeDesc} {z : Value} {m b : Nat} {vs : List Value} (E : Env n a l) (ho : o.op = .load t x) (hu : P.underlying t = some df) (hag : aggD df = true) (hti : TI P t z m b) (hx : opv l x = some (.pointer (some ⟨g, off, none⟩)))
    (hm : vs.length = m) (hc : ∀ j v, vs[j]? = some v → w.cell? ⟨g, off + j, none⟩ = some v) : (execOp a.eval o).run P w = .ok (.value (.agg vs.toArray)) w := by
  subst hm
  simp [execOp, ho, E.eval hx, Instr.loadAt, Instr.sureAddr, loadVar, run_isAgg hu, hag, hti.sizeOf, run_load_cells g off vs hc]
theorem blk_cell {g : Nat} {cs : List Value} {T : TypeId} (h : ∃ Z S, (blk g cs T).holds w Z S) {j : Nat} (hj : cs[j]? = some v) : w.cell? ⟨g, j, none⟩ = some v := by
  obtain ⟨_, _, _, h⟩ := h
  simp [World.cell?, h, hj]
theorem rn_load1 {o : Oper} {t : TypeId} {x : Operand} {g off : Nat} {df : TypeDesc} {cs : List Value} {T : TypeId} (E : Env n a l) (ho : o.op = .load t x) (hu : P.underlying t = some df) (hag : aggD df = false) (hx : opv l x = some (.pointer (some ⟨g, off, none⟩)))
    (hb : ∃ Z S, (blk g cs T).holds w Z S) (hv : cs[off]? = some v) : (execOp a.eval o).run P w = .ok (.value v) w :=
  rn_load1_at E ho hu hag hx (blk_cell hb hv)
theorem rn_loadN {o : Oper} {t : TypeId} {x : Operand} {g off : Nat} {df : TypeDesc} {z : Value} {m b : Nat} {cs vs : List Value} {T : TypeId} (E : Env n a l) (ho : o.op = .load t x) (hu : P.underlying t = some df) (hag : aggD df = true) (hti : TI P t z m b) (hx : opv l x = some (.pointer (some ⟨g, off, none⟩)))
    (hb : ∃ Z S, (blk g cs T).holds w Z S) (hm : vs.length = m) (hv : (cs.drop off).take m = vs) : (execOp a.eval o).run P w = .ok (.value (.agg vs.toArray)) w :=
  rn_loadN_at E ho hu hag hti hx hm fun j v hj => blk_cell hb (by
    subst hv
    rw [List.getElem?_take] at hj
    split at hj
    · rw [List.getElem?_drop] at hj; exact hj
    · cases hj)
theorem rn_ld1 {o : Oper} {t : TypeId} {x : Operand} {g off : Nat} {df : TypeDesc} {cs : List Value} {T i : Nat} {I : List SP} (E : Env n a l) (H : St w0 M Y w A L) (ho : o.op = .load t x) (hu : P.underlying t = some df) (hag : aggD df = false) (hx : opv l x = some (.pointer (some ⟨g, off, none⟩)))
    (hi : L[i]? = some (blk g cs T :: I)) (hv : cs[off]? = some v) : (execOp a.eval o).run P w = .ok (.value v) w :=
  rn_load1 E ho hu hag hx (H.get hi (k := 0) rfl) hv
theorem rn_ldN {o : Oper} {t : TypeId} {x : Operand} {g off : Nat} {df : TypeDesc} {z : Value} {m b : Nat} {cs : List Value} (vs : List Value) {T i : Nat} {I : List SP} (E : Env n a l) (H : St w0 M Y w A L) (ho : o.op = .load t x) (hu : P.underlying t = some df) (hag : aggD df = true) (hti : TI P t z m b) (hx : opv l x = some (.pointer (some ⟨g, off, none⟩)))
    (hi : L[i]? = some (blk g cs T :: I)) (hm : vs.length = m) (hv : (cs.drop off).take m = vs) : (execOp a.eval o).run P w = .ok (.value (.agg vs.toArray)) w :=
  rn_loadN E ho hu hag hti hx (H.get hi (k := 0) rfl) hm hv
/-- The cells of an element. -/
theorem elem_cells {α : Type} {K : Kind α} {xs : List α} {S : FP} {p : Option Addr} {m c : Nat} {i : Int} {u : α} (hR : sliceR K w S xs [.slice p m c]) (hi : at_ xs i = some u) :
    ∃ cs, K.R w S u cs ∧ ∀ off q, Idx p i K.n off q → ∃ g o, q = ⟨g, o, none⟩ ∧ ∀ j v, cs[off + j]? = some v → w.cell? ⟨g, o + j, none⟩ = some v := by
  obtain ⟨h0, h1, h2⟩ := at_some hi
  obtain ⟨p', cap, e1, _, _, _, hh⟩ := hR
  simp only [List.cons.injEq, Value.slice.injEq, and_true] at e1
  obtain ⟨rfl, rfl, rfl⟩ := e1
  obtain ⟨g, off, pre, el, post, T, fr, rfl, _, hb, hpre, hER⟩ := hh (by rintro rfl; simp at h1)
  refine ⟨_, ER_get i.toNat u hER h2, fun off' q ⟨g', c', hp, hq⟩ => ?_⟩
  simp only [Option.some.injEq, Addr.mk.injEq, and_true] at hp
  obtain ⟨rfl, rfl⟩ := hp
  refine ⟨g, off + (i.toNat * K.n + off'), hq, fun j v hv => ?_⟩
  rw [List.getElem?_take] at hv
  split at hv
  · rw [List.getElem?_drop] at hv
    have : (pre ++ el ++ post)[off + (i.toNat * K.n + off') + j]? = some v := by
      have hlt : i.toNat * K.n + (off' + j) < el.length := (List.getElem?_eq_some_iff.1 hv).1
      rw [List.getElem?_append_left (by rw [List.length_append]; omega), List.getElem?_append_right (by omega)]
      rw [show off + (i.toNat * K.n + off') + j - pre.length = i.toNat * K.n + (off' + j) by omega]
      exact hv
    simp only [World.cell?, hb, Option.isSome_none, Bool.false_eq_true, if_false, List.getElem?_toArray]
    exact this
  · cases hv

/-! ### What makes or writes memory -/
theorem blk_new (cs : List Value) (T : TypeId) (w : World) : News w (w.alloc (.cells cs.toArray T)) [[blk w.heap.size cs T]] :=
  News.one (S := fun b => b = w.heap.size) (fun b hb => by subst hb; simp) ⟨⟨rfl, heap_alloc_new w _⟩, trivial⟩
theorem wl_alloc {T : TypeId} {z : Value} {m b : Nat} {cs : List Value} (E : Env n a l) (H : St w0 M Y w A L) (hw : Wanted ops a ⟨some d, .alloc T, ty, pos, af, gd⟩) (hti : TI P T z m b) (hz : z.cells = cs.toArray) (hd : Nat.blt d n = true)
    (h : ∀ g w' a', Env n a' ((d, .pointer (some ⟨g, 0, none⟩)) :: l) → St w0 M Y w' A ([blk g cs T] :: L) → κ a' w') : Step P ops Q ⟨some d, .alloc T, ty, pos, af, gd⟩ κ a w := by
  refine wl_val (v := .pointer (some ⟨w.heap.size, 0, none⟩)) (w' := w.alloc (.cells cs.toArray T)) E hw ?_ hd fun a' E' => h w.heap.size _ a' E' (H.news (Chg.alloc _ _ _) (blk_new cs T w))
  simp [execOp, Instr.alloc, hti.zeroValue, newVar, newRow, hz]
theorem wl_box {T : TypeId} {x : Operand} {cs : List Value} (E : Env n a l) (H : St w0 M Y w A L) (hw : Wanted ops a ⟨some d, .box T x, ty, pos, af, gd⟩) (hx : opv l x = some v) (hv : v.cells = cs.toArray) (hd : Nat.blt d n = true)
    (h : ∀ g w' a', Env n a' ((d, .pointer (some ⟨g, 0, none⟩)) :: l) → St w0 M Y w' A ([blk g cs T] :: L) → κ a' w') : Step P ops Q ⟨some d, .box T x, ty, pos, af, gd⟩ κ a w := by
  refine wl_val (v := .pointer (some ⟨w.heap.size, 0, none⟩)) (w' := w.alloc (.cells cs.toArray T)) E hw ?_ hd fun a' E' => h w.heap.size _ a' E' (H.news (Chg.alloc _ _ _) (blk_new cs T w))
  simp [execOp, E.eval hx, Instr.box, newVar, newRow, hv]
theorem rn_build {o : Oper} {T : TypeId} {parts : Array (Nat × Operand)} {ps : List (Nat × Value)} {cs : List Value} (E : Env n a l) (ho : o.op = .build T parts) (hps : parts.toList.map (fun p => (p.1, opv l p.2)) = ps.map (fun p => (p.1, some p.2))) (h : P.built T ps = some cs.toArray) :
    (execOp a.eval o).run P w = .ok (.value (.agg cs.toArray)) w := by
  have e : parts.map (fun x => (x.1, a.eval x.2)) = ps.toArray := by
    apply Array.ext'
    rw [Array.toList_map]
    have : ∀ (ys : List (Nat × Operand)) (zs : List (Nat × Value)), ys.map (fun p => (p.1, opv l p.2)) = zs.map (fun p => (p.1, some p.2)) → ys.map (fun p => (p.1, a.eval p.2)) = zs := by
      intro ys
      induction ys with
      | nil => intro zs h; cases zs with | nil => rfl | cons _ _ => simp at h
      | cons y ys ih =>
        intro zs h
        cases zs with
        | nil => simp at h
        | cons z zs =>
          simp only [List.map_cons, List.cons.injEq, Prod.mk.injEq] at h
          rw [List.map_cons, ih zs h.2, h.1.1, E.eval h.1.2]
    exact this _ _ hps
  have hb := run_build (P := P) w T (parts.map fun x => (x.1, a.eval x.2)) cs.toArray (by rw [e]; exact h)
  simp [execOp, ho, hb]
theorem Chg.setRow {g : Nat} (cs : Array Value) {S : FP} (hg : S g) : Chg w (w.setRow g cs) S :=
  ⟨rfl, rfl, rfl, by simp, fun b _ hn => setRow_other w g b cs (fun e => hn (e ▸ hg))⟩
theorem wl_store {t : TypeId} {x y : Operand} {g off i : Nat} {cs cs' vs : List Value} {T : TypeId} {z : Value} {m b : Nat} (E : Env n a l) (H : St w0 M Y w A L) (hw : Wanted ops a ⟨none, .store t x y, ty, pos, af, gd⟩) (hx : opv l x = some (.pointer (some ⟨g, off, none⟩))) (hy : opv l y = some v)
    (hi : L[i]? = some [blk g cs T]) (hti : TI P t z m b) (hv : v.cells = vs.toArray) (hm : vs.length = m) (h1 : vs.all Value.oneCell' = true) (hfit : Nat.ble (off + m) cs.length = true) (hcs : cs.take off ++ vs ++ cs.drop (off + m) = cs') (hL : L.set i [blk g cs' T] = L')
    (h : ∀ w' a', Env n a' l → St w0 M Y w' A L' → κ a' w') : Step P ops Q ⟨none, .store t x y, ty, pos, af, gd⟩ κ a w := by
  subst hm hL hcs
  have hfit' : off + vs.length ≤ cs.length := Nat.le_of_ble_eq_true hfit
  obtain ⟨_, S, ⟨hS, hb⟩, _⟩ := H.item hi
  have hst := run_storeCells_at P g off T vs 0 cs.toArray w hb (by simpa using hfit') (fun u hu => List.all_eq_true.1 h1 u hu)
  simp only [Nat.add_zero] at hst
  refine wl_unit (w' := w.setRow g (cs.take off ++ vs ++ cs.drop (off + vs.length)).toArray) E hw ?_ fun a' E' => h _ a' E' (H.upd hi fun _ S1 _ _ _ _ ⟨⟨h2, h3⟩, _⟩ => ⟨S1, ⟨⟨h2, setRow_heap w g _ _ T (0, 0) h3⟩, trivial⟩, fun b hb => .inl hb, Chg.setRow _ h2⟩)
  simp [execOp, E.eval hx, E.eval hy, Instr.storeAt, Instr.sureAddr, storeVar, hti.sizeOf, hv, hst]
end
end Go.Gx
