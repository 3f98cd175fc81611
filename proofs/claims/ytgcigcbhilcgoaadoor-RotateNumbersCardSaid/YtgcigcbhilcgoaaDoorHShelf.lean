/- Contracts of the kit's shelf, told in the walk's words. -/
import Derived.Test.YtgcigcbhilcgoaaDoorHTri4
import Derived.Sort.Row
import Derived.Sort.Grow
import Derived.Lib.LaidTab
import Derived.Deep.Draws
set_option linter.unusedVariables false
namespace Go.Gx
open Go.RowKit
section
variable {P : Program} {f : FuncId} {args : Array Value} {Ac : List VP} {v : Value}
theorem Below.chg {w w' : World} {T : FP} (h : Below w.heap.size w w') : Chg w w' T := ⟨h.os, h.tape, h.output, h.size, fun b hb _ => h.block b hb⟩
/-- What writes nothing and hands back a plain value. -/
theorem funG_below {τ : Type} {v : τ → Value} (h : ∀ w Z, (∀ b, Z b → b < w.heap.size) → argHolds w Ac Z → Calls P f args w fun e w' => (∃ t, e = .returned (v t)) ∧ Below w.heap.size w w') : FunG P f args Ac [] v (fun _ => []) (fun _ => []) := fun w Z S hZ _ _ hA _ =>
  (h w Z hZ hA).mono fun e w' ⟨⟨t, he⟩, hb⟩ => ⟨t, he, Below.chg hb, Nil, Nil, trivial, trivial, fun _ h => h.elim, fun _ h => h.elim, fun _ h => h.elim⟩
theorem grow_below (w : World) (k : Nat) (os : Array Obj) : Below w.heap.size w (Sort.grow (w.drewN k) os) := by
  refine ⟨rfl, rfl, rfl, ?_, fun b hb => ?_⟩
  · show w.heap.size ≤ (w.heap ++ os).size
    simp
  · show (w.heap ++ os)[b]? = w.heap[b]?
    rw [Array.getElem?_append_left hb]
/-- The cells of a row of integers. -/
theorem EO_ints {k : IntKind} {w : World} {Z S : FP} : ∀ xs : List Int, EO (kInt k) w Z xs S (xs.map (Value.int k)) := fun xs => flat_EO (S := Nil) (flatK_int k) (ER_intsS xs)
where ER_intsS {k : IntKind} {w : World} {S : FP} : ∀ xs : List Int, ER (kInt k) w xs S (xs.map (Value.int k))
  | [] => rfl
  | x :: xs => ⟨[.int k x], xs.map (Value.int k), rfl, rfl, ER_intsS xs⟩
theorem ER_ints_eq {k : IntKind} {w : World} {S : FP} : ∀ {xs : List Int} {cs : List Value}, ER (kInt k) w xs S cs → cs = xs.map (Value.int k)
  | [], _, h => h
  | x :: xs, _, ⟨c1, c2, e, h1, h2⟩ => by
    have h1 : c1 = [Value.int k x] := h1
    rw [e, h1, ER_ints_eq h2]; rfl
/-- The world after the row's cells were put anew. -/
theorem putRow_heap {w : World} {g off : Nat} {pre post : List Value} {xs ys : List Int} {k : IntKind} {E : TypeId} (hh : w.heap[g]? = some (.cells (pre ++ xs.map (Value.int k) ++ post).toArray E (0, 0))) (ho : pre.length = off) (hl : ys.length = xs.length) (n : Nat) :
    (Sort.putRow (Value.int k) (Sort.ahead w n) g off ys.toArray).heap[g]? = some (.cells (pre ++ ys.map (Value.int k) ++ post).toArray E (0, 0)) := by
  unfold Sort.putRow Sort.mapBlock
  show (w.heap.modify g _)[g]? = _
  rw [Array.getElem?_modify, if_pos rfl, hh]
  simp only [Option.map_some, Sort.onCells, Option.some.injEq, Obj.cells.injEq, and_true]
  apply Array.ext_getElem?
  intro j
  unfold Sort.putCells
  rw [Array.getElem?_mapIdx, List.getElem?_toArray, List.getElem?_toArray]
  subst ho
  rcases Nat.lt_or_ge j pre.length with h | h
  · rw [List.append_assoc, List.append_assoc, List.getElem?_append_left h, List.getElem?_append_left h, List.getElem?_eq_getElem h]
    simp only [Option.map_some]
    rw [if_neg (by omega)]
  · rcases Nat.lt_or_ge j (pre.length + xs.length) with h2 | h2
    · rw [List.append_assoc, List.append_assoc, List.getElem?_append_right h, List.getElem?_append_right h, List.getElem?_append_left (by simp; omega), List.getElem?_append_left (by simp; omega), List.getElem?_map, List.getElem?_map]
      have a1 : j - pre.length < xs.length := by omega
      have a2 : j - pre.length < ys.length := by omega
      rw [List.getElem?_eq_getElem a1, List.getElem?_eq_getElem a2]
      simp only [Option.map_some]
      rw [if_pos ⟨h, by simp; omega⟩]
      congr 1
      simp [getElem!_pos, a2]
    · rw [List.getElem?_append_right (by simp; omega), List.getElem?_append_right (by simp; omega)]
      have e1 : (pre ++ xs.map (Value.int k)).length = (pre ++ ys.map (Value.int k)).length := by simp [hl]
      rw [e1]
      cases hp : post[j - (pre ++ ys.map (Value.int k)).length]? with
      | none => rfl
      | some u =>
        simp only [Option.map_some]
        rw [if_neg (by simp; omega)]
theorem putRow_other {w : World} {g off : Nat} {ys : List Int} {k : IntKind} (n : Nat) {b : Nat} (h : b ≠ g) : (Sort.putRow (Value.int k) (Sort.ahead w n) g off ys.toArray).heap[b]? = w.heap[b]? := by
  unfold Sort.putRow Sort.mapBlock
  show (w.heap.modify g _)[b]? = _
  rw [Array.getElem?_modify, if_neg (fun e => h e.symm)]
theorem putRow_size {w : World} {g off : Nat} {ys : List Int} {k : IntKind} (n : Nat) : (Sort.putRow (Value.int k) (Sort.ahead w n) g off ys.toArray).heap.size = w.heap.size := by
  unfold Sort.putRow Sort.mapBlock
  show (w.heap.modify g _).size = _
  simp
theorem holds_ints {w : World} {g off : Nat} {pre post : List Value} {xs : List Int} {k : IntKind} {E : TypeId} (hh : w.heap[g]? = some (.cells (pre ++ xs.map (Value.int k) ++ post).toArray E (0, 0))) (ho : pre.length = off) : Sort.Holds (Value.int k) w g off xs.toArray := fun j hj => by
  have hj' : j < xs.length := by simpa using hj
  refine ⟨row_cells hh ho j _ ?_, by simp [World.frozen?, hh]⟩
  rw [List.getElem?_map, List.getElem?_eq_getElem hj']
  simp [getElem!_pos, hj']
/-- A function that puts a row of integers anew in its place; what it hands back is told by v. -/
theorem funG_put {E : TypeId} {k : IntKind} {xs ys zs : List Int} {p : Option Addr} {m c : Nat} {τ : Type} {v : τ → Value} {N : τ → List (List SP)}
    (hnil : xs = [] → m = 0 → ∀ w, Calls P f #[.slice p 0 c] w fun e w' => (∃ t, e = .returned (v t) ∧ N t = [[row E (kInt k) zs (.slice p 0 c)]]) ∧ zs = [] ∧ w' = w)
    (hcall : m = xs.length → ∀ g off w, p = some ⟨g, off, none⟩ → xs ≠ [] → Sort.Holds (Value.int k) w g off xs.toArray → g < w.heap.size → xs.length ≤ c → Calls P f #[.slice p xs.length c] w fun e w' => (∃ t, e = .returned (v t) ∧ N t = [[row E (kInt k) zs (.slice p zs.length c)]]) ∧ ∃ n os, w' = Sort.grow (Sort.putRow (Value.int k) (Sort.ahead w n) g off ys.toArray) os)
    (hys : xs ≠ [] → ys.length = xs.length ∧ ∃ rest, ys = zs ++ rest) : FunG P f #[.slice p m c] [] [[row E (kInt k) xs (.slice p m c)]] v (fun _ => []) N := fun w Z S hZ hS hd _ ⟨S1, _, e1, _, _, ⟨hR, _⟩, _⟩ => by
  rcases hR with ⟨⟨q, e⟩, rfl⟩ | ⟨g, off, cap, pre, el, post, e, hg, hh, ho, hl, hp, hm, S', h1, h2, hE⟩
  · simp only [List.cons.injEq, Value.slice.injEq, and_true] at e
    obtain ⟨rfl, rfl, rfl⟩ := e
    refine (hnil rfl rfl w).mono fun e w' ⟨⟨t, he, hN⟩, hz, hw⟩ => ?_
    subst hw hz
    refine ⟨t, he, Chg.refl _ _, Nil, Nil, trivial, ?_, fun _ h => h.elim, fun _ h => h.elim, fun _ h => h.elim⟩
    rw [hN]
    exact ⟨Nil, Nil, fun _ h => h, fun _ h => h.elim, fun _ h => h.elim, ⟨.inl ⟨⟨p, rfl⟩, rfl⟩, trivial⟩, trivial⟩
  · simp only [List.cons.injEq, Value.slice.injEq, and_true] at e
    obtain ⟨rfl, rfl, rfl⟩ := e
    by_cases hx : xs = []
    · subst hx
      refine (hnil rfl rfl w).mono fun e w' ⟨⟨t, he, hN⟩, hz, hw⟩ => ?_
      subst hw hz
      refine ⟨t, he, Chg.refl _ _, Nil, S1, trivial, ?_, fun _ h => h.elim, fun _ h => h.elim, fun b hb => ⟨hS b (e1 b hb), .inr (e1 b hb)⟩⟩
      rw [hN]
      exact ⟨S1, Nil, fun _ h => h, fun _ h => h.elim, fun _ _ h => h.elim, ⟨.inr ⟨g, off, c, pre, el, post, rfl, hg, hh, ho, hl, hp, hm, Nil, fun _ h => h.elim, fun h => h, by cases el with | nil => rfl | cons _ _ => exact absurd (EO_len hE) (by simp)⟩, trivial⟩, trivial⟩
    · obtain rfl := ER_ints_eq (EO_ER hE)
      have hgs := hS g (e1 g hg)
      obtain ⟨hyl, rest, hyz⟩ := hys hx
      refine (hcall rfl g off w rfl hx (holds_ints hh ho) hgs hl).mono fun e w' ⟨⟨t, he, hN⟩, n, os, hw⟩ => ?_
      subst hw
      have hsz := putRow_size (w := w) (g := g) (off := off) (ys := ys) (k := k) n
      have hold : ∀ b, b < w.heap.size → (Sort.grow (Sort.putRow (Value.int k) (Sort.ahead w n) g off ys.toArray) os).heap[b]? = (Sort.putRow (Value.int k) (Sort.ahead w n) g off ys.toArray).heap[b]? := fun b hb => Sort.heap_grow_old _ _ (by rw [hsz]; exact hb)
      refine ⟨t, he, ⟨rfl, rfl, rfl, ?_, fun b hb hn => ?_⟩, Nil, S1, trivial, ?_, fun _ h => h.elim, fun _ h => h.elim, fun b hb => ⟨?_, .inr (e1 b hb)⟩⟩
      · show w.heap.size ≤ ((Sort.putRow (Value.int k) (Sort.ahead w n) g off ys.toArray).heap ++ os).size
        rw [Array.size_append, hsz]; omega
      · rw [hold b hb, putRow_other n (fun e : b = g => hn (by rw [e]; exact e1 g hg))]
      · rw [hN]
        have hzl : zs.length ≤ xs.length := by rw [← hyl, hyz, List.length_append]; omega
        refine ⟨S1, Nil, fun _ h => h, fun _ h => h.elim, fun _ _ h => h.elim, ⟨.inr ⟨g, off, c, pre, zs.map (Value.int k), rest.map (Value.int k) ++ post, rfl, hg, ?_, ho, by omega, ?_, hm, Nil, fun _ h => h.elim, fun h => h, EO_ints zs⟩, trivial⟩, trivial⟩
        · rw [hold g hgs, putRow_heap hh ho hyl n, hyz, List.map_append]
          simp only [List.append_assoc]
        · have h3 : ys.length = zs.length + rest.length := by rw [hyz, List.length_append]
          have h4 : (kInt k).n = 1 := rfl
          rw [h4] at hp ⊢
          rw [List.length_append, List.length_map]
          omega
      · show b < ((Sort.putRow (Value.int k) (Sort.ahead w n) g off ys.toArray).heap ++ os).size
        rw [Array.size_append, hsz]
        have := hS b (e1 b hb)
        omega
end
/-! ### Variables of the program that are laid -/
def gv (P : Program) (name : String) (g : Nat) (hg : P.globalNamed name = some g) (φ : Array Value → Prop) : VP where
  holds w Z := Z g ∧ ∃ cs, w.var? P name = some cs ∧ φ cs
  mono h := fun ⟨a, b⟩ => ⟨h _ a, b⟩
  loc h := fun ⟨a, cs, hc, hp⟩ => ⟨a, cs, by
    unfold World.var? at hc ⊢
    rw [hg, Option.bind_some] at hc ⊢
    rw [h _ a]; exact hc, hp⟩
/-! ### Errors -/
/-- nil, or an error of this type, whose cells lie in block N. -/
def errV (t : TypeId) (b : Bool) (N : Nat) : Value := match b with | true => .iface t (.pointer (some ⟨N, 0, none⟩)) | false => .nilIface
section
variable {P : Program} {n : Nat} {l : List (Nat × Value)} {ty tx : TypeId} {pos : String} {af : Array Edge} {x y : Operand} {dd : Option Nat} {gg : Option (Nat × Bool)}
theorem r_neErr {t te ty' : TypeId} {ms : Array (String × TypeId)} {b : Bool} {N : Nat} (hu : P.underlying t = some (.interface ms)) (hx : opv l x = some (errV te b N)) : RP P ⟨dd, .binOp .neq t x (.const .nilIface) ty', ty, pos, af, gg⟩ n l (.bool b) := fun a w E => by
  have e : (Op.equal t (errV te b N) .nilIface).run P w = .ok (!b) w := by
    show (Op.equalIn (9999 + 1) t _ _).run P w = _
    rw [Op.equalIn, Sem.run_bind, run_underlying hu]
    cases b <;> rfl
  cases b <;> simp [execOp, E.eval hx, errV, eqGuard, binOp] <;> simp [errV] at e <;> simp [e, Act.eval]
end
end Go.Gx
