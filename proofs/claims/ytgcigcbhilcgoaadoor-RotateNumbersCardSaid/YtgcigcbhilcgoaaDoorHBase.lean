/- What a value leads to: sets of blocks, kinds of values, rows of elements; slices that own their array, and slices that are read. -/
import Derived.WalkKit
import Derived.KernelRfl
import Derived.OrdersHeld
import Derived.Laws.IdiomCopy
import Derived.RowKit3
namespace Go.Gx
open Go.RowKit

/-- A set of blocks. -/
abbrev FP := Nat → Prop
abbrev Nil : FP := fun _ => False
/-- On these blocks both worlds are alike. -/
def Agree (w w' : World) (S : FP) : Prop := ∀ b, S b → w'.heap[b]? = w.heap[b]?

/-- What a set of blocks of its own holds; the first set is what all share and nobody writes. -/
structure SP where
  holds : World → FP → FP → Prop
  mono : ∀ {w : World} {Z Z' S S' : FP}, (∀ b, Z b → Z' b) → (∀ b, S b → S' b) → holds w Z S → holds w Z' S'
  loc : ∀ {w w' : World} {Z S : FP}, Agree w w' Z → Agree w w' S → holds w Z S → holds w' Z S

/-- A block of its own, with these cells. -/
def blk (g : Nat) (cs : List Value) (T : TypeId) : SP where
  holds w _ S := S g ∧ w.heap[g]? = some (.cells cs.toArray T (0, 0))
  mono _ h := fun ⟨a, b⟩ => ⟨h _ a, b⟩
  loc _ h := fun ⟨a, b⟩ => ⟨a, (h _ a).trans b⟩

/-- How a Go value of one type lies in cells: 'O': it owns what it leads to (of what is shared it may read Z); 'R': it can be read. -/
structure Kind (α : Type) where
  n : Nat
  O : World → FP → FP → α → List Value → Prop
  R : World → FP → α → List Value → Prop
  monoO : ∀ {w : World} {Z Z' S S' : FP} {x : α} {cs : List Value}, (∀ b, Z b → Z' b) → (∀ b, S b → S' b) → O w Z S x cs → O w Z' S' x cs
  monoR : ∀ {w : World} {S S' : FP} {x : α} {cs : List Value}, (∀ b, S b → S' b) → R w S x cs → R w S' x cs
  locO : ∀ {w w' : World} {Z S : FP} {x : α} {cs : List Value}, Agree w w' Z → Agree w w' S → O w Z S x cs → O w' Z S x cs
  locR : ∀ {w w' : World} {S : FP} {x : α} {cs : List Value}, Agree w w' S → R w S x cs → R w' S x cs
  OR : ∀ {w : World} {Z S : FP} {x : α} {cs : List Value}, O w Z S x cs → R w (fun b => Z b ∨ S b) x cs
  len : ∀ {w : World} {S : FP} {x : α} {cs : List Value}, R w S x cs → cs.length = n
  one : ∀ {w : World} {S : FP} {x : α} {cs : List Value}, R w S x cs → ∀ v, v ∈ cs → v.oneCell' = true
theorem Kind.lenO {α : Type} (K : Kind α) {w : World} {Z S : FP} {x : α} {cs : List Value} (h : K.O w Z S x cs) : cs.length = K.n := K.len (K.OR h)

def kInt (k : IntKind) : Kind Int where
  n := 1
  O _ _ _ x cs := cs = [.int k x]
  R _ _ x cs := cs = [.int k x]
  monoO _ _ h := h
  monoR _ h := h
  locO _ _ h := h
  locR _ h := h
  OR h := h
  len h := by subst h; rfl
  one h := by subst h; intro v hv; simp at hv; subst hv; rfl
def kBool : Kind Bool where
  n := 1
  O _ _ _ x cs := cs = [.bool x]
  R _ _ x cs := cs = [.bool x]
  monoO _ _ h := h
  monoR _ h := h
  locO _ _ h := h
  locR _ h := h
  OR h := h
  len h := by subst h; rfl
  one h := by subst h; intro v hv; simp at hv; subst hv; rfl
def kStr : Kind ByteArray where
  n := 1
  O _ _ _ x cs := cs = [.string x]
  R _ _ x cs := cs = [.string x]
  monoO _ _ h := h
  monoR _ h := h
  locO _ _ h := h
  locR _ h := h
  OR h := h
  len h := by subst h; rfl
  one h := by subst h; intro v hv; simp at hv; subst hv; rfl
/-- What leads to shared memory alone. -/
def kShare {α : Type} (K : Kind α) : Kind α where
  n := K.n
  O w Z _ x cs := K.R w Z x cs
  R := K.R
  monoO hz _ h := K.monoR hz h
  monoR := K.monoR
  locO hz _ h := K.locR hz h
  locR := K.locR
  OR h := K.monoR (fun _ h => .inl h) h
  len := K.len
  one := K.one

def kPair {α β : Type} (K : Kind α) (J : Kind β) : Kind (α × β) where
  n := K.n + J.n
  O w Z S x cs := ∃ c1 c2 S1 S2, cs = c1 ++ c2 ∧ (∀ b, S1 b → S b) ∧ (∀ b, S2 b → S b) ∧ (∀ b, S1 b → ¬ S2 b) ∧ K.O w Z S1 x.1 c1 ∧ J.O w Z S2 x.2 c2
  R w S x cs := ∃ c1 c2, cs = c1 ++ c2 ∧ K.R w S x.1 c1 ∧ J.R w S x.2 c2
  monoO hz hs h := by
    obtain ⟨c1, c2, S1, S2, e, h1, h2, hd, k1, k2⟩ := h
    exact ⟨c1, c2, S1, S2, e, fun b h => hs b (h1 b h), fun b h => hs b (h2 b h), hd, K.monoO hz (fun _ h => h) k1, J.monoO hz (fun _ h => h) k2⟩
  monoR hs := fun ⟨c1, c2, e, k1, k2⟩ => ⟨c1, c2, e, K.monoR hs k1, J.monoR hs k2⟩
  locO hz hs := fun ⟨c1, c2, S1, S2, e, h1, h2, hd, k1, k2⟩ => ⟨c1, c2, S1, S2, e, h1, h2, hd, K.locO hz (fun b h => hs b (h1 b h)) k1, J.locO hz (fun b h => hs b (h2 b h)) k2⟩
  locR hs := fun ⟨c1, c2, e, k1, k2⟩ => ⟨c1, c2, e, K.locR hs k1, J.locR hs k2⟩
  OR := fun ⟨c1, c2, S1, S2, e, h1, h2, _, k1, k2⟩ => ⟨c1, c2, e, K.monoR (fun b h => h.imp id (h1 b)) (K.OR k1), J.monoR (fun b h => h.imp id (h2 b)) (J.OR k2)⟩
  len := fun ⟨c1, c2, e, k1, k2⟩ => by subst e; rw [List.length_append, K.len k1, J.len k2]
  one := fun ⟨c1, c2, e, k1, k2⟩ => by
    subst e
    intro v hv
    rcases List.mem_append.1 hv with h | h
    · exact K.one k1 v h
    · exact J.one k2 v h

def kIso {α β : Type} (K : Kind α) (f : β → α) : Kind β where
  n := K.n
  O w Z S x cs := K.O w Z S (f x) cs
  R w S x cs := K.R w S (f x) cs
  monoO := K.monoO
  monoR := K.monoR
  locO := K.locO
  locR := K.locR
  OR := K.OR
  len := K.len
  one := K.one

/-! ### Rows of elements -/
section
variable {α : Type} (K : Kind α) (w : World) (Z : FP)
def EO : List α → FP → List Value → Prop
  | [], _, cs => cs = []
  | x :: xs, S, cs => ∃ c1 c2 S1 S2, cs = c1 ++ c2 ∧ (∀ b, S1 b → S b) ∧ (∀ b, S2 b → S b) ∧ (∀ b, S1 b → ¬ S2 b) ∧ K.O w Z S1 x c1 ∧ EO xs S2 c2
def ER : List α → FP → List Value → Prop
  | [], _, cs => cs = []
  | x :: xs, S, cs => ∃ c1 c2, cs = c1 ++ c2 ∧ K.R w S x c1 ∧ ER xs S c2
end
section
variable {α : Type} {K : Kind α} {w w' : World} {Z Z' S S' : FP}
theorem EO_mono (hz : ∀ b, Z b → Z' b) : ∀ {xs : List α} {S S' : FP} {cs : List Value}, (∀ b, S b → S' b) → EO K w Z xs S cs → EO K w Z' xs S' cs
  | [], _, _, _, _, h => h
  | _ :: _, _, _, _, hs, ⟨c1, c2, S1, S2, e, h1, h2, hd, k1, k2⟩ => ⟨c1, c2, S1, S2, e, fun b h => hs b (h1 b h), fun b h => hs b (h2 b h), hd, K.monoO hz (fun _ h => h) k1, EO_mono hz (fun _ h => h) k2⟩
theorem ER_mono (hs : ∀ b, S b → S' b) : ∀ {xs : List α} {cs : List Value}, ER K w xs S cs → ER K w xs S' cs
  | [], _, h => h
  | _ :: _, _, ⟨c1, c2, e, k1, k2⟩ => ⟨c1, c2, e, K.monoR hs k1, ER_mono hs k2⟩
theorem EO_loc (hz : Agree w w' Z) : ∀ {xs : List α} {S : FP} {cs : List Value}, Agree w w' S → EO K w Z xs S cs → EO K w' Z xs S cs
  | [], _, _, _, h => h
  | _ :: _, _, _, hs, ⟨c1, c2, S1, S2, e, h1, h2, hd, k1, k2⟩ => ⟨c1, c2, S1, S2, e, h1, h2, hd, K.locO hz (fun b h => hs b (h1 b h)) k1, EO_loc hz (fun b h => hs b (h2 b h)) k2⟩
theorem ER_loc (hs : Agree w w' S) : ∀ {xs : List α} {cs : List Value}, ER K w xs S cs → ER K w' xs S cs
  | [], _, h => h
  | _ :: _, _, ⟨c1, c2, e, k1, k2⟩ => ⟨c1, c2, e, K.locR hs k1, ER_loc hs k2⟩
theorem EO_ER : ∀ {xs : List α} {S : FP} {cs : List Value}, EO K w Z xs S cs → ER K w xs (fun b => Z b ∨ S b) cs
  | [], _, _, h => h
  | _ :: _, _, _, ⟨c1, c2, _, _, e, h1, h2, _, k1, k2⟩ => ⟨c1, c2, e, K.monoR (fun b h => h.imp id (h1 b)) (K.OR k1), ER_mono (fun b h => h.imp id (h2 b)) (EO_ER k2)⟩
theorem ER_EO_share : ∀ {xs : List α} {S : FP} {cs : List Value}, ER K w xs Z cs → EO (kShare K) w Z xs S cs
  | [], _, _, h => h
  | _ :: _, _, _, ⟨c1, c2, e, k1, k2⟩ => ⟨c1, c2, Nil, Nil, e, fun _ h => h.elim, fun _ h => h.elim, fun _ h => h.elim, k1, ER_EO_share k2⟩
theorem ER_len : ∀ {xs : List α} {cs : List Value}, ER K w xs S cs → cs.length = xs.length * K.n
  | [], _, h => by subst h; simp
  | _ :: xs, _, ⟨c1, c2, e, k1, k2⟩ => by subst e; rw [List.length_append, K.len k1, ER_len k2, List.length_cons, Nat.succ_mul]; omega
theorem EO_len {xs : List α} {cs : List Value} (h : EO K w Z xs S cs) : cs.length = xs.length * K.n := ER_len (EO_ER h)
theorem ER_one : ∀ {xs : List α} {cs : List Value}, ER K w xs S cs → ∀ v, v ∈ cs → v.oneCell' = true
  | [], _, h => by subst h; intro v hv; cases hv
  | _ :: xs, _, ⟨c1, c2, e, k1, k2⟩ => by
    subst e
    intro v hv
    rcases List.mem_append.1 hv with h | h
    · exact K.one k1 v h
    · exact ER_one k2 v h
/-- The element at i. -/
theorem ER_get : ∀ {xs : List α} {cs : List Value} (i : Nat) (x : α), ER K w xs S cs → xs[i]? = some x → K.R w S x ((cs.drop (i * K.n)).take K.n)
  | [], _, _, _, _, hi => by simp at hi
  | x :: xs, _, 0, y, ⟨c1, c2, e, k1, k2⟩, hi => by
    subst e
    obtain rfl : x = y := by simpa using hi
    have hl := K.len k1
    simp only [Nat.zero_mul, List.drop_zero]
    rw [List.take_append_of_le_length (by omega), List.take_of_length_le (by omega)]
    exact k1
  | x :: xs, _, i + 1, y, ⟨c1, c2, e, k1, k2⟩, hi => by
    subst e
    have hl := K.len k1
    have h := ER_get i y k2 (by simpa using hi)
    have e : (i + 1) * K.n = c1.length + i * K.n := by rw [Nat.succ_mul]; omega
    rw [e, List.drop_append, List.drop_of_length_le (by omega), List.nil_append, Nat.add_sub_cancel_left]
    exact h
theorem ER_append : ∀ {xs ys : List α} {c d : List Value}, ER K w xs S c → ER K w ys S d → ER K w (xs ++ ys) S (c ++ d)
  | [], _, _, _, h, k => by subst h; exact k
  | x :: xs, ys, _, d, ⟨c1, c2, e, k1, k2⟩, k => ⟨c1, c2 ++ d, by subst e; simp, k1, ER_append k2 k⟩
theorem ER_split : ∀ {xs ys : List α} {cs : List Value}, ER K w (xs ++ ys) S cs → ∃ c d, cs = c ++ d ∧ ER K w xs S c ∧ ER K w ys S d
  | [], _, cs, h => ⟨[], cs, rfl, rfl, h⟩
  | x :: xs, ys, _, ⟨c1, c2, e, k1, k2⟩ => by
    obtain ⟨c, d, e2, h1, h2⟩ := ER_split k2
    exact ⟨c1 ++ c, d, by subst e e2; simp, ⟨c1, c, rfl, k1, h1⟩, h2⟩
theorem EO_append : ∀ {xs ys : List α} {S T U : FP} {c d : List Value}, EO K w Z xs S c → EO K w Z ys T d → (∀ b, S b → ¬ T b) → (∀ b, S b → U b) → (∀ b, T b → U b) → EO K w Z (xs ++ ys) U (c ++ d)
  | [], _, _, _, _, _, _, h, k, _, _, hu => by subst h; exact EO_mono (fun _ h => h) hu k
  | x :: xs, ys, S, T, U, _, d, ⟨c1, c2, S1, S2, e, h1, h2, hd, k1, k2⟩, k, hdis, hsu, htu =>
    ⟨c1, c2 ++ d, S1, fun b => S2 b ∨ T b, by subst e; simp, fun b h => hsu b (h1 b h), fun b h => h.elim (fun h => hsu b (h2 b h)) (htu b), fun b h => fun hh => hh.elim (hd b h) (hdis b (h1 b h)), k1,
      EO_append k2 k (fun b h => hdis b (h2 b h)) (fun b h => .inl h) (fun b h => .inr h)⟩
theorem EO_split : ∀ {xs ys : List α} {S : FP} {cs : List Value}, EO K w Z (xs ++ ys) S cs → ∃ c d S1 S2, cs = c ++ d ∧ (∀ b, S1 b → S b) ∧ (∀ b, S2 b → S b) ∧ (∀ b, S1 b → ¬ S2 b) ∧ EO K w Z xs S1 c ∧ EO K w Z ys S2 d
  | [], _, S, cs, h => ⟨[], cs, fun _ => False, S, rfl, fun _ h => h.elim, fun _ h => h, fun _ h => h.elim, rfl, h⟩
  | x :: xs, ys, S, _, ⟨c1, c2, S1, S2, e, h1, h2, hd, k1, k2⟩ => by
    obtain ⟨c, d, T1, T2, e2, g1, g2, gd, l1, l2⟩ := EO_split k2
    exact ⟨c1 ++ c, d, fun b => S1 b ∨ T1 b, T2, by subst e e2; simp, fun b h => h.elim (h1 b) (fun h => h2 b (g1 b h)), fun b h => h2 b (g2 b h),
      fun b h hh => h.elim (fun h => hd b h (g2 b hh)) (fun h => gd b h hh), ⟨c1, c, S1, T1, rfl, fun b h => .inl h, fun b h => .inr h, fun b h hh => hd b h (g1 b hh), k1, l1⟩, l2⟩
theorem EO_replicate {x : α} {cs : List Value} (h : K.O w Z Nil x cs) : ∀ k, EO K w Z (List.replicate k x) Nil (List.replicate k cs).flatten
  | 0 => rfl
  | k + 1 => ⟨cs, _, Nil, Nil, by simp [List.replicate_succ], fun _ h => h, fun _ h => h, fun _ h => h.elim, h, EO_replicate h k⟩
end

/-! ### Slices -/
/-- A slice that can be read. -/
def sliceR {α : Type} (K : Kind α) (w : World) (S : FP) (xs : List α) (cs : List Value) : Prop :=
  ∃ a cap, cs = [.slice a xs.length cap] ∧ xs.length ≤ cap ∧ cap ≤ maxLen ∧ (a = none → cap = 0) ∧
    (xs ≠ [] → ∃ g off pre el post T fr, a = some ⟨g, off, none⟩ ∧ S g ∧ w.heap[g]? = some (.cells (pre ++ el ++ post).toArray T fr) ∧ pre.length = off ∧ ER K w xs S el)
/-- A slice that owns its array. -/
def sliceO {α : Type} (E : TypeId) (K : Kind α) (w : World) (Z S : FP) (xs : List α) (cs : List Value) : Prop :=
  ((∃ p, cs = [.slice p 0 0]) ∧ xs = []) ∨
  ∃ g off cap pre el post, cs = [.slice (some ⟨g, off, none⟩) xs.length cap] ∧ S g ∧ w.heap[g]? = some (.cells (pre ++ el ++ post).toArray E (0, 0)) ∧ pre.length = off ∧
    xs.length ≤ cap ∧ (cap - xs.length) * K.n ≤ post.length ∧ cap ≤ maxLen ∧ ∃ S', (∀ b, S' b → S b) ∧ ¬ S' g ∧ EO K w Z xs S' el
def kSlice {α : Type} (E : TypeId) (K : Kind α) : Kind (List α) where
  n := 1
  O := sliceO E K
  R := sliceR K
  monoO hz hs := fun h => h.imp id fun ⟨g, off, cap, pre, el, post, e, hg, hh, ho, hl, hp, hm, S', h1, h2, h3⟩ => ⟨g, off, cap, pre, el, post, e, hs _ hg, hh, ho, hl, hp, hm, S', fun b h => hs b (h1 b h), h2, EO_mono hz (fun _ h => h) h3⟩
  monoR hs := fun ⟨a, cap, e, hl, hm, hn, h⟩ => ⟨a, cap, e, hl, hm, hn, fun hx => by
    obtain ⟨g, off, pre, el, post, T, fr, h1, h2, h3, h4, h5⟩ := h hx
    exact ⟨g, off, pre, el, post, T, fr, h1, hs _ h2, h3, h4, ER_mono hs h5⟩⟩
  locO hz hs := fun h => h.imp id fun ⟨g, off, cap, pre, el, post, e, hg, hh, ho, hl, hp, hm, S', h1, h2, h3⟩ => ⟨g, off, cap, pre, el, post, e, hg, (hs _ hg).trans hh, ho, hl, hp, hm, S', h1, h2, EO_loc hz (fun b h => hs b (h1 b h)) h3⟩
  locR hs := fun ⟨a, cap, e, hl, hm, hn, h⟩ => ⟨a, cap, e, hl, hm, hn, fun hx => by
    obtain ⟨g, off, pre, el, post, T, fr, h1, h2, h3, h4, h5⟩ := h hx
    exact ⟨g, off, pre, el, post, T, fr, h1, h2, (hs _ h2).trans h3, h4, ER_loc hs h5⟩⟩
  OR h := by
    rcases h with ⟨⟨p, rfl⟩, rfl⟩ | ⟨g, off, cap, pre, el, post, e, hg, hh, ho, hl, _, hm, S', h1, _, h3⟩
    · exact ⟨p, 0, rfl, Nat.le_refl _, Nat.zero_le _, fun _ => rfl, fun h => absurd rfl h⟩
    · exact ⟨_, cap, e, hl, hm, fun h => by simp at h, fun _ => ⟨g, off, pre, el, post, E, (0, 0), rfl, .inr hg, hh, ho, ER_mono (fun b h => h.imp id (h1 b)) (EO_ER h3)⟩⟩
  len := fun ⟨_, _, e, _⟩ => by subst e; rfl
  one := fun ⟨_, _, e, _⟩ => by subst e; intro v hv; simp at hv; subst hv; rfl

/-- A shared value: a fact on what nobody writes. -/
structure VP where
  holds : World → FP → Prop
  mono : ∀ {w : World} {Z Z' : FP}, (∀ b, Z b → Z' b) → holds w Z → holds w Z'
  loc : ∀ {w w' : World} {Z : FP}, Agree w w' Z → holds w Z → holds w' Z
def vw {α : Type} (K : Kind α) (x : α) (cs : List Value) : VP := ⟨fun w Z => K.R w Z x cs, K.monoR, K.locR⟩
/-- What is owned. -/
def ow {α : Type} (K : Kind α) (x : α) (cs : List Value) : SP := ⟨fun w Z S => K.O w Z S x cs, K.monoO, K.locO⟩
/-- A slice whose array is its own, with what the kind of its elements says that they own. -/
abbrev row {α : Type} (E : TypeId) (K : Kind α) (xs : List α) (v : Value) : SP := ow (kSlice E K) xs [v]
abbrev rowH {α : Type} (E : TypeId) (K : Kind α) (xs : List α) (v : Value) (w : World) (Z S : FP) : Prop := sliceO E K w Z S xs [v]
/-- It can be read, too. -/
theorem rowH.read {α : Type} {E : TypeId} {K : Kind α} {xs : List α} {v : Value} {w : World} {Z S : FP} (h : rowH E K xs v w Z S) : sliceR K w (fun b => Z b ∨ S b) xs [v] := (kSlice E K).OR h
/-- Its shape. -/
theorem sliceR.shape {α : Type} {K : Kind α} {w : World} {S : FP} {xs : List α} {cs : List Value} (h : sliceR K w S xs cs) : ∃ a c, cs = [.slice a xs.length c] := by
  obtain ⟨a, c, e, _⟩ := h
  exact ⟨a, c, e⟩
theorem rowH.shape {α : Type} {E : TypeId} {K : Kind α} {xs : List α} {v : Value} {w : World} {Z S : FP} (h : rowH E K xs v w Z S) : ∃ a c, v = .slice a xs.length c := by
  obtain ⟨a, c, e⟩ := sliceR.shape h.read
  exact ⟨a, c, (List.cons.inj e).1⟩
/-- A row one of whose elements is laid open: its cells are these; what it owned is elsewhere. -/
def holeH {α : Type} (E : TypeId) (K : Kind α) (xs : List α) (i : Nat) (cs : List Value) (v : Value) (w : World) (Z S : FP) : Prop :=
  ∃ g off cap pre e1 e2 post, v = .slice (some ⟨g, off, none⟩) xs.length cap ∧ S g ∧ w.heap[g]? = some (.cells (pre ++ (e1 ++ cs ++ e2) ++ post).toArray E (0, 0)) ∧ pre.length = off ∧
    xs.length ≤ cap ∧ (cap - xs.length) * K.n ≤ post.length ∧ cap ≤ maxLen ∧ i < xs.length ∧ cs.length = K.n ∧ ∃ S1 S2, (∀ b, S1 b → S b) ∧ (∀ b, S2 b → S b) ∧ ¬ S1 g ∧ ¬ S2 g ∧ (∀ b, S1 b → ¬ S2 b) ∧
      EO K w Z (xs.take i) S1 e1 ∧ EO K w Z (xs.drop (i + 1)) S2 e2
def hole {α : Type} (E : TypeId) (K : Kind α) (xs : List α) (i : Nat) (cs : List Value) (v : Value) : SP where
  holds := holeH E K xs i cs v
  mono hz hs := fun ⟨g, off, cap, pre, e1, e2, post, e, hg, hh, ho, hl, hp, hm, hi, hc, S1, S2, h1, h2, n1, n2, hd, k1, k2⟩ => ⟨g, off, cap, pre, e1, e2, post, e, hs _ hg, hh, ho, hl, hp, hm, hi, hc, S1, S2, fun b h => hs b (h1 b h), fun b h => hs b (h2 b h), n1, n2, hd, EO_mono hz (fun _ h => h) k1, EO_mono hz (fun _ h => h) k2⟩
  loc hz hs := fun ⟨g, off, cap, pre, e1, e2, post, e, hg, hh, ho, hl, hp, hm, hi, hc, S1, S2, h1, h2, n1, n2, hd, k1, k2⟩ => ⟨g, off, cap, pre, e1, e2, post, e, hg, (hs _ hg).trans hh, ho, hl, hp, hm, hi, hc, S1, S2, h1, h2, n1, n2, hd, EO_loc hz (fun b h => hs b (h1 b h)) k1, EO_loc hz (fun b h => hs b (h2 b h)) k2⟩
end Go.Gx
