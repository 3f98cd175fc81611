/- K1: the texts HBase, HState, HOps, HRows, HMore, HCtl, HDraw, HKit, HTri, joined. -/
import Derived.WalkKit
import Derived.KernelRfl
import Derived.OrdersHeld
import Derived.Laws.IdiomCopy
import Derived.RowKit3
import Derived.Deep.AppendSrc
import Derived.Deep.LoopGhost
import Derived.Laws.MakeOwn
import Derived.Laws.StructEq
/- What a value leads to: sets of blocks, kinds of values, rows of elements; slices that own their array, and slices that are read. -/
namespace Go.Gx
open Go.RowKit

/-- A set of blocks. -/
abbrev FP := Nat → Prop
abbrev Nil : FP := fun _ => False
/-- On these blocks both worlds are alike. -/
def Agree (w w' : World) (S : FP) : Prop := ∀ b, S b → w'.heap[b]? = w.heap[b]?

/-- What a set of blocks of its own holds; the first set is what all share and nobody writes. -/
structure SP where
  holds : World → FP → FP → Prop
  mono : ∀ {w : World} {Z Z' S S' : FP}, (∀ b, Z b → Z' b) → (∀ b, S b → S' b) → holds w Z S → holds w Z' S'
  loc : ∀ {w w' : World} {Z S : FP}, Agree w w' Z → Agree w w' S → holds w Z S → holds w' Z S

/-- A block of its own, with these cells. -/
def blk (g : Nat) (cs : List Value) (T : TypeId) : SP where
  holds w _ S := S g ∧ w.heap[g]? = some (.cells cs.toArray T (0, 0))
  mono _ h := fun ⟨a, b⟩ => ⟨h _ a, b⟩
  loc _ h := fun ⟨a, b⟩ => ⟨a, (h _ a).trans b⟩

/-- How a Go value of one type lies in cells: 'O': it owns what it leads to (of what is shared it may read Z); 'R': it can be read. -/
structure Kind (α : Type) where
  n : Nat
  O : World → FP → FP → α → List Value → Prop
  R : World → FP → α → List Value → Prop
  monoO : ∀ {w : World} {Z Z' S S' : FP} {x : α} {cs : List Value}, (∀ b, Z b → Z' b) → (∀ b, S b → S' b) → O w Z S x cs → O w Z' S' x cs
  monoR : ∀ {w : World} {S S' : FP} {x : α} {cs : List Value}, (∀ b, S b → S' b) → R w S x cs → R w S' x cs
  locO : ∀ {w w' : World} {Z S : FP} {x : α} {cs : List Value}, Agree w w' Z → Agree w w' S → O w Z S x cs → O w' Z S x cs
  locR : ∀ {w w' : World} {S : FP} {x : α} {cs : List Value}, Agree w w' S → R w S x cs → R w' S x cs
  OR : ∀ {w : World} {Z S : FP} {x : α} {cs : List Value}, O w Z S x cs → R w (fun b => Z b ∨ S b) x cs
  len : ∀ {w : World} {S : FP} {x : α} {cs : List Value}, R w S x cs → cs.length = n
  one : ∀ {w : World} {S : FP} {x : α} {cs : List Value}, R w S x cs → ∀ v, v ∈ cs → v.oneCell' = true
theorem Kind.lenO {α : Type} (K : Kind α) {w : World} {Z S : FP} {x : α} {cs : List Value} (h : K.O w Z S x cs) : cs.length = K.n := K.len (K.OR h)

def kInt (k : IntKind) : Kind Int where
  n := 1
  O _ _ _ x cs := cs = [.int k x]
  R _ _ x cs := cs = [.int k x]
  monoO _ _ h := h
  monoR _ h := h
  locO _ _ h := h
  locR _ h := h
  OR h := h
  len h := by subst h; rfl
  one h := by subst h; intro v hv; simp at hv; subst hv; rfl
def kBool : Kind Bool where
  n := 1
  O _ _ _ x cs := cs = [.bool x]
  R _ _ x cs := cs = [.bool x]
  monoO _ _ h := h
  monoR _ h := h
  locO _ _ h := h
  locR _ h := h
  OR h := h
  len h := by subst h; rfl
  one h := by subst h; intro v hv; simp at hv; subst hv; rfl
def kStr : Kind ByteArray where
  n := 1
  O _ _ _ x cs := cs = [.string x]
  R _ _ x cs := cs = [.string x]
  monoO _ _ h := h
  monoR _ h := h
  locO _ _ h := h
  locR _ h := h
  OR h := h
  len h := by subst h; rfl
  one h := by subst h; intro v hv; simp at hv; subst hv; rfl
/-- What leads to shared memory alone. -/
def kShare {α : Type} (K : Kind α) : Kind α where
  n := K.n
  O w Z _ x cs := K.R w Z x cs
  R := K.R
  monoO hz _ h := K.monoR hz h
  monoR := K.monoR
  locO hz _ h := K.locR hz h
  locR := K.locR
  OR h := K.monoR (fun _ h => .inl h) h
  len := K.len
  one := K.one

def kPair {α β : Type} (K : Kind α) (J : Kind β) : Kind (α × β) where
  n := K.n + J.n
  O w Z S x cs := ∃ c1 c2 S1 S2, cs = c1 ++ c2 ∧ (∀ b, S1 b → S b) ∧ (∀ b, S2 b → S b) ∧ (∀ b, S1 b → ¬ S2 b) ∧ K.O w Z S1 x.1 c1 ∧ J.O w Z S2 x.2 c2
  R w S x cs := ∃ c1 c2, cs = c1 ++ c2 ∧ K.R w S x.1 c1 ∧ J.R w S x.2 c2
  monoO hz hs h := by
    obtain ⟨c1, c2, S1, S2, e, h1, h2, hd, k1, k2⟩ := h
    exact ⟨c1, c2, S1, S2, e, fun b h => hs b (h1 b h), fun b h => hs b (h2 b h), hd, K.monoO hz (fun _ h => h) k1, J.monoO hz (fun _ h => h) k2⟩
  monoR hs := fun ⟨c1, c2, e, k1, k2⟩ => ⟨c1, c2, e, K.monoR hs k1, J.monoR hs k2⟩
  locO hz hs := fun ⟨c1, c2, S1, S2, e, h1, h2, hd, k1, k2⟩ => ⟨c1, c2, S1, S2, e, h1, h2, hd, K.locO hz (fun b h => hs b (h1 b h)) k1, J.locO hz (fun b h => hs b (h2 b h)) k2⟩
  locR hs := fun ⟨c1, c2, e, k1, k2⟩ => ⟨c1, c2, e, K.locR hs k1, J.locR hs k2⟩
  OR := fun ⟨c1, c2, S1, S2, e, h1, h2, _, k1, k2⟩ => ⟨c1, c2, e, K.monoR (fun b h => h.imp id (h1 b)) (K.OR k1), J.monoR (fun b h => h.imp id (h2 b)) (J.OR k2)⟩
  len := fun ⟨c1, c2, e, k1, k2⟩ => by subst e; rw [List.length_append, K.len k1, J.len k2]
  one := fun ⟨c1, c2, e, k1, k2⟩ => by
    subst e
    intro v hv
    rcases List.mem_append.1 hv with h | h
    · exact K.one k1 v h
    · exact J.one k2 v h

def kIso {α β : Type} (K : Kind α) (f : β → α) : Kind β where
  n := K.n
  O w Z S x cs := K.O w Z S (f x) cs
  R w S x cs := K.R w S (f x) cs
  monoO := K.monoO
  monoR := K.monoR
  locO := K.locO
  locR := K.locR
  OR := K.OR
  len := K.len
  one := K.one

/-! ### Rows of elements -/
section
variable {α : Type} (K : Kind α) (w : World) (Z : FP)
def EO : List α → FP → List Value → Prop
  | [], _, cs => cs = []
  | x :: xs, S, cs => ∃ c1 c2 S1 S2, cs = c1 ++ c2 ∧ (∀ b, S1 b → S b) ∧ (∀ b, S2 b → S b) ∧ (∀ b, S1 b → ¬ S2 b) ∧ K.O w Z S1 x c1 ∧ EO xs S2 c2
def ER : List α → FP → List Value → Prop
  | [], _, cs => cs = []
  | x :: xs, S, cs => ∃ c1 c2, cs = c1 ++ c2 ∧ K.R w S x c1 ∧ ER xs S c2
end
section
variable {α : Type} {K : Kind α} {w w' : World} {Z Z' S S' : FP}
theorem EO_mono (hz : ∀ b, Z b → Z' b) : ∀ {xs : List α} {S S' : FP} {cs : List Value}, (∀ b, S b → S' b) → EO K w Z xs S cs → EO K w Z' xs S' cs
  | [], _, _, _, _, h => h
  | _ :: _, _, _, _, hs, ⟨c1, c2, S1, S2, e, h1, h2, hd, k1, k2⟩ => ⟨c1, c2, S1, S2, e, fun b h => hs b (h1 b h), fun b h => hs b (h2 b h), hd, K.monoO hz (fun _ h => h) k1, EO_mono hz (fun _ h => h) k2⟩
theorem ER_mono (hs : ∀ b, S b → S' b) : ∀ {xs : List α} {cs : List Value}, ER K w xs S cs → ER K w xs S' cs
  | [], _, h => h
  | _ :: _, _, ⟨c1, c2, e, k1, k2⟩ => ⟨c1, c2, e, K.monoR hs k1, ER_mono hs k2⟩
theorem EO_loc (hz : Agree w w' Z) : ∀ {xs : List α} {S : FP} {cs : List Value}, Agree w w' S → EO K w Z xs S cs → EO K w' Z xs S cs
  | [], _, _, _, h => h
  | _ :: _, _, _, hs, ⟨c1, c2, S1, S2, e, h1, h2, hd, k1, k2⟩ => ⟨c1, c2, S1, S2, e, h1, h2, hd, K.locO hz (fun b h => hs b (h1 b h)) k1, EO_loc hz (fun b h => hs b (h2 b h)) k2⟩
theorem ER_loc (hs : Agree w w' S) : ∀ {xs : List α} {cs : List Value}, ER K w xs S cs → ER K w' xs S cs
  | [], _, h => h
  | _ :: _, _, ⟨c1, c2, e, k1, k2⟩ => ⟨c1, c2, e, K.locR hs k1, ER_loc hs k2⟩
theorem EO_ER : ∀ {xs : List α} {S : FP} {cs : List Value}, EO K w Z xs S cs → ER K w xs (fun b => Z b ∨ S b) cs
  | [], _, _, h => h
  | _ :: _, _, _, ⟨c1, c2, _, _, e, h1, h2, _, k1, k2⟩ => ⟨c1, c2, e, K.monoR (fun b h => h.imp id (h1 b)) (K.OR k1), ER_mono (fun b h => h.imp id (h2 b)) (EO_ER k2)⟩
theorem ER_EO_share : ∀ {xs : List α} {S : FP} {cs : List Value}, ER K w xs Z cs → EO (kShare K) w Z xs S cs
  | [], _, _, h => h
  | _ :: _, _, _, ⟨c1, c2, e, k1, k2⟩ => ⟨c1, c2, Nil, Nil, e, fun _ h => h.elim, fun _ h => h.elim, fun _ h => h.elim, k1, ER_EO_share k2⟩
theorem ER_len : ∀ {xs : List α} {cs : List Value}, ER K w xs S cs → cs.length = xs.length * K.n
  | [], _, h => by subst h; simp
  | _ :: xs, _, ⟨c1, c2, e, k1, k2⟩ => by subst e; rw [List.length_append, K.len k1, ER_len k2, List.length_cons, Nat.succ_mul]; omega
theorem EO_len {xs : List α} {cs : List Value} (h : EO K w Z xs S cs) : cs.length = xs.length * K.n := ER_len (EO_ER h)
theorem ER_one : ∀ {xs : List α} {cs : List Value}, ER K w xs S cs → ∀ v, v ∈ cs → v.oneCell' = true
  | [], _, h => by subst h; intro v hv; cases hv
  | _ :: xs, _, ⟨c1, c2, e, k1, k2⟩ => by
    subst e
    intro v hv
    rcases List.mem_append.1 hv with h | h
    · exact K.one k1 v h
    · exact ER_one k2 v h
/-- The element at i. -/
theorem ER_get : ∀ {xs : List α} {cs : List Value} (i : Nat) (x : α), ER K w xs S cs → xs[i]? = some x → K.R w S x ((cs.drop (i * K.n)).take K.n)
  | [], _, _, _, _, hi => by simp at hi
  | x :: xs, _, 0, y, ⟨c1, c2, e, k1, k2⟩, hi => by
    subst e
    obtain rfl : x = y := by simpa using hi
    have hl := K.len k1
    simp only [Nat.zero_mul, List.drop_zero]
    rw [List.take_append_of_le_length (by omega), List.take_of_length_le (by omega)]
    exact k1
  | x :: xs, _, i + 1, y, ⟨c1, c2, e, k1, k2⟩, hi => by
    subst e
    have hl := K.len k1
    have h := ER_get i y k2 (by simpa using hi)
    have e : (i + 1) * K.n = c1.length + i * K.n := by rw [Nat.succ_mul]; omega
    rw [e, List.drop_append, List.drop_of_length_le (by omega), List.nil_append, Nat.add_sub_cancel_left]
    exact h
theorem ER_append : ∀ {xs ys : List α} {c d : List Value}, ER K w xs S c → ER K w ys S d → ER K w (xs ++ ys) S (c ++ d)
  | [], _, _, _, h, k => by subst h; exact k
  | x :: xs, ys, _, d, ⟨c1, c2, e, k1, k2⟩, k => ⟨c1, c2 ++ d, by subst e; simp, k1, ER_append k2 k⟩
theorem ER_split : ∀ {xs ys : List α} {cs : List Value}, ER K w (xs ++ ys) S cs → ∃ c d, cs = c ++ d ∧ ER K w xs S c ∧ ER K w ys S d
  | [], _, cs, h => ⟨[], cs, rfl, rfl, h⟩
  | x :: xs, ys, _, ⟨c1, c2, e, k1, k2⟩ => by
    obtain ⟨c, d, e2, h1, h2⟩ := ER_split k2
    exact ⟨c1 ++ c, d, by subst e e2; simp, ⟨c1, c, rfl, k1, h1⟩, h2⟩
theorem EO_append : ∀ {xs ys : List α} {S T U : FP} {c d : List Value}, EO K w Z xs S c → EO K w Z ys T d → (∀ b, S b → ¬ T b) → (∀ b, S b → U b) → (∀ b, T b → U b) → EO K w Z (xs ++ ys) U (c ++ d)
  | [], _, _, _, _, _, _, h, k, _, _, hu => by subst h; exact EO_mono (fun _ h => h) hu k
  | x :: xs, ys, S, T, U, _, d, ⟨c1, c2, S1, S2, e, h1, h2, hd, k1, k2⟩, k, hdis, hsu, htu =>
    ⟨c1, c2 ++ d, S1, fun b => S2 b ∨ T b, by subst e; simp, fun b h => hsu b (h1 b h), fun b h => h.elim (fun h => hsu b (h2 b h)) (htu b), fun b h => fun hh => hh.elim (hd b h) (hdis b (h1 b h)), k1,
      EO_append k2 k (fun b h => hdis b (h2 b h)) (fun b h => .inl h) (fun b h => .inr h)⟩
theorem EO_split : ∀ {xs ys : List α} {S : FP} {cs : List Value}, EO K w Z (xs ++ ys) S cs → ∃ c d S1 S2, cs = c ++ d ∧ (∀ b, S1 b → S b) ∧ (∀ b, S2 b → S b) ∧ (∀ b, S1 b → ¬ S2 b) ∧ EO K w Z xs S1 c ∧ EO K w Z ys S2 d
  | [], _, S, cs, h => ⟨[], cs, fun _ => False, S, rfl, fun _ h => h.elim, fun _ h => h, fun _ h => h.elim, rfl, h⟩
  | x :: xs, ys, S, _, ⟨c1, c2, S1, S2, e, h1, h2, hd, k1, k2⟩ => by
    obtain ⟨c, d, T1, T2, e2, g1, g2, gd, l1, l2⟩ := EO_split k2
    exact ⟨c1 ++ c, d, fun b => S1 b ∨ T1 b, T2, by subst e e2; simp, fun b h => h.elim (h1 b) (fun h => h2 b (g1 b h)), fun b h => h2 b (g2 b h),
      fun b h hh => h.elim (fun h => hd b h (g2 b hh)) (fun h => gd b h hh), ⟨c1, c, S1, T1, rfl, fun b h => .inl h, fun b h => .inr h, fun b h hh => hd b h (g1 b hh), k1, l1⟩, l2⟩
theorem EO_replicate {x : α} {cs : List Value} (h : K.O w Z Nil x cs) : ∀ k, EO K w Z (List.replicate k x) Nil (List.replicate k cs).flatten
  | 0 => rfl
  | k + 1 => ⟨cs, _, Nil, Nil, by simp [List.replicate_succ], fun _ h => h, fun _ h => h, fun _ h => h.elim, h, EO_replicate h k⟩
end

/-! ### Slices -/
/-- A slice that can be read. -/
def sliceR {α : Type} (K : Kind α) (w : World) (S : FP) (xs : List α) (cs : List Value) : Prop :=
  ∃ a cap, cs = [.slice a xs.length cap] ∧ xs.length ≤ cap ∧ cap ≤ maxLen ∧ (a = none → cap = 0) ∧
    (xs ≠ [] → ∃ g off pre el post T fr, a = some ⟨g, off, none⟩ ∧ S g ∧ w.heap[g]? = some (.cells (pre ++ el ++ post).toArray T fr) ∧ pre.length = off ∧ ER K w xs S el)
/-- A slice that owns its array. -/
def sliceO {α : Type} (E : TypeId) (K : Kind α) (w : World) (Z S : FP) (xs : List α) (cs : List Value) : Prop :=
  ((∃ p, cs = [.slice p 0 0]) ∧ xs = []) ∨
  ∃ g off cap pre el post, cs = [.slice (some ⟨g, off, none⟩) xs.length cap] ∧ S g ∧ w.heap[g]? = some (.cells (pre ++ el ++ post).toArray E (0, 0)) ∧ pre.length = off ∧
    xs.length ≤ cap ∧ (cap - xs.length) * K.n ≤ post.length ∧ cap ≤ maxLen ∧ ∃ S', (∀ b, S' b → S b) ∧ ¬ S' g ∧ EO K w Z xs S' el
def kSlice {α : Type} (E : TypeId) (K : Kind α) : Kind (List α) where
  n := 1
  O := sliceO E K
  R := sliceR K
  monoO hz hs := fun h => h.imp id fun ⟨g, off, cap, pre, el, post, e, hg, hh, ho, hl, hp, hm, S', h1, h2, h3⟩ => ⟨g, off, cap, pre, el, post, e, hs _ hg, hh, ho, hl, hp, hm, S', fun b h => hs b (h1 b h), h2, EO_mono hz (fun _ h => h) h3⟩
  monoR hs := fun ⟨a, cap, e, hl, hm, hn, h⟩ => ⟨a, cap, e, hl, hm, hn, fun hx => by
    obtain ⟨g, off, pre, el, post, T, fr, h1, h2, h3, h4, h5⟩ := h hx
    exact ⟨g, off, pre, el, post, T, fr, h1, hs _ h2, h3, h4, ER_mono hs h5⟩⟩
  locO hz hs := fun h => h.imp id fun ⟨g, off, cap, pre, el, post, e, hg, hh, ho, hl, hp, hm, S', h1, h2, h3⟩ => ⟨g, off, cap, pre, el, post, e, hg, (hs _ hg).trans hh, ho, hl, hp, hm, S', h1, h2, EO_loc hz (fun b h => hs b (h1 b h)) h3⟩
  locR hs := fun ⟨a, cap, e, hl, hm, hn, h⟩ => ⟨a, cap, e, hl, hm, hn, fun hx => by
    obtain ⟨g, off, pre, el, post, T, fr, h1, h2, h3, h4, h5⟩ := h hx
    exact ⟨g, off, pre, el, post, T, fr, h1, h2, (hs _ h2).trans h3, h4, ER_loc hs h5⟩⟩
  OR h := by
    rcases h with ⟨⟨p, rfl⟩, rfl⟩ | ⟨g, off, cap, pre, el, post, e, hg, hh, ho, hl, _, hm, S', h1, _, h3⟩
    · exact ⟨p, 0, rfl, Nat.le_refl _, Nat.zero_le _, fun _ => rfl, fun h => absurd rfl h⟩
    · exact ⟨_, cap, e, hl, hm, fun h => by simp at h, fun _ => ⟨g, off, pre, el, post, E, (0, 0), rfl, .inr hg, hh, ho, ER_mono (fun b h => h.imp id (h1 b)) (EO_ER h3)⟩⟩
  len := fun ⟨_, _, e, _⟩ => by subst e; rfl
  one := fun ⟨_, _, e, _⟩ => by subst e; intro v hv; simp at hv; subst hv; rfl

/-- A shared value: a fact on what nobody writes. -/
structure VP where
  holds : World → FP → Prop
  mono : ∀ {w : World} {Z Z' : FP}, (∀ b, Z b → Z' b) → holds w Z → holds w Z'
  loc : ∀ {w w' : World} {Z : FP}, Agree w w' Z → holds w Z → holds w' Z
def vw {α : Type} (K : Kind α) (x : α) (cs : List Value) : VP := ⟨fun w Z => K.R w Z x cs, K.monoR, K.locR⟩
/-- What is owned. -/
def ow {α : Type} (K : Kind α) (x : α) (cs : List Value) : SP := ⟨fun w Z S => K.O w Z S x cs, K.monoO, K.locO⟩
/-- A slice whose array is its own, with what the kind of its elements says that they own. -/
abbrev row {α : Type} (E : TypeId) (K : Kind α) (xs : List α) (v : Value) : SP := ow (kSlice E K) xs [v]
abbrev rowH {α : Type} (E : TypeId) (K : Kind α) (xs : List α) (v : Value) (w : World) (Z S : FP) : Prop := sliceO E K w Z S xs [v]
/-- It can be read, too. -/
theorem rowH.read {α : Type} {E : TypeId} {K : Kind α} {xs : List α} {v : Value} {w : World} {Z S : FP} (h : rowH E K xs v w Z S) : sliceR K w (fun b => Z b ∨ S b) xs [v] := (kSlice E K).OR h
/-- Its shape. -/
theorem sliceR.shape {α : Type} {K : Kind α} {w : World} {S : FP} {xs : List α} {cs : List Value} (h : sliceR K w S xs cs) : ∃ a c, cs = [.slice a xs.length c] := by
  obtain ⟨a, c, e, _⟩ := h
  exact ⟨a, c, e⟩
theorem rowH.shape {α : Type} {E : TypeId} {K : Kind α} {xs : List α} {v : Value} {w : World} {Z S : FP} (h : rowH E K xs v w Z S) : ∃ a c, v = .slice a xs.length c := by
  obtain ⟨a, c, e⟩ := sliceR.shape h.read
  exact ⟨a, c, (List.cons.inj e).1⟩
/-- A row one of whose elements is laid open: its cells are these; what it owned is elsewhere. -/
def holeH {α : Type} (E : TypeId) (K : Kind α) (xs : List α) (i : Nat) (cs : List Value) (v : Value) (w : World) (Z S : FP) : Prop :=
  ∃ g off cap pre e1 e2 post, v = .slice (some ⟨g, off, none⟩) xs.length cap ∧ S g ∧ w.heap[g]? = some (.cells (pre ++ (e1 ++ cs ++ e2) ++ post).toArray E (0, 0)) ∧ pre.length = off ∧
    xs.length ≤ cap ∧ (cap - xs.length) * K.n ≤ post.length ∧ cap ≤ maxLen ∧ i < xs.length ∧ cs.length = K.n ∧ ∃ S1 S2, (∀ b, S1 b → S b) ∧ (∀ b, S2 b → S b) ∧ ¬ S1 g ∧ ¬ S2 g ∧ (∀ b, S1 b → ¬ S2 b) ∧
      EO K w Z (xs.take i) S1 e1 ∧ EO K w Z (xs.drop (i + 1)) S2 e2
def hole {α : Type} (E : TypeId) (K : Kind α) (xs : List α) (i : Nat) (cs : List Value) (v : Value) : SP where
  holds := holeH E K xs i cs v
  mono hz hs := fun ⟨g, off, cap, pre, e1, e2, post, e, hg, hh, ho, hl, hp, hm, hi, hc, S1, S2, h1, h2, n1, n2, hd, k1, k2⟩ => ⟨g, off, cap, pre, e1, e2, post, e, hs _ hg, hh, ho, hl, hp, hm, hi, hc, S1, S2, fun b h => hs b (h1 b h), fun b h => hs b (h2 b h), n1, n2, hd, EO_mono hz (fun _ h => h) k1, EO_mono hz (fun _ h => h) k2⟩
  loc hz hs := fun ⟨g, off, cap, pre, e1, e2, post, e, hg, hh, ho, hl, hp, hm, hi, hc, S1, S2, h1, h2, n1, n2, hd, k1, k2⟩ => ⟨g, off, cap, pre, e1, e2, post, e, hg, (hs _ hg).trans hh, ho, hl, hp, hm, hi, hc, S1, S2, h1, h2, n1, n2, hd, EO_loc hz (fun b h => hs b (h1 b h)) k1, EO_loc hz (fun b h => hs b (h2 b h)) k2⟩
end Go.Gx

/- The state of a walk: what the world holds, item by item; and what an operation does to it. -/
namespace Go.Gx
open Go.RowKit

def itemHolds (w : World) (Z : FP) : List SP → FP → Prop
  | [], _ => True
  | P :: I, S => P.holds w Z S ∧ itemHolds w Z I S
theorem itemHolds_mono {w : World} {Z Z' S S' : FP} (hz : ∀ b, Z b → Z' b) (hs : ∀ b, S b → S' b) : ∀ {I : List SP}, itemHolds w Z I S → itemHolds w Z' I S'
  | [], _ => trivial
  | P :: _, ⟨h, k⟩ => ⟨P.mono hz hs h, itemHolds_mono hz hs k⟩
theorem itemHolds_loc {w w' : World} {Z S : FP} (hz : Agree w w' Z) (hs : Agree w w' S) : ∀ {I : List SP}, itemHolds w Z I S → itemHolds w' Z I S
  | [], _ => trivial
  | P :: _, ⟨h, k⟩ => ⟨P.loc hz hs h, itemHolds_loc hz hs k⟩
theorem itemHolds_get {w : World} {Z S : FP} {P : SP} : ∀ {I : List SP} {k : Nat}, itemHolds w Z I S → I[k]? = some P → P.holds w Z S
  | [], _, _, h => by simp at h
  | Q :: _, 0, ⟨h, _⟩, e => by
    obtain rfl : Q = P := by simpa using e
    exact h
  | _ :: _, k + 1, ⟨_, h⟩, e => itemHolds_get h (by simpa using e)

/-- What is shared. -/
def argHolds (w : World) : List VP → FP → Prop
  | [], _ => True
  | P :: A, Z => P.holds w Z ∧ argHolds w A Z
theorem argHolds_mono {w : World} {Z Z' : FP} (hz : ∀ b, Z b → Z' b) : ∀ {A : List VP}, argHolds w A Z → argHolds w A Z'
  | [], _ => trivial
  | P :: _, ⟨h, k⟩ => ⟨P.mono hz h, argHolds_mono hz k⟩
theorem argHolds_loc {w w' : World} {Z : FP} (hz : Agree w w' Z) : ∀ {A : List VP}, argHolds w A Z → argHolds w' A Z
  | [], _ => trivial
  | P :: _, ⟨h, k⟩ => ⟨P.loc hz h, argHolds_loc hz k⟩
theorem argHolds_get {w : World} {Z : FP} {P : VP} : ∀ {A : List VP} {k : Nat}, argHolds w A Z → A[k]? = some P → P.holds w Z
  | [], _, _, h => by simp at h
  | Q :: _, 0, ⟨h, _⟩, e => by
    obtain rfl : Q = P := by simpa using e
    exact h
  | _ :: _, k + 1, ⟨_, h⟩, e => argHolds_get h (by simpa using e)
theorem argHolds_append {w : World} {Z : FP} : ∀ {A B : List VP}, argHolds w A Z → argHolds w B Z → argHolds w (A ++ B) Z
  | [], _, _, k => k
  | _ :: _, _, ⟨h, h'⟩, k => ⟨h, argHolds_append h' k⟩

/-- Each item on blocks of its own. -/
def Holds (w : World) (Z : FP) : List (List SP) → FP → Prop
  | [], _ => True
  | I :: L, S => ∃ S1 S2, (∀ b, S1 b → S b) ∧ (∀ b, S2 b → S b) ∧ (∀ b, S1 b → ¬ S2 b) ∧ itemHolds w Z I S1 ∧ Holds w Z L S2
theorem Holds_mono {w : World} {Z Z' : FP} (hz : ∀ b, Z b → Z' b) : ∀ {L : List (List SP)} {S S' : FP}, (∀ b, S b → S' b) → Holds w Z L S → Holds w Z' L S'
  | [], _, _, _, _ => trivial
  | _ :: _, _, _, hs, ⟨S1, S2, h1, h2, hd, k1, k2⟩ => ⟨S1, S2, fun b h => hs b (h1 b h), fun b h => hs b (h2 b h), hd, itemHolds_mono hz (fun _ h => h) k1, Holds_mono hz (fun _ h => h) k2⟩
theorem Holds_loc {w w' : World} {Z : FP} (hz : Agree w w' Z) : ∀ {L : List (List SP)} {S : FP}, Agree w w' S → Holds w Z L S → Holds w' Z L S
  | [], _, _, _ => trivial
  | _ :: _, _, hs, ⟨S1, S2, h1, h2, hd, k1, k2⟩ => ⟨S1, S2, h1, h2, hd, itemHolds_loc hz (fun b h => hs b (h1 b h)) k1, Holds_loc hz (fun b h => hs b (h2 b h)) k2⟩
theorem Holds_get {w : World} {Z : FP} : ∀ {L : List (List SP)} {S : FP} {i : Nat} {I : List SP}, Holds w Z L S → L[i]? = some I →
    ∃ S1 S2, (∀ b, S1 b → S b) ∧ (∀ b, S2 b → S b) ∧ (∀ b, S1 b → ¬ S2 b) ∧ itemHolds w Z I S1 ∧ Holds w Z (L.eraseIdx i) S2
  | [], _, _, _, _, h => by simp at h
  | J :: L, S, 0, I, ⟨S1, S2, h1, h2, hd, k1, k2⟩, e => by
    obtain rfl : J = I := by simpa using e
    exact ⟨S1, S2, h1, h2, hd, k1, k2⟩
  | J :: L, S, i + 1, I, ⟨S1, S2, h1, h2, hd, k1, k2⟩, e => by
    obtain ⟨T1, T2, g1, g2, gd, l1, l2⟩ := Holds_get k2 (by simpa using e : L[i]? = some I)
    refine ⟨T1, fun b => S1 b ∨ T2 b, fun b h => h2 b (g1 b h), fun b h => h.elim (h1 b) (fun h => h2 b (g2 b h)), fun b h hh => hh.elim (fun hh => hd b hh (g1 b h)) (gd b h), l1, ?_⟩
    exact ⟨S1, T2, fun b h => .inl h, fun b h => .inr h, fun b h hh => hd b h (g2 b hh), k1, l2⟩
theorem Holds_put {w : World} {Z : FP} : ∀ {L : List (List SP)} {i : Nat} {I : List SP} {S1 S2 : FP}, i < L.length → itemHolds w Z I S1 → Holds w Z (L.eraseIdx i) S2 → (∀ b, S1 b → ¬ S2 b) →
    Holds w Z (L.set i I) (fun b => S1 b ∨ S2 b)
  | [], _, _, _, _, h, _, _, _ => by simp at h
  | J :: L, 0, I, S1, S2, _, h, k, hd => ⟨S1, S2, fun b h => .inl h, fun b h => .inr h, hd, h, k⟩
  | J :: L, i + 1, I, S1, S2, hi, h, ⟨T1, T2, g1, g2, gd, l1, l2⟩, hd => by
    have := Holds_put (i := i) (by simpa using hi) h l2 (fun b hb hh => hd b hb (g2 b hh))
    exact ⟨T1, fun b => S1 b ∨ T2 b, fun b h => .inr (g1 b h), fun b h => h.elim .inl (fun h => .inr (g2 b h)), fun b h hh => hh.elim (fun hh => hd b hh (g1 b h)) (gd b h), l1, this⟩
theorem Holds_append {w : World} {Z : FP} : ∀ {L N : List (List SP)} {S T : FP}, Holds w Z L S → Holds w Z N T → (∀ b, S b → ¬ T b) → Holds w Z (L ++ N) (fun b => S b ∨ T b)
  | [], N, S, T, _, h, _ => Holds_mono (fun _ h => h) (fun b h => .inr h) h
  | J :: L, N, S, T, ⟨S1, S2, h1, h2, hd, k1, k2⟩, h, hdis => by
    have := Holds_append k2 h (fun b hb => hdis b (h2 b hb))
    exact ⟨S1, fun b => S2 b ∨ T b, fun b h => .inl (h1 b h), fun b h => h.elim (fun h => .inl (h2 b h)) .inr, fun b h hh => hh.elim (hd b h) (hdis b (h1 b h)), k1, this⟩
theorem Holds_sub {w : World} {Z : FP} {N L : List (List SP)} (hs : N.Sublist L) : ∀ {S : FP}, Holds w Z L S → Holds w Z N S := by
  induction hs with
  | slnil => exact fun h => h
  | cons _ _ ih => exact fun ⟨_, _, _, h2, _, _, k⟩ => Holds_mono (fun _ h => h) h2 (ih k)
  | cons_cons _ _ ih => exact fun ⟨S1, S2, h1, h2, hd, k1, k2⟩ => ⟨S1, S2, h1, h2, hd, k1, ih k2⟩
theorem Holds_erase {w : World} {Z : FP} {L : List (List SP)} {S : FP} {i : Nat} (h : Holds w Z L S) : Holds w Z (L.eraseIdx i) S := by
  rcases Nat.lt_or_ge i L.length with hi | hi
  · obtain ⟨S1, S2, _, h2, _, _, k⟩ := Holds_get h (List.getElem?_eq_getElem hi)
    exact Holds_mono (fun _ h => h) h2 k
  · rw [List.eraseIdx_of_length_le hi]; exact h

/-- What a step may have changed: of the old blocks those in T alone. -/
structure Chg (w w' : World) (T : FP) : Prop where
  os : w'.os = w.os
  tape : w'.tape = w.tape
  output : w'.output = w.output
  size : w.heap.size ≤ w'.heap.size
  keep : ∀ b, b < w.heap.size → ¬ T b → w'.heap[b]? = w.heap[b]?
theorem Chg.refl (w : World) (T : FP) : Chg w w T := ⟨rfl, rfl, rfl, Nat.le_refl _, fun _ _ _ => rfl⟩
theorem Chg.mono {w w' : World} {T T' : FP} (h : Chg w w' T) (ht : ∀ b, T b → T' b) : Chg w w' T' := ⟨h.os, h.tape, h.output, h.size, fun b hb hn => h.keep b hb (fun h => hn (ht b h))⟩
/-- A second step, which changes what T says, of what was new in the first one whatever it likes. -/
theorem Chg.trans {w w1 w2 : World} {T U : FP} (h : Chg w w1 T) (k : Chg w1 w2 U) (hu : ∀ b, U b → b < w.heap.size → T b) : Chg w w2 T :=
  ⟨k.os.trans h.os, k.tape.trans h.tape, k.output.trans h.output, Nat.le_trans h.size k.size,
    fun b hb hn => (k.keep b (Nat.lt_of_lt_of_le hb h.size) (fun h => hn (hu b h hb))).trans (h.keep b hb hn)⟩
theorem Chg.below {w w' : World} (h : Chg w w' Nil) : Below w.heap.size w w' := ⟨h.os, h.tape, h.output, h.size, fun b hb => h.keep b hb (fun h => h)⟩
theorem Chg.drew (w : World) (T : FP) : Chg w w.drew T := ⟨rfl, rfl, rfl, Nat.le_refl _, fun _ _ _ => rfl⟩
theorem Chg.alloc (w : World) (o : Obj) (T : FP) : Chg w (w.alloc o) T :=
  ⟨rfl, rfl, rfl, by simp, fun b hb _ => Below.heap_alloc w o b hb⟩

/-- The state: since w0 of the old blocks only those in M have changed; w holds what is shared, A, and L, each item on blocks of its own. -/
structure St (w0 : World) (M Y : FP) (w : World) (A : List VP) (L : List (List SP)) : Prop where
  chg : Chg w0 w M
  own : ∃ (Z S : FP), argHolds w A Z ∧ Holds w Z L S ∧ (∀ b, Z b → ¬ S b) ∧ (∀ b, Z b → b < w.heap.size) ∧ (∀ b, S b → b < w.heap.size ∧ (w0.heap.size ≤ b ∨ M b)) ∧ (∀ b, Z b → Y b ∨ w0.heap.size ≤ b ∨ M b)
/-- What a call hands back: what is shared leads to Z, to new blocks or to what was lent; what it owns is new or was lent. -/
structure PostG (w w' : World) (M Z : FP) (A : List VP) (N : List (List SP)) : Prop where
  chg : Chg w w' M
  own : ∃ (Z' S : FP), argHolds w' A (fun b => Z b ∨ Z' b) ∧ Holds w' (fun b => Z b ∨ Z' b) N S ∧ (∀ b, Z' b → ¬ S b) ∧ (∀ b, Z' b → b < w'.heap.size ∧ (w.heap.size ≤ b ∨ M b)) ∧ (∀ b, S b → b < w'.heap.size ∧ (w.heap.size ≤ b ∨ M b))
/-- Out of L the items Lc are taken, one after the other; Lr is left. -/
inductive Ext {X : Type _} : List X → X → List X → Prop
  | z {x : X} {L : List X} : Ext (x :: L) x L
  | s {x y : X} {L L' : List X} : Ext L x L' → Ext (y :: L) x (y :: L')
inductive Pick {X : Type _} : List X → List X → List X → Prop
  | nil {L : List X} : Pick L [] L
  | cons {x : X} {L L1 Lc Lr : List X} : Ext L x L1 → Pick L1 Lc Lr → Pick L (x :: Lc) Lr
theorem Holds_ext {w : World} {Z : FP} {L L' : List (List SP)} {I : List SP} (h : Ext L I L') : ∀ {S : FP}, Holds w Z L S →
    ∃ S1 S2, (∀ b, S1 b → S b) ∧ (∀ b, S2 b → S b) ∧ (∀ b, S1 b → ¬ S2 b) ∧ itemHolds w Z I S1 ∧ Holds w Z L' S2 := by
  induction h with
  | z => exact fun h => h
  | s _ ih =>
    rintro S ⟨S1, S2, h1, h2, hd, k1, k2⟩
    obtain ⟨T1, T2, g1, g2, gd, l1, l2⟩ := ih k2
    exact ⟨T1, fun b => S1 b ∨ T2 b, fun b h => h2 b (g1 b h), fun b h => h.elim (h1 b) (fun h => h2 b (g2 b h)), fun b h hh => hh.elim (fun hh => hd b hh (g1 b h)) (gd b h), l1, S1, T2, fun b h => .inl h, fun b h => .inr h, fun b h hh => hd b h (g2 b hh), k1, l2⟩
theorem Holds_pick {w : World} {Z : FP} {L Lc Lr : List (List SP)} (h : Pick L Lc Lr) : ∀ {S : FP}, Holds w Z L S →
    ∃ S1 S2, (∀ b, S1 b → S b) ∧ (∀ b, S2 b → S b) ∧ (∀ b, S1 b → ¬ S2 b) ∧ Holds w Z Lc S1 ∧ Holds w Z Lr S2 := by
  induction h with
  | nil => exact fun {S} h => ⟨fun _ => False, S, fun _ h => h.elim, fun _ h => h, fun _ h => h.elim, trivial, h⟩
  | cons e _ ih =>
    intro S h
    obtain ⟨S1, S2, h1, h2, hd, k1, k2⟩ := Holds_ext e h
    obtain ⟨T1, T2, g1, g2, gd, l1, l2⟩ := ih k2
    exact ⟨fun b => S1 b ∨ T1 b, T2, fun b h => h.elim (h1 b) (fun h => h2 b (g1 b h)), fun b h => h2 b (g2 b h), fun b h hh => h.elim (fun h => hd b h (g2 b hh)) (fun h => gd b h hh), ⟨S1, T1, fun b h => .inl h, fun b h => .inr h, fun b h hh => hd b h (g1 b hh), k1, l1⟩, l2⟩
section
variable {w0 w w' : World} {M Y : FP} {A A' : List VP} {L N : List (List SP)} {I I' : List SP} {i k : Nat} {P : SP}
theorem St.arg {V : VP} (H : St w0 M Y w A L) (hk : A[k]? = some V) : ∃ Z, V.holds w Z :=
  let ⟨Z, _, h, _⟩ := H.own
  ⟨Z, argHolds_get h hk⟩
theorem St.item (H : St w0 M Y w A L) (hi : L[i]? = some I) : ∃ Z S, itemHolds w Z I S :=
  let ⟨Z, _, _, h, _⟩ := H.own
  let ⟨S1, _, _, _, _, k, _⟩ := Holds_get h hi
  ⟨Z, S1, k⟩
theorem St.get (H : St w0 M Y w A L) (hi : L[i]? = some I) (hk : I[k]? = some P) : ∃ Z S, P.holds w Z S :=
  let ⟨Z, S, h⟩ := H.item hi
  ⟨Z, S, itemHolds_get h hk⟩
/-- Behind a call that was lent Lc. -/
theorem St.callG {Z S Sc Sr : FP} {Lr : List (List SP)} (hc : Chg w0 w M) (h1 : argHolds w A Z) (h3 : ∀ b, Z b → ¬ S b) (h4 : ∀ b, Z b → b < w.heap.size) (h5 : ∀ b, S b → b < w.heap.size ∧ (w0.heap.size ≤ b ∨ M b)) (h6 : ∀ b, Z b → Y b ∨ w0.heap.size ≤ b ∨ M b)
    (e1 : ∀ b, Sc b → S b) (e2 : ∀ b, Sr b → S b) (ed : ∀ b, Sc b → ¬ Sr b) (k2 : Holds w Z Lr Sr) (p : PostG w w' Sc Z A' N) : St w0 M Y w' (A' ++ A) (N ++ Lr) := by
  obtain ⟨c, Z', T, hA, hN, hzt, hz', ht⟩ := p
  have agZ : Agree w w' Z := fun b hb => c.keep b (h4 b hb) (fun h => h3 b hb (e1 b h))
  have agS : Agree w w' Sr := fun b hb => c.keep b (h5 b (e2 b hb)).1 (fun h => ed b h hb)
  have hnew : ∀ b, (w.heap.size ≤ b ∨ Sc b) → (w0.heap.size ≤ b ∨ M b) := fun b h => h.elim (fun h => .inl (Nat.le_trans hc.size h)) (fun h => (h5 b (e1 b h)).2)
  refine ⟨hc.trans c (fun b hb hlt => (h5 b (e1 b hb)).2.elim (fun h => by omega) id), fun b => Z b ∨ Z' b, fun b => T b ∨ Sr b, ?_, ?_, ?_, ?_, ?_, ?_⟩
  · exact argHolds_append hA (argHolds_mono (fun b h => .inl h) (argHolds_loc agZ h1))
  · exact Holds_append hN (Holds_mono (fun b h => .inl h) (fun _ h => h) (Holds_loc agZ agS k2)) (fun b hb hh => (ht b hb).2.elim (fun h => by have := (h5 b (e2 b hh)).1; omega) (fun h => ed b h hh))
  · intro b hb hh
    rcases hb with hb | hb <;> rcases hh with hh | hh
    · rcases (ht b hh).2 with h | h
      · have := h4 b hb; omega
      · exact h3 b hb (e1 b h)
    · exact h3 b hb (e2 b hh)
    · exact hzt b hb hh
    · rcases (hz' b hb).2 with h | h
      · have := (h5 b (e2 b hh)).1; omega
      · exact ed b h hh
  · intro b hb
    rcases hb with hb | hb
    · exact Nat.lt_of_lt_of_le (h4 b hb) c.size
    · exact (hz' b hb).1
  · intro b hb
    rcases hb with hb | hb
    · exact ⟨(ht b hb).1, hnew b (ht b hb).2⟩
    · exact ⟨Nat.lt_of_lt_of_le (h5 b (e2 b hb)).1 c.size, (h5 b (e2 b hb)).2⟩
  · intro b hb
    rcases hb with hb | hb
    · exact h6 b hb
    · exact .inr (hnew b (hz' b hb).2)
/-- What is new. -/
theorem St.postN (H : St w0 M Y w A L) (p : PostG w w' Nil Nil A' N) : St w0 M Y w' (A' ++ A) (N ++ L) := by
  obtain ⟨hc, Z, S, h1, h2, h3, h4, h5, h6⟩ := H
  refine St.callG (Sc := Nil) (Sr := S) hc h1 h3 h4 h5 h6 (fun _ h => h.elim) (fun _ h => h) (fun _ h => h.elim) h2 ?_
  obtain ⟨c, Z', T, hA, hN, h⟩ := p
  exact ⟨c, Z', T, argHolds_mono (fun b h => h.elim (fun h => h.elim) .inr) hA, Holds_mono (fun b h => h.elim (fun h => h.elim) .inr) (fun _ h => h) hN, h⟩
/-- Nothing old has changed. -/
theorem St.frame (H : St w0 M Y w A L) (c : Chg w w' Nil) : St w0 M Y w' A L := by
  exact H.postN (A' := []) (N := []) ⟨c, Nil, Nil, trivial, trivial, fun _ h => h.elim, fun _ h => h.elim, fun _ h => h.elim⟩
/-- What is new: items, each on new blocks. -/
def News (w w' : World) (N : List (List SP)) : Prop := ∃ S, (∀ b, S b → w.heap.size ≤ b ∧ b < w'.heap.size) ∧ Holds w' Nil N S
theorem News.nil (w w' : World) : News w w' [] := ⟨Nil, fun _ h => h.elim, trivial⟩
theorem News.one {S : FP} (hs : ∀ b, S b → w.heap.size ≤ b ∧ b < w'.heap.size) (h : itemHolds w' Nil I S) : News w w' [I] :=
  ⟨S, hs, S, Nil, fun _ h => h, fun _ h => h.elim, fun _ _ h => h.elim, h, trivial⟩
theorem St.news (H : St w0 M Y w A L) (c : Chg w w' Nil) (hn : News w w' N) : St w0 M Y w' A (N ++ L) := by
  obtain ⟨T, ht, hN⟩ := hn
  exact H.postN (A' := []) (N := N) ⟨c, Nil, T, trivial, Holds_mono (fun _ h => h.elim) (fun _ h => h) hN, fun _ h => h.elim, fun _ h => h.elim, fun b h => ⟨(ht b h).2, .inl (ht b h).1⟩⟩
/-- A step that turns the item i, and nothing else. -/
theorem St.updE {ρ : Sort _} {Wr : ρ → World} {Ir : ρ → List SP} {Φ : ρ → Prop} (H : St w0 M Y w A L) (hi : L[i]? = some I)
    (f : ∀ (Z S1 : FP), (∀ b, Z b → b < w.heap.size) → (∀ b, S1 b → b < w.heap.size) → (∀ b, Z b → ¬ S1 b) → argHolds w A Z → (∃ S, Holds w Z L S) → itemHolds w Z I S1 →
      ∃ r, Φ r ∧ ∃ S1', itemHolds (Wr r) Z (Ir r) S1' ∧ (∀ b, S1' b → S1 b ∨ (w.heap.size ≤ b ∧ b < (Wr r).heap.size)) ∧ Chg w (Wr r) S1) : ∃ r, Φ r ∧ St w0 M Y (Wr r) A (L.set i (Ir r)) := by
  obtain ⟨hc, S0, S, h1, h2, h3, h4, h5, h6⟩ := H
  obtain ⟨S1, S2, g1, g2, gd, k1, k2⟩ := Holds_get h2 hi
  obtain ⟨r, hr, S1', l1, l2, c⟩ := f S0 S1 h4 (fun b hb => (h5 b (g1 b hb)).1) (fun b hb hh => h3 b hb (g1 b hh)) h1 ⟨S, h2⟩ k1
  refine ⟨r, hr, ?_⟩
  have hil : i < L.length := by
    rcases Nat.lt_or_ge i L.length with h | h
    · exact h
    · rw [List.getElem?_eq_none h] at hi; cases hi
  have ag2 : Agree w (Wr r) S2 := fun b hb => c.keep b (h5 b (g2 b hb)).1 (fun h => gd b h hb)
  have ag0 : Agree w (Wr r) S0 := fun b hb => c.keep b (h4 b hb) (fun h => h3 b hb (g1 b h))
  refine ⟨hc.trans c ?_, S0, fun b => S1' b ∨ S2 b, argHolds_loc ag0 h1, Holds_put hil l1 (Holds_loc ag0 ag2 k2) ?_, ?_, ?_, ?_, h6⟩
  · intro b hb hlt
    rcases (h5 b (g1 b hb)).2 with h | h
    · omega
    · exact h
  · intro b hb hh
    rcases l2 b hb with h | h
    · exact gd b h hh
    · have := (h5 b (g2 b hh)).1; omega
  · intro b hb hh
    rcases hh with hh | hh
    · rcases l2 b hh with h | h
      · exact h3 b hb (g1 b h)
      · have := h4 b hb; omega
    · exact h3 b hb (g2 b hh)
  · intro b hb; exact Nat.lt_of_lt_of_le (h4 b hb) c.size
  · intro b hb
    rcases hb with hb | hb
    · rcases l2 b hb with h | h
      · exact ⟨Nat.lt_of_lt_of_le (h5 b (g1 b h)).1 c.size, (h5 b (g1 b h)).2⟩
      · exact ⟨h.2, .inl (Nat.le_trans hc.size h.1)⟩
    · exact ⟨Nat.lt_of_lt_of_le (h5 b (g2 b hb)).1 c.size, (h5 b (g2 b hb)).2⟩
theorem St.upd (H : St w0 M Y w A L) (hi : L[i]? = some I)
    (f : ∀ (Z S1 : FP), (∀ b, Z b → b < w.heap.size) → (∀ b, S1 b → b < w.heap.size) → (∀ b, Z b → ¬ S1 b) → argHolds w A Z → itemHolds w Z I S1 → ∃ S1', itemHolds w' Z I' S1' ∧ (∀ b, S1' b → S1 b ∨ (w.heap.size ≤ b ∧ b < w'.heap.size)) ∧ Chg w w' S1) : St w0 M Y w' A (L.set i I') :=
  let ⟨_, _, h⟩ := H.updE (ρ := Unit) (Wr := fun _ => w') (Ir := fun _ => I') (Φ := fun _ => True) hi fun Z S1 h1 h2 h3 h4 _ h6 => ⟨(), trivial, f Z S1 h1 h2 h3 h4 h6⟩
  h
/-- Items that are no longer wanted. -/
theorem St.drop (H : St w0 M Y w A L) (i : Nat) : St w0 M Y w A (L.eraseIdx i) := by
  obtain ⟨hc, S0, S, h1, h2, h3⟩ := H
  exact ⟨hc, S0, S, h1, Holds_erase h2, h3⟩
/-- An item is shared from now on: what can be read of it. -/
theorem St.share {L' : List (List SP)} (H : St w0 M Y w A L) (hi : Ext L I L') (f : ∀ Z S1, itemHolds w Z I S1 → argHolds w A' (fun b => Z b ∨ S1 b)) : St w0 M Y w (A' ++ A) L' := by
  obtain ⟨hc, S0, S, h1, h2, h3, h4, h5, h6⟩ := H
  obtain ⟨S1, S2, g1, g2, gd, k1, k2⟩ := Holds_ext hi h2
  refine ⟨hc, fun b => S0 b ∨ S1 b, S2, argHolds_append (f _ _ k1) (argHolds_mono (fun b h => .inl h) h1), Holds_mono (fun b h => .inl h) (fun b h => h) k2, ?_, ?_, ?_, ?_⟩
  · intro b hb hh
    rcases hb with hb | hb
    · exact h3 b hb (g2 b hh)
    · exact gd b hb hh
  · intro b hb
    rcases hb with hb | hb
    · exact h4 b hb
    · exact (h5 b (g1 b hb)).1
  · intro b hb; exact h5 b (g2 b hb)
  · intro b hb
    rcases hb with hb | hb
    · exact h6 b hb
    · exact .inr (h5 b (g1 b hb)).2
theorem St.front1 {L' : List (List SP)} (H : St w0 M Y w A L) (hi : Ext L I L') : St w0 M Y w A (I :: L') := by
  obtain ⟨hc, Z, S, h1, h2, h3, h4, h5, h6⟩ := H
  obtain ⟨S1, S2, e1, e2, ed, k1, k2⟩ := Holds_ext hi h2
  exact ⟨hc, Z, S, h1, ⟨S1, S2, e1, e2, ed, k1, k2⟩, h3, h4, h5, h6⟩
/-- More facts of what is shared. -/
theorem St.more (H : St w0 M Y w A L) (f : ∀ Z, argHolds w A Z → argHolds w A' Z) : St w0 M Y w (A' ++ A) L := by
  obtain ⟨hc, S0, S, h1, h2⟩ := H
  exact ⟨hc, S0, S, argHolds_append (f _ h1) h1, h2⟩
theorem St.subA (H : St w0 M Y w A L) (h : ∀ P, P ∈ A' → P ∈ A) : St w0 M Y w A' L := by
  obtain ⟨hc, S0, S, h1, h2⟩ := H
  refine ⟨hc, S0, S, ?_, h2⟩
  have : ∀ B : List VP, (∀ P, P ∈ B → P ∈ A) → argHolds w B S0 := by
    intro B
    induction B with
    | nil => intro _; trivial
    | cons P B ih =>
      intro hB
      obtain ⟨k, hk⟩ := List.mem_iff_getElem?.1 (hB P (by simp))
      exact ⟨argHolds_get h1 hk, ih fun Q hQ => hB Q (by simp [hQ])⟩
  exact this A' h
/-- The end of a call: of what is shared A', of what is its own N. -/
theorem St.leave {N : List (List SP)} (H : St w0 M Y w A L) (hA : ∀ Z, argHolds w A Z → argHolds w A' Z) (hN : ∀ Z S, Holds w Z L S → Holds w Z N S) : PostG w0 w M Y A' N := by
  obtain ⟨hc, Z, S, h1, h2, h3, h4, h5, h6⟩ := H
  have hz : ∀ b, Z b → (Y b ∨ (Z b ∧ (w0.heap.size ≤ b ∨ M b))) := fun b hb => (h6 b hb).imp id (fun h => ⟨hb, h⟩)
  exact ⟨hc, fun b => Z b ∧ (w0.heap.size ≤ b ∨ M b), S, argHolds_mono hz (hA Z h1), Holds_mono hz (fun _ h => h) (hN Z S h2), fun b hb => h3 b hb.1, fun b hb => ⟨h4 b hb.1, hb.2⟩, h5⟩
/-- The begin of a call. -/
theorem St.init {Z : FP} (hz : ∀ b, Z b → b < w.heap.size ∧ ¬ M b) (hA : argHolds w A Z) (hL : ∃ S, (∀ b, S b → M b ∧ b < w.heap.size) ∧ Holds w Z L S) : St w M Z w A L := by
  obtain ⟨S, hs, hL⟩ := hL
  exact ⟨Chg.refl _ _, Z, S, hA, hL, fun b hb hh => (hz b hb).2 (hs b hh).1, fun b hb => (hz b hb).1, fun b hb => ⟨(hs b hb).2, .inr (hs b hb).1⟩, fun b h => .inl h⟩
end

/-- What stands in a list; and what the list is when another thing stands there. -/
inductive At {X : Type _} : List X → X → Prop
  | z {x : X} {L : List X} : At (x :: L) x
  | s {x y : X} {L : List X} : At L x → At (y :: L) x
inductive Upd {X : Type _} : List X → X → X → List X → Prop
  | z {x y : X} {L : List X} : Upd (x :: L) x y (y :: L)
  | s {x y u : X} {L L' : List X} : Upd L x y L' → Upd (u :: L) x y (u :: L')
theorem Ext.get {X : Type _} {L Lr : List X} {x : X} (h : Ext L x Lr) : ∃ i : Nat, L[i]? = some x ∧ ∀ y, Ext (L.set i y) y Lr := by
  induction h with
  | z => exact ⟨0, rfl, fun y => .z⟩
  | s _ ih => obtain ⟨i, hi, hs⟩ := ih; exact ⟨i + 1, by simpa using hi, fun y => .s (hs y)⟩
theorem At.get {X : Type _} {L : List X} {x : X} (h : At L x) : ∃ i : Nat, L[i]? = some x := by
  induction h with
  | z => exact ⟨0, rfl⟩
  | s _ ih => obtain ⟨i, hi⟩ := ih; exact ⟨i + 1, by simpa using hi⟩
theorem Upd.get {X : Type _} {L L' : List X} {x y : X} (h : Upd L x y L') : ∃ i : Nat, L[i]? = some x ∧ L.set i y = L' := by
  induction h with
  | z => exact ⟨0, rfl, rfl⟩
  | s _ ih => obtain ⟨i, hi, hs⟩ := ih; exact ⟨i + 1, by simpa using hi, by simp [hs]⟩
theorem a0 {X : Type _} {x : X} {L : List X} : At (x :: L) x := .z
theorem a1 {X : Type _} {x0 x : X} {L : List X} : At (x0 :: x :: L) x := .s .z
theorem a2 {X : Type _} {x0 x1 x : X} {L : List X} : At (x0 :: x1 :: x :: L) x := .s (.s .z)
theorem a3 {X : Type _} {x0 x1 x2 x : X} {L : List X} : At (x0 :: x1 :: x2 :: x :: L) x := .s (.s (.s .z))
theorem a4 {X : Type _} {x0 x1 x2 x3 x : X} {L : List X} : At (x0 :: x1 :: x2 :: x3 :: x :: L) x := .s (.s (.s (.s .z)))
theorem a5 {X : Type _} {x0 x1 x2 x3 x4 x : X} {L : List X} : At (x0 :: x1 :: x2 :: x3 :: x4 :: x :: L) x := .s (.s (.s (.s (.s .z))))
theorem a6 {X : Type _} {x0 x1 x2 x3 x4 x5 x : X} {L : List X} : At (x0 :: x1 :: x2 :: x3 :: x4 :: x5 :: x :: L) x := .s (.s (.s (.s (.s (.s .z)))))
theorem a7 {X : Type _} {x0 x1 x2 x3 x4 x5 x6 x : X} {L : List X} : At (x0 :: x1 :: x2 :: x3 :: x4 :: x5 :: x6 :: x :: L) x := .s (.s (.s (.s (.s (.s (.s .z))))))
theorem a8 {X : Type _} {x0 x1 x2 x3 x4 x5 x6 x7 x : X} {L : List X} : At (x0 :: x1 :: x2 :: x3 :: x4 :: x5 :: x6 :: x7 :: x :: L) x := .s (.s (.s (.s (.s (.s (.s (.s .z)))))))
theorem a9 {X : Type _} {x0 x1 x2 x3 x4 x5 x6 x7 x8 x : X} {L : List X} : At (x0 :: x1 :: x2 :: x3 :: x4 :: x5 :: x6 :: x7 :: x8 :: x :: L) x := .s (.s (.s (.s (.s (.s (.s (.s (.s .z))))))))
theorem a10 {X : Type _} {x0 x1 x2 x3 x4 x5 x6 x7 x8 x9 x : X} {L : List X} : At (x0 :: x1 :: x2 :: x3 :: x4 :: x5 :: x6 :: x7 :: x8 :: x9 :: x :: L) x := .s (.s (.s (.s (.s (.s (.s (.s (.s (.s .z)))))))))
theorem a11 {X : Type _} {x0 x1 x2 x3 x4 x5 x6 x7 x8 x9 x10 x : X} {L : List X} : At (x0 :: x1 :: x2 :: x3 :: x4 :: x5 :: x6 :: x7 :: x8 :: x9 :: x10 :: x :: L) x := .s (.s (.s (.s (.s (.s (.s (.s (.s (.s (.s .z))))))))))
theorem a12 {X : Type _} {x0 x1 x2 x3 x4 x5 x6 x7 x8 x9 x10 x11 x : X} {L : List X} : At (x0 :: x1 :: x2 :: x3 :: x4 :: x5 :: x6 :: x7 :: x8 :: x9 :: x10 :: x11 :: x :: L) x := .s (.s (.s (.s (.s (.s (.s (.s (.s (.s (.s (.s .z)))))))))))
theorem a13 {X : Type _} {x0 x1 x2 x3 x4 x5 x6 x7 x8 x9 x10 x11 x12 x : X} {L : List X} : At (x0 :: x1 :: x2 :: x3 :: x4 :: x5 :: x6 :: x7 :: x8 :: x9 :: x10 :: x11 :: x12 :: x :: L) x := .s (.s (.s (.s (.s (.s (.s (.s (.s (.s (.s (.s (.s .z))))))))))))
theorem a14 {X : Type _} {x0 x1 x2 x3 x4 x5 x6 x7 x8 x9 x10 x11 x12 x13 x : X} {L : List X} : At (x0 :: x1 :: x2 :: x3 :: x4 :: x5 :: x6 :: x7 :: x8 :: x9 :: x10 :: x11 :: x12 :: x13 :: x :: L) x := .s (.s (.s (.s (.s (.s (.s (.s (.s (.s (.s (.s (.s (.s .z)))))))))))))
theorem a15 {X : Type _} {x0 x1 x2 x3 x4 x5 x6 x7 x8 x9 x10 x11 x12 x13 x14 x : X} {L : List X} : At (x0 :: x1 :: x2 :: x3 :: x4 :: x5 :: x6 :: x7 :: x8 :: x9 :: x10 :: x11 :: x12 :: x13 :: x14 :: x :: L) x := .s (.s (.s (.s (.s (.s (.s (.s (.s (.s (.s (.s (.s (.s (.s .z))))))))))))))
theorem a16 {X : Type _} {x0 x1 x2 x3 x4 x5 x6 x7 x8 x9 x10 x11 x12 x13 x14 x15 x : X} {L : List X} : At (x0 :: x1 :: x2 :: x3 :: x4 :: x5 :: x6 :: x7 :: x8 :: x9 :: x10 :: x11 :: x12 :: x13 :: x14 :: x15 :: x :: L) x := .s (.s (.s (.s (.s (.s (.s (.s (.s (.s (.s (.s (.s (.s (.s (.s .z)))))))))))))))
theorem a17 {X : Type _} {x0 x1 x2 x3 x4 x5 x6 x7 x8 x9 x10 x11 x12 x13 x14 x15 x16 x : X} {L : List X} : At (x0 :: x1 :: x2 :: x3 :: x4 :: x5 :: x6 :: x7 :: x8 :: x9 :: x10 :: x11 :: x12 :: x13 :: x14 :: x15 :: x16 :: x :: L) x := .s (.s (.s (.s (.s (.s (.s (.s (.s (.s (.s (.s (.s (.s (.s (.s (.s .z))))))))))))))))
theorem a18 {X : Type _} {x0 x1 x2 x3 x4 x5 x6 x7 x8 x9 x10 x11 x12 x13 x14 x15 x16 x17 x : X} {L : List X} : At (x0 :: x1 :: x2 :: x3 :: x4 :: x5 :: x6 :: x7 :: x8 :: x9 :: x10 :: x11 :: x12 :: x13 :: x14 :: x15 :: x16 :: x17 :: x :: L) x := .s (.s (.s (.s (.s (.s (.s (.s (.s (.s (.s (.s (.s (.s (.s (.s (.s (.s .z)))))))))))))))))
theorem a19 {X : Type _} {x0 x1 x2 x3 x4 x5 x6 x7 x8 x9 x10 x11 x12 x13 x14 x15 x16 x17 x18 x : X} {L : List X} : At (x0 :: x1 :: x2 :: x3 :: x4 :: x5 :: x6 :: x7 :: x8 :: x9 :: x10 :: x11 :: x12 :: x13 :: x14 :: x15 :: x16 :: x17 :: x18 :: x :: L) x := .s (.s (.s (.s (.s (.s (.s (.s (.s (.s (.s (.s (.s (.s (.s (.s (.s (.s (.s .z))))))))))))))))))
theorem a20 {X : Type _} {x0 x1 x2 x3 x4 x5 x6 x7 x8 x9 x10 x11 x12 x13 x14 x15 x16 x17 x18 x19 x : X} {L : List X} : At (x0 :: x1 :: x2 :: x3 :: x4 :: x5 :: x6 :: x7 :: x8 :: x9 :: x10 :: x11 :: x12 :: x13 :: x14 :: x15 :: x16 :: x17 :: x18 :: x19 :: x :: L) x := .s (.s (.s (.s (.s (.s (.s (.s (.s (.s (.s (.s (.s (.s (.s (.s (.s (.s (.s (.s .z)))))))))))))))))))
theorem a21 {X : Type _} {x0 x1 x2 x3 x4 x5 x6 x7 x8 x9 x10 x11 x12 x13 x14 x15 x16 x17 x18 x19 x20 x : X} {L : List X} : At (x0 :: x1 :: x2 :: x3 :: x4 :: x5 :: x6 :: x7 :: x8 :: x9 :: x10 :: x11 :: x12 :: x13 :: x14 :: x15 :: x16 :: x17 :: x18 :: x19 :: x20 :: x :: L) x := .s (.s (.s (.s (.s (.s (.s (.s (.s (.s (.s (.s (.s (.s (.s (.s (.s (.s (.s (.s (.s .z))))))))))))))))))))
theorem a22 {X : Type _} {x0 x1 x2 x3 x4 x5 x6 x7 x8 x9 x10 x11 x12 x13 x14 x15 x16 x17 x18 x19 x20 x21 x : X} {L : List X} : At (x0 :: x1 :: x2 :: x3 :: x4 :: x5 :: x6 :: x7 :: x8 :: x9 :: x10 :: x11 :: x12 :: x13 :: x14 :: x15 :: x16 :: x17 :: x18 :: x19 :: x20 :: x21 :: x :: L) x := .s (.s (.s (.s (.s (.s (.s (.s (.s (.s (.s (.s (.s (.s (.s (.s (.s (.s (.s (.s (.s (.s .z)))))))))))))))))))))
theorem a23 {X : Type _} {x0 x1 x2 x3 x4 x5 x6 x7 x8 x9 x10 x11 x12 x13 x14 x15 x16 x17 x18 x19 x20 x21 x22 x : X} {L : List X} : At (x0 :: x1 :: x2 :: x3 :: x4 :: x5 :: x6 :: x7 :: x8 :: x9 :: x10 :: x11 :: x12 :: x13 :: x14 :: x15 :: x16 :: x17 :: x18 :: x19 :: x20 :: x21 :: x22 :: x :: L) x := .s (.s (.s (.s (.s (.s (.s (.s (.s (.s (.s (.s (.s (.s (.s (.s (.s (.s (.s (.s (.s (.s (.s .z))))))))))))))))))))))
theorem e0 {X : Type _} {x : X} {L : List X} : Ext (x :: L) x (L) := .z
theorem e1 {X : Type _} {x0 x : X} {L : List X} : Ext (x0 :: x :: L) x (x0 :: L) := .s .z
theorem e2 {X : Type _} {x0 x1 x : X} {L : List X} : Ext (x0 :: x1 :: x :: L) x (x0 :: x1 :: L) := .s (.s .z)
theorem e3 {X : Type _} {x0 x1 x2 x : X} {L : List X} : Ext (x0 :: x1 :: x2 :: x :: L) x (x0 :: x1 :: x2 :: L) := .s (.s (.s .z))
theorem e4 {X : Type _} {x0 x1 x2 x3 x : X} {L : List X} : Ext (x0 :: x1 :: x2 :: x3 :: x :: L) x (x0 :: x1 :: x2 :: x3 :: L) := .s (.s (.s (.s .z)))
theorem e5 {X : Type _} {x0 x1 x2 x3 x4 x : X} {L : List X} : Ext (x0 :: x1 :: x2 :: x3 :: x4 :: x :: L) x (x0 :: x1 :: x2 :: x3 :: x4 :: L) := .s (.s (.s (.s (.s .z))))
theorem e6 {X : Type _} {x0 x1 x2 x3 x4 x5 x : X} {L : List X} : Ext (x0 :: x1 :: x2 :: x3 :: x4 :: x5 :: x :: L) x (x0 :: x1 :: x2 :: x3 :: x4 :: x5 :: L) := .s (.s (.s (.s (.s (.s .z)))))
theorem e7 {X : Type _} {x0 x1 x2 x3 x4 x5 x6 x : X} {L : List X} : Ext (x0 :: x1 :: x2 :: x3 :: x4 :: x5 :: x6 :: x :: L) x (x0 :: x1 :: x2 :: x3 :: x4 :: x5 :: x6 :: L) := .s (.s (.s (.s (.s (.s (.s .z))))))
theorem e8 {X : Type _} {x0 x1 x2 x3 x4 x5 x6 x7 x : X} {L : List X} : Ext (x0 :: x1 :: x2 :: x3 :: x4 :: x5 :: x6 :: x7 :: x :: L) x (x0 :: x1 :: x2 :: x3 :: x4 :: x5 :: x6 :: x7 :: L) := .s (.s (.s (.s (.s (.s (.s (.s .z)))))))
theorem e9 {X : Type _} {x0 x1 x2 x3 x4 x5 x6 x7 x8 x : X} {L : List X} : Ext (x0 :: x1 :: x2 :: x3 :: x4 :: x5 :: x6 :: x7 :: x8 :: x :: L) x (x0 :: x1 :: x2 :: x3 :: x4 :: x5 :: x6 :: x7 :: x8 :: L) := .s (.s (.s (.s (.s (.s (.s (.s (.s .z))))))))
theorem e10 {X : Type _} {x0 x1 x2 x3 x4 x5 x6 x7 x8 x9 x : X} {L : List X} : Ext (x0 :: x1 :: x2 :: x3 :: x4 :: x5 :: x6 :: x7 :: x8 :: x9 :: x :: L) x (x0 :: x1 :: x2 :: x3 :: x4 :: x5 :: x6 :: x7 :: x8 :: x9 :: L) := .s (.s (.s (.s (.s (.s (.s (.s (.s (.s .z)))))))))
theorem e11 {X : Type _} {x0 x1 x2 x3 x4 x5 x6 x7 x8 x9 x10 x : X} {L : List X} : Ext (x0 :: x1 :: x2 :: x3 :: x4 :: x5 :: x6 :: x7 :: x8 :: x9 :: x10 :: x :: L) x (x0 :: x1 :: x2 :: x3 :: x4 :: x5 :: x6 :: x7 :: x8 :: x9 :: x10 :: L) := .s (.s (.s (.s (.s (.s (.s (.s (.s (.s (.s .z))))))))))
theorem e12 {X : Type _} {x0 x1 x2 x3 x4 x5 x6 x7 x8 x9 x10 x11 x : X} {L : List X} : Ext (x0 :: x1 :: x2 :: x3 :: x4 :: x5 :: x6 :: x7 :: x8 :: x9 :: x10 :: x11 :: x :: L) x (x0 :: x1 :: x2 :: x3 :: x4 :: x5 :: x6 :: x7 :: x8 :: x9 :: x10 :: x11 :: L) := .s (.s (.s (.s (.s (.s (.s (.s (.s (.s (.s (.s .z)))))))))))
theorem e13 {X : Type _} {x0 x1 x2 x3 x4 x5 x6 x7 x8 x9 x10 x11 x12 x : X} {L : List X} : Ext (x0 :: x1 :: x2 :: x3 :: x4 :: x5 :: x6 :: x7 :: x8 :: x9 :: x10 :: x11 :: x12 :: x :: L) x (x0 :: x1 :: x2 :: x3 :: x4 :: x5 :: x6 :: x7 :: x8 :: x9 :: x10 :: x11 :: x12 :: L) := .s (.s (.s (.s (.s (.s (.s (.s (.s (.s (.s (.s (.s .z))))))))))))
theorem e14 {X : Type _} {x0 x1 x2 x3 x4 x5 x6 x7 x8 x9 x10 x11 x12 x13 x : X} {L : List X} : Ext (x0 :: x1 :: x2 :: x3 :: x4 :: x5 :: x6 :: x7 :: x8 :: x9 :: x10 :: x11 :: x12 :: x13 :: x :: L) x (x0 :: x1 :: x2 :: x3 :: x4 :: x5 :: x6 :: x7 :: x8 :: x9 :: x10 :: x11 :: x12 :: x13 :: L) := .s (.s (.s (.s (.s (.s (.s (.s (.s (.s (.s (.s (.s (.s .z)))))))))))))
theorem e15 {X : Type _} {x0 x1 x2 x3 x4 x5 x6 x7 x8 x9 x10 x11 x12 x13 x14 x : X} {L : List X} : Ext (x0 :: x1 :: x2 :: x3 :: x4 :: x5 :: x6 :: x7 :: x8 :: x9 :: x10 :: x11 :: x12 :: x13 :: x14 :: x :: L) x (x0 :: x1 :: x2 :: x3 :: x4 :: x5 :: x6 :: x7 :: x8 :: x9 :: x10 :: x11 :: x12 :: x13 :: x14 :: L) := .s (.s (.s (.s (.s (.s (.s (.s (.s (.s (.s (.s (.s (.s (.s .z))))))))))))))
theorem e16 {X : Type _} {x0 x1 x2 x3 x4 x5 x6 x7 x8 x9 x10 x11 x12 x13 x14 x15 x : X} {L : List X} : Ext (x0 :: x1 :: x2 :: x3 :: x4 :: x5 :: x6 :: x7 :: x8 :: x9 :: x10 :: x11 :: x12 :: x13 :: x14 :: x15 :: x :: L) x (x0 :: x1 :: x2 :: x3 :: x4 :: x5 :: x6 :: x7 :: x8 :: x9 :: x10 :: x11 :: x12 :: x13 :: x14 :: x15 :: L) := .s (.s (.s (.s (.s (.s (.s (.s (.s (.s (.s (.s (.s (.s (.s (.s .z)))))))))))))))
theorem e17 {X : Type _} {x0 x1 x2 x3 x4 x5 x6 x7 x8 x9 x10 x11 x12 x13 x14 x15 x16 x : X} {L : List X} : Ext (x0 :: x1 :: x2 :: x3 :: x4 :: x5 :: x6 :: x7 :: x8 :: x9 :: x10 :: x11 :: x12 :: x13 :: x14 :: x15 :: x16 :: x :: L) x (x0 :: x1 :: x2 :: x3 :: x4 :: x5 :: x6 :: x7 :: x8 :: x9 :: x10 :: x11 :: x12 :: x13 :: x14 :: x15 :: x16 :: L) := .s (.s (.s (.s (.s (.s (.s (.s (.s (.s (.s (.s (.s (.s (.s (.s (.s .z))))))))))))))))
theorem e18 {X : Type _} {x0 x1 x2 x3 x4 x5 x6 x7 x8 x9 x10 x11 x12 x13 x14 x15 x16 x17 x : X} {L : List X} : Ext (x0 :: x1 :: x2 :: x3 :: x4 :: x5 :: x6 :: x7 :: x8 :: x9 :: x10 :: x11 :: x12 :: x13 :: x14 :: x15 :: x16 :: x17 :: x :: L) x (x0 :: x1 :: x2 :: x3 :: x4 :: x5 :: x6 :: x7 :: x8 :: x9 :: x10 :: x11 :: x12 :: x13 :: x14 :: x15 :: x16 :: x17 :: L) := .s (.s (.s (.s (.s (.s (.s (.s (.s (.s (.s (.s (.s (.s (.s (.s (.s (.s .z)))))))))))))))))
theorem e19 {X : Type _} {x0 x1 x2 x3 x4 x5 x6 x7 x8 x9 x10 x11 x12 x13 x14 x15 x16 x17 x18 x : X} {L : List X} : Ext (x0 :: x1 :: x2 :: x3 :: x4 :: x5 :: x6 :: x7 :: x8 :: x9 :: x10 :: x11 :: x12 :: x13 :: x14 :: x15 :: x16 :: x17 :: x18 :: x :: L) x (x0 :: x1 :: x2 :: x3 :: x4 :: x5 :: x6 :: x7 :: x8 :: x9 :: x10 :: x11 :: x12 :: x13 :: x14 :: x15 :: x16 :: x17 :: x18 :: L) := .s (.s (.s (.s (.s (.s (.s (.s (.s (.s (.s (.s (.s (.s (.s (.s (.s (.s (.s .z))))))))))))))))))
theorem e20 {X : Type _} {x0 x1 x2 x3 x4 x5 x6 x7 x8 x9 x10 x11 x12 x13 x14 x15 x16 x17 x18 x19 x : X} {L : List X} : Ext (x0 :: x1 :: x2 :: x3 :: x4 :: x5 :: x6 :: x7 :: x8 :: x9 :: x10 :: x11 :: x12 :: x13 :: x14 :: x15 :: x16 :: x17 :: x18 :: x19 :: x :: L) x (x0 :: x1 :: x2 :: x3 :: x4 :: x5 :: x6 :: x7 :: x8 :: x9 :: x10 :: x11 :: x12 :: x13 :: x14 :: x15 :: x16 :: x17 :: x18 :: x19 :: L) := .s (.s (.s (.s (.s (.s (.s (.s (.s (.s (.s (.s (.s (.s (.s (.s (.s (.s (.s (.s .z)))))))))))))))))))
theorem e21 {X : Type _} {x0 x1 x2 x3 x4 x5 x6 x7 x8 x9 x10 x11 x12 x13 x14 x15 x16 x17 x18 x19 x20 x : X} {L : List X} : Ext (x0 :: x1 :: x2 :: x3 :: x4 :: x5 :: x6 :: x7 :: x8 :: x9 :: x10 :: x11 :: x12 :: x13 :: x14 :: x15 :: x16 :: x17 :: x18 :: x19 :: x20 :: x :: L) x (x0 :: x1 :: x2 :: x3 :: x4 :: x5 :: x6 :: x7 :: x8 :: x9 :: x10 :: x11 :: x12 :: x13 :: x14 :: x15 :: x16 :: x17 :: x18 :: x19 :: x20 :: L) := .s (.s (.s (.s (.s (.s (.s (.s (.s (.s (.s (.s (.s (.s (.s (.s (.s (.s (.s (.s (.s .z))))))))))))))))))))
theorem e22 {X : Type _} {x0 x1 x2 x3 x4 x5 x6 x7 x8 x9 x10 x11 x12 x13 x14 x15 x16 x17 x18 x19 x20 x21 x : X} {L : List X} : Ext (x0 :: x1 :: x2 :: x3 :: x4 :: x5 :: x6 :: x7 :: x8 :: x9 :: x10 :: x11 :: x12 :: x13 :: x14 :: x15 :: x16 :: x17 :: x18 :: x19 :: x20 :: x21 :: x :: L) x (x0 :: x1 :: x2 :: x3 :: x4 :: x5 :: x6 :: x7 :: x8 :: x9 :: x10 :: x11 :: x12 :: x13 :: x14 :: x15 :: x16 :: x17 :: x18 :: x19 :: x20 :: x21 :: L) := .s (.s (.s (.s (.s (.s (.s (.s (.s (.s (.s (.s (.s (.s (.s (.s (.s (.s (.s (.s (.s (.s .z)))))))))))))))))))))
theorem e23 {X : Type _} {x0 x1 x2 x3 x4 x5 x6 x7 x8 x9 x10 x11 x12 x13 x14 x15 x16 x17 x18 x19 x20 x21 x22 x : X} {L : List X} : Ext (x0 :: x1 :: x2 :: x3 :: x4 :: x5 :: x6 :: x7 :: x8 :: x9 :: x10 :: x11 :: x12 :: x13 :: x14 :: x15 :: x16 :: x17 :: x18 :: x19 :: x20 :: x21 :: x22 :: x :: L) x (x0 :: x1 :: x2 :: x3 :: x4 :: x5 :: x6 :: x7 :: x8 :: x9 :: x10 :: x11 :: x12 :: x13 :: x14 :: x15 :: x16 :: x17 :: x18 :: x19 :: x20 :: x21 :: x22 :: L) := .s (.s (.s (.s (.s (.s (.s (.s (.s (.s (.s (.s (.s (.s (.s (.s (.s (.s (.s (.s (.s (.s (.s .z))))))))))))))))))))))
theorem u0 {X : Type _} {x y : X} {L : List X} : Upd (x :: L) x y (y :: L) := .z
theorem u1 {X : Type _} {x0 x y : X} {L : List X} : Upd (x0 :: x :: L) x y (x0 :: y :: L) := .s .z
theorem u2 {X : Type _} {x0 x1 x y : X} {L : List X} : Upd (x0 :: x1 :: x :: L) x y (x0 :: x1 :: y :: L) := .s (.s .z)
theorem u3 {X : Type _} {x0 x1 x2 x y : X} {L : List X} : Upd (x0 :: x1 :: x2 :: x :: L) x y (x0 :: x1 :: x2 :: y :: L) := .s (.s (.s .z))
theorem u4 {X : Type _} {x0 x1 x2 x3 x y : X} {L : List X} : Upd (x0 :: x1 :: x2 :: x3 :: x :: L) x y (x0 :: x1 :: x2 :: x3 :: y :: L) := .s (.s (.s (.s .z)))
theorem u5 {X : Type _} {x0 x1 x2 x3 x4 x y : X} {L : List X} : Upd (x0 :: x1 :: x2 :: x3 :: x4 :: x :: L) x y (x0 :: x1 :: x2 :: x3 :: x4 :: y :: L) := .s (.s (.s (.s (.s .z))))
theorem u6 {X : Type _} {x0 x1 x2 x3 x4 x5 x y : X} {L : List X} : Upd (x0 :: x1 :: x2 :: x3 :: x4 :: x5 :: x :: L) x y (x0 :: x1 :: x2 :: x3 :: x4 :: x5 :: y :: L) := .s (.s (.s (.s (.s (.s .z)))))
theorem u7 {X : Type _} {x0 x1 x2 x3 x4 x5 x6 x y : X} {L : List X} : Upd (x0 :: x1 :: x2 :: x3 :: x4 :: x5 :: x6 :: x :: L) x y (x0 :: x1 :: x2 :: x3 :: x4 :: x5 :: x6 :: y :: L) := .s (.s (.s (.s (.s (.s (.s .z))))))
theorem u8 {X : Type _} {x0 x1 x2 x3 x4 x5 x6 x7 x y : X} {L : List X} : Upd (x0 :: x1 :: x2 :: x3 :: x4 :: x5 :: x6 :: x7 :: x :: L) x y (x0 :: x1 :: x2 :: x3 :: x4 :: x5 :: x6 :: x7 :: y :: L) := .s (.s (.s (.s (.s (.s (.s (.s .z)))))))
theorem u9 {X : Type _} {x0 x1 x2 x3 x4 x5 x6 x7 x8 x y : X} {L : List X} : Upd (x0 :: x1 :: x2 :: x3 :: x4 :: x5 :: x6 :: x7 :: x8 :: x :: L) x y (x0 :: x1 :: x2 :: x3 :: x4 :: x5 :: x6 :: x7 :: x8 :: y :: L) := .s (.s (.s (.s (.s (.s (.s (.s (.s .z))))))))
theorem u10 {X : Type _} {x0 x1 x2 x3 x4 x5 x6 x7 x8 x9 x y : X} {L : List X} : Upd (x0 :: x1 :: x2 :: x3 :: x4 :: x5 :: x6 :: x7 :: x8 :: x9 :: x :: L) x y (x0 :: x1 :: x2 :: x3 :: x4 :: x5 :: x6 :: x7 :: x8 :: x9 :: y :: L) := .s (.s (.s (.s (.s (.s (.s (.s (.s (.s .z)))))))))
theorem u11 {X : Type _} {x0 x1 x2 x3 x4 x5 x6 x7 x8 x9 x10 x y : X} {L : List X} : Upd (x0 :: x1 :: x2 :: x3 :: x4 :: x5 :: x6 :: x7 :: x8 :: x9 :: x10 :: x :: L) x y (x0 :: x1 :: x2 :: x3 :: x4 :: x5 :: x6 :: x7 :: x8 :: x9 :: x10 :: y :: L) := .s (.s (.s (.s (.s (.s (.s (.s (.s (.s (.s .z))))))))))
theorem u12 {X : Type _} {x0 x1 x2 x3 x4 x5 x6 x7 x8 x9 x10 x11 x y : X} {L : List X} : Upd (x0 :: x1 :: x2 :: x3 :: x4 :: x5 :: x6 :: x7 :: x8 :: x9 :: x10 :: x11 :: x :: L) x y (x0 :: x1 :: x2 :: x3 :: x4 :: x5 :: x6 :: x7 :: x8 :: x9 :: x10 :: x11 :: y :: L) := .s (.s (.s (.s (.s (.s (.s (.s (.s (.s (.s (.s .z)))))))))))
theorem u13 {X : Type _} {x0 x1 x2 x3 x4 x5 x6 x7 x8 x9 x10 x11 x12 x y : X} {L : List X} : Upd (x0 :: x1 :: x2 :: x3 :: x4 :: x5 :: x6 :: x7 :: x8 :: x9 :: x10 :: x11 :: x12 :: x :: L) x y (x0 :: x1 :: x2 :: x3 :: x4 :: x5 :: x6 :: x7 :: x8 :: x9 :: x10 :: x11 :: x12 :: y :: L) := .s (.s (.s (.s (.s (.s (.s (.s (.s (.s (.s (.s (.s .z))))))))))))
theorem u14 {X : Type _} {x0 x1 x2 x3 x4 x5 x6 x7 x8 x9 x10 x11 x12 x13 x y : X} {L : List X} : Upd (x0 :: x1 :: x2 :: x3 :: x4 :: x5 :: x6 :: x7 :: x8 :: x9 :: x10 :: x11 :: x12 :: x13 :: x :: L) x y (x0 :: x1 :: x2 :: x3 :: x4 :: x5 :: x6 :: x7 :: x8 :: x9 :: x10 :: x11 :: x12 :: x13 :: y :: L) := .s (.s (.s (.s (.s (.s (.s (.s (.s (.s (.s (.s (.s (.s .z)))))))))))))
theorem u15 {X : Type _} {x0 x1 x2 x3 x4 x5 x6 x7 x8 x9 x10 x11 x12 x13 x14 x y : X} {L : List X} : Upd (x0 :: x1 :: x2 :: x3 :: x4 :: x5 :: x6 :: x7 :: x8 :: x9 :: x10 :: x11 :: x12 :: x13 :: x14 :: x :: L) x y (x0 :: x1 :: x2 :: x3 :: x4 :: x5 :: x6 :: x7 :: x8 :: x9 :: x10 :: x11 :: x12 :: x13 :: x14 :: y :: L) := .s (.s (.s (.s (.s (.s (.s (.s (.s (.s (.s (.s (.s (.s (.s .z))))))))))))))
theorem u16 {X : Type _} {x0 x1 x2 x3 x4 x5 x6 x7 x8 x9 x10 x11 x12 x13 x14 x15 x y : X} {L : List X} : Upd (x0 :: x1 :: x2 :: x3 :: x4 :: x5 :: x6 :: x7 :: x8 :: x9 :: x10 :: x11 :: x12 :: x13 :: x14 :: x15 :: x :: L) x y (x0 :: x1 :: x2 :: x3 :: x4 :: x5 :: x6 :: x7 :: x8 :: x9 :: x10 :: x11 :: x12 :: x13 :: x14 :: x15 :: y :: L) := .s (.s (.s (.s (.s (.s (.s (.s (.s (.s (.s (.s (.s (.s (.s (.s .z)))))))))))))))
theorem u17 {X : Type _} {x0 x1 x2 x3 x4 x5 x6 x7 x8 x9 x10 x11 x12 x13 x14 x15 x16 x y : X} {L : List X} : Upd (x0 :: x1 :: x2 :: x3 :: x4 :: x5 :: x6 :: x7 :: x8 :: x9 :: x10 :: x11 :: x12 :: x13 :: x14 :: x15 :: x16 :: x :: L) x y (x0 :: x1 :: x2 :: x3 :: x4 :: x5 :: x6 :: x7 :: x8 :: x9 :: x10 :: x11 :: x12 :: x13 :: x14 :: x15 :: x16 :: y :: L) := .s (.s (.s (.s (.s (.s (.s (.s (.s (.s (.s (.s (.s (.s (.s (.s (.s .z))))))))))))))))
theorem u18 {X : Type _} {x0 x1 x2 x3 x4 x5 x6 x7 x8 x9 x10 x11 x12 x13 x14 x15 x16 x17 x y : X} {L : List X} : Upd (x0 :: x1 :: x2 :: x3 :: x4 :: x5 :: x6 :: x7 :: x8 :: x9 :: x10 :: x11 :: x12 :: x13 :: x14 :: x15 :: x16 :: x17 :: x :: L) x y (x0 :: x1 :: x2 :: x3 :: x4 :: x5 :: x6 :: x7 :: x8 :: x9 :: x10 :: x11 :: x12 :: x13 :: x14 :: x15 :: x16 :: x17 :: y :: L) := .s (.s (.s (.s (.s (.s (.s (.s (.s (.s (.s (.s (.s (.s (.s (.s (.s (.s .z)))))))))))))))))
theorem u19 {X : Type _} {x0 x1 x2 x3 x4 x5 x6 x7 x8 x9 x10 x11 x12 x13 x14 x15 x16 x17 x18 x y : X} {L : List X} : Upd (x0 :: x1 :: x2 :: x3 :: x4 :: x5 :: x6 :: x7 :: x8 :: x9 :: x10 :: x11 :: x12 :: x13 :: x14 :: x15 :: x16 :: x17 :: x18 :: x :: L) x y (x0 :: x1 :: x2 :: x3 :: x4 :: x5 :: x6 :: x7 :: x8 :: x9 :: x10 :: x11 :: x12 :: x13 :: x14 :: x15 :: x16 :: x17 :: x18 :: y :: L) := .s (.s (.s (.s (.s (.s (.s (.s (.s (.s (.s (.s (.s (.s (.s (.s (.s (.s (.s .z))))))))))))))))))
theorem u20 {X : Type _} {x0 x1 x2 x3 x4 x5 x6 x7 x8 x9 x10 x11 x12 x13 x14 x15 x16 x17 x18 x19 x y : X} {L : List X} : Upd (x0 :: x1 :: x2 :: x3 :: x4 :: x5 :: x6 :: x7 :: x8 :: x9 :: x10 :: x11 :: x12 :: x13 :: x14 :: x15 :: x16 :: x17 :: x18 :: x19 :: x :: L) x y (x0 :: x1 :: x2 :: x3 :: x4 :: x5 :: x6 :: x7 :: x8 :: x9 :: x10 :: x11 :: x12 :: x13 :: x14 :: x15 :: x16 :: x17 :: x18 :: x19 :: y :: L) := .s (.s (.s (.s (.s (.s (.s (.s (.s (.s (.s (.s (.s (.s (.s (.s (.s (.s (.s (.s .z)))))))))))))))))))
theorem u21 {X : Type _} {x0 x1 x2 x3 x4 x5 x6 x7 x8 x9 x10 x11 x12 x13 x14 x15 x16 x17 x18 x19 x20 x y : X} {L : List X} : Upd (x0 :: x1 :: x2 :: x3 :: x4 :: x5 :: x6 :: x7 :: x8 :: x9 :: x10 :: x11 :: x12 :: x13 :: x14 :: x15 :: x16 :: x17 :: x18 :: x19 :: x20 :: x :: L) x y (x0 :: x1 :: x2 :: x3 :: x4 :: x5 :: x6 :: x7 :: x8 :: x9 :: x10 :: x11 :: x12 :: x13 :: x14 :: x15 :: x16 :: x17 :: x18 :: x19 :: x20 :: y :: L) := .s (.s (.s (.s (.s (.s (.s (.s (.s (.s (.s (.s (.s (.s (.s (.s (.s (.s (.s (.s (.s .z))))))))))))))))))))
theorem u22 {X : Type _} {x0 x1 x2 x3 x4 x5 x6 x7 x8 x9 x10 x11 x12 x13 x14 x15 x16 x17 x18 x19 x20 x21 x y : X} {L : List X} : Upd (x0 :: x1 :: x2 :: x3 :: x4 :: x5 :: x6 :: x7 :: x8 :: x9 :: x10 :: x11 :: x12 :: x13 :: x14 :: x15 :: x16 :: x17 :: x18 :: x19 :: x20 :: x21 :: x :: L) x y (x0 :: x1 :: x2 :: x3 :: x4 :: x5 :: x6 :: x7 :: x8 :: x9 :: x10 :: x11 :: x12 :: x13 :: x14 :: x15 :: x16 :: x17 :: x18 :: x19 :: x20 :: x21 :: y :: L) := .s (.s (.s (.s (.s (.s (.s (.s (.s (.s (.s (.s (.s (.s (.s (.s (.s (.s (.s (.s (.s (.s .z)))))))))))))))))))))
theorem u23 {X : Type _} {x0 x1 x2 x3 x4 x5 x6 x7 x8 x9 x10 x11 x12 x13 x14 x15 x16 x17 x18 x19 x20 x21 x22 x y : X} {L : List X} : Upd (x0 :: x1 :: x2 :: x3 :: x4 :: x5 :: x6 :: x7 :: x8 :: x9 :: x10 :: x11 :: x12 :: x13 :: x14 :: x15 :: x16 :: x17 :: x18 :: x19 :: x20 :: x21 :: x22 :: x :: L) x y (x0 :: x1 :: x2 :: x3 :: x4 :: x5 :: x6 :: x7 :: x8 :: x9 :: x10 :: x11 :: x12 :: x13 :: x14 :: x15 :: x16 :: x17 :: x18 :: x19 :: x20 :: x21 :: x22 :: y :: L) := .s (.s (.s (.s (.s (.s (.s (.s (.s (.s (.s (.s (.s (.s (.s (.s (.s (.s (.s (.s (.s (.s (.s .z))))))))))))))))))))))

/-! ### The frame: what its slots hold -/
def lk : List (Nat × Value) → Nat → Option Value
  | [], _ => none
  | (j, v) :: l, i => bif Nat.beq j i then some v else lk l i
structure Env (n : Nat) (a : Act) (l : List (Nat × Value)) : Prop where
  size : a.tmps.size = n
  defers : a.defers = []
  get : ∀ i v, lk l i = some v → a.tmps[i]? = some v
/-- What an operand is. -/
def opv (l : List (Nat × Value)) : Operand → Option Value
  | .tmp i => lk l i
  | .const v => some v
  | .func f => some (.func (.func f) #[] #[])
  | .global g => some (.pointer (some ⟨g, 0, none⟩))
theorem Env.eval {n : Nat} {a : Act} {l : List (Nat × Value)} (E : Env n a l) {x : Operand} {v : Value} (h : opv l x = some v) : a.eval x = v := by
  cases x with
  | tmp i =>
    have := E.get i v h
    simp [Act.eval, this]
  | const u => simpa [Act.eval, opv] using h
  | func f => simpa [Act.eval, opv] using h
  | global g => simpa [Act.eval, opv] using h
theorem Env.put {n : Nat} {a : Act} {l : List (Nat × Value)} (E : Env n a l) {d : Nat} (hd : Nat.blt d n = true) (v : Value) : Env n (a.put (some d) v) ((d, v) :: l) := by
  have hdn : d < n := by simpa [Nat.blt_eq] using hd
  refine ⟨by simp [Act.put, E.size], E.defers, fun i u h => ?_⟩
  simp only [lk] at h
  by_cases e : d = i
  · subst e
    have : Nat.beq d d = true := by simp
    rw [this] at h
    obtain rfl : v = u := by simpa using h
    simp [Act.put, E.size, hdn]
  · have : Nat.beq d i = false := by
      cases hb : Nat.beq d i with
      | false => rfl
      | true => exact absurd (Nat.eq_of_beq_eq_true hb) e
    rw [this] at h
    have := E.get i u (by simpa using h)
    simp [Act.put, Array.getElem?_setIfInBounds_ne e, this]
theorem Env.none {n : Nat} {a : Act} {l : List (Nat × Value)} (E : Env n a l) (v : Value) : Env n (a.put none v) l := E
/-- Slots that are no longer wanted, or in another order. -/
theorem Env.sub {n : Nat} {a : Act} {l l' : List (Nat × Value)} (E : Env n a l) (h : ∀ p, p ∈ l' → lk l p.1 = some p.2) : Env n a l' := by
  refine ⟨E.size, E.defers, fun i v hv => E.get i v ?_⟩
  induction l' with
  | nil => simp [lk] at hv
  | cons p r ih =>
    obtain ⟨j, u⟩ := p
    simp only [lk] at hv
    cases hb : Nat.beq j i with
    | true =>
      rw [hb] at hv
      obtain rfl : u = v := by simpa using hv
      obtain rfl := Nat.eq_of_beq_eq_true hb
      exact h (j, u) (by simp)
    | false =>
      rw [hb] at hv
      exact ih (fun p hp => h p (by simp [hp])) (by simpa using hv)

end Go.Gx

/- One lemma an operation: what it answers, and what it does to the state of a walk. -/
namespace Go.Gx
open Go.RowKit

/-- What is known of a type: its zero value, its cells, its bytes. -/
abbrev TI (P : Program) (T : TypeId) (z : Value) (n b : Nat) : Prop := (P.info? T).map (fun i => (i.zero, i.size, i.bytes)) = some (some z, n, b)
def aggD : TypeDesc → Bool
  | .struct _ | .array _ _ => true
  | _ => false
section
variable {P : Program} {T : TypeId} {z : Value} {n b : Nat}
theorem TI.out (h : TI P T z n b) : ∃ i, P.info? T = some i ∧ i.zero = some z ∧ i.size = n ∧ i.bytes = b := by
  cases hq : P.info? T with
  | none => simp [TI, hq] at h
  | some i => simp [TI, hq] at h; exact ⟨i, rfl, h.1, h.2.1, h.2.2⟩
theorem TI.sizeOf (h : TI P T z n b) (w : World) : (sizeOf T).run P w = .ok n w := by
  obtain ⟨i, hi, _, hn, _⟩ := h.out
  simp [Go.sizeOf, typeInfo, hi, hn]
theorem TI.zeroValue (h : TI P T z n b) (w : World) : (zeroValue T).run P w = .ok z w := by
  obtain ⟨i, hi, hz, _⟩ := h.out
  simp [Go.zeroValue, typeInfo, hi, hz]
theorem run_isAgg {d : TypeDesc} (hu : P.underlying T = some d) (w : World) : (isAgg T).run P w = .ok (aggD d) w := by
  unfold isAgg
  rw [Sem.run_bind, run_underlying hu w]
  cases d <;> rfl
end

section
variable {P : Program} {ops : Array Oper} {rest : List Oper} {Q : Exit → Act → World → Prop} {κ : Act → World → Prop} {a : Act} {w w0 w' : World} {n : Nat} {l : List (Nat × Value)} {M Y : FP} {A : List VP} {L L' : List (List SP)}
  {d : Nat} {op : Op} {ty : TypeId} {pos : String} {af : Array Edge} {gd : Option (Nat × Bool)} {v : Value}

/-- One operation of a region, and what follows. -/
def Step (P : Program) (ops : Array Oper) (Q : Exit → Act → World → Prop) (o : Oper) (K : Act → World → Prop) (a : Act) (w : World) : Prop :=
  if Region.wanted o (yielded ops a.tmps) then o.wp P a w K Q ∨ (o.asks P a w ∧ LetsOut Q) else K (a.put o.dst undef) w
theorem wl_cons {o : Oper} (h : Step P ops Q o (wpList P ops Q rest) a w) : wpList P ops Q (o :: rest) a w := by
  unfold wpList
  exact h
/-- An operation that is carried out. -/
abbrev Wanted (ops : Array Oper) (a : Act) (o : Oper) : Prop := Region.wanted o (yielded ops a.tmps) = true
theorem Env.wanted (E : Env n a l) {j t : Nat} {b : Bool} {o : Oper} (ho : o.guard = some (j, b)) (hj : (ops[j]?).bind (·.dst) = some t) (ht : lk l t = some (.bool b)) : Wanted ops a o := by
  simp [Wanted, Region.wanted, ho, yielded, hj, E.get t _ ht]
theorem Env.wantedB (E : Env n a l) {j t : Nat} {b c : Bool} {o : Oper} (ho : o.guard = some (j, b)) (hj : (ops[j]?).bind (·.dst) = some t) (ht : lk l t = some (.bool c)) (hc : c = b) : Wanted ops a o := by
  subst hc
  exact E.wanted ho hj ht
theorem Env.unwanted (E : Env n a l) {j t : Nat} {b c : Bool} {o : Oper} (ho : o.guard = some (j, b)) (hj : (ops[j]?).bind (·.dst) = some t) (ht : lk l t = some (.bool c)) (hc : c = !b) : Region.wanted o (yielded ops a.tmps) = false := by
  subst hc
  simp [Region.wanted, ho, yielded, hj, E.get t _ ht]

theorem wl_val (E : Env n a l) (hw : Wanted ops a ⟨some d, op, ty, pos, af, gd⟩) (hr : (execOp a.eval ⟨some d, op, ty, pos, af, gd⟩).run P w = .ok (.value v) w') (hd : Nat.blt d n = true)
    (h : ∀ a', Env n a' ((d, v) :: l) → κ a' w') : Step P ops Q ⟨some d, op, ty, pos, af, gd⟩ κ a w := by
  unfold Step
  rw [if_pos hw]
  refine .inl ?_
  unfold Oper.wp
  rw [hr]
  exact h _ (E.put hd v)
theorem wl_unit (E : Env n a l) (hw : Wanted ops a ⟨none, op, ty, pos, af, gd⟩) (hr : (execOp a.eval ⟨none, op, ty, pos, af, gd⟩).run P w = .ok .skip w')
    (h : ∀ a', Env n a' l → κ a' w') : Step P ops Q ⟨none, op, ty, pos, af, gd⟩ κ a w := by
  unfold Step
  rw [if_pos hw]
  refine .inl ?_
  unfold Oper.wp
  rw [hr]
  exact h _ (E.none _)
/-- A guarded operation that is passed over. -/
theorem wl_pass (E : Env n a l) (hw : Region.wanted ⟨some d, op, ty, pos, af, gd⟩ (yielded ops a.tmps) = false) (hd : Nat.blt d n = true) (h : ∀ a', Env n a' ((d, undef) :: l) → κ a' w) :
    Step P ops Q ⟨some d, op, ty, pos, af, gd⟩ κ a w := by
  unfold Step
  rw [if_neg (by rw [hw]; simp)]
  exact h _ (E.put hd undef)
theorem wl_pass0 (E : Env n a l) (hw : Region.wanted ⟨none, op, ty, pos, af, gd⟩ (yielded ops a.tmps) = false) (h : ∀ a', Env n a' l → κ a' w) :
    Step P ops Q ⟨none, op, ty, pos, af, gd⟩ κ a w := by
  unfold Step
  rw [if_neg (by rw [hw]; simp)]
  exact h _ (E.none undef)
theorem Env.unwanted0 (E : Env n a l) {j t : Nat} {b : Bool} {o : Oper} (ho : o.guard = some (j, b)) (hj : (ops[j]?).bind (·.dst) = some t) (ht : lk l t = some undef) : Region.wanted o (yielded ops a.tmps) = false := by
  simp [Region.wanted, ho, yielded, hj, E.get t _ ht, undef]
theorem wl_nil (h : Q .normal a w) : wpList P ops Q [] a w := h

/-- A call: the callee's contract. -/
theorem wl_call {f : FuncId} {args : Array Value} {Φ : Value → World → Prop} (E : Env n a l) (hw : Wanted ops a ⟨some d, op, ty, pos, af, gd⟩) (hr : (execOp a.eval ⟨some d, op, ty, pos, af, gd⟩).run P w = .ok (.enter f args) w') (hd : Nat.blt d n = true)
    (hc : Calls P f args w' fun e w2 => ∃ v, e = .returned v ∧ Φ v w2)
    (h : ∀ v w2, Φ v w2 → ∀ a', Env n a' ((d, v) :: l) → κ a' w2) : Step P ops Q ⟨some d, op, ty, pos, af, gd⟩ κ a w := by
  unfold Step
  rw [if_pos hw]
  refine .inl ?_
  unfold Oper.wp
  rw [hr, Oper.upon_enter]
  refine hc.mono fun e w2 ⟨v, he, hv⟩ => ?_
  subst he
  exact h v w2 hv _ (E.put hd v)
theorem run_enter {f : FuncId} {fn : Func} {c : Code} (hf : P.funcs[f]? = some fn) (hname : (fn.name == "runtime.NumGoroutine") = false) (hb : fn.body = some c) (args : Array Value) (w : World) :
    (callFunc f args).run P w = .ok (.enter f args) w := by
  have hn : ¬ fn.name = "runtime.NumGoroutine" := by simpa using hname
  simp [callFunc, hf, hn, hb]
theorem evals (E : Env n a l) : ∀ (ys : List Operand) (zs : List Value), ys.map (opv l) = zs.map some → ys.map a.eval = zs
  | [], [], _ => rfl
  | [], _ :: _, h => by simp at h
  | _ :: _, [], h => by simp at h
  | y :: ys, z :: zs, h => by
    simp only [List.map_cons, List.cons.injEq] at h
    rw [List.map_cons, E.eval h.1, evals E ys zs h.2]
theorem evalsA (E : Env n a l) {xs : Array Operand} {args : List Value} (h : xs.toList.map (opv l) = args.map some) : xs.map a.eval = args.toArray := by
  apply Array.ext'
  rw [Array.toList_map]
  exact evals E _ _ h
theorem rn_call {o : Oper} {f : FuncId} {fn : Func} {c : Code} {x : Operand} {xs : Array Operand} {ts : Array TypeId} {args : List Value} (E : Env n a l) (ho : o.op = .call ⟨.value x, xs, ts⟩) (hx : opv l x = some (.func (.func f) #[] #[]))
    (hxs : xs.toList.map (opv l) = args.map some) (hf : P.funcs[f]? = some fn) (hname : (fn.name == "runtime.NumGoroutine") = false) (hb : fn.body = some c) :
    (execOp a.eval o).run P w = .ok (.enter f args.toArray) w := by
  simp [execOp, ho, resolve, evalsA E hxs, E.eval hx, Deferred.ofValue, invoke, run_enter hf hname hb]
theorem rn_callC {o : Oper} {f : FuncId} {fn : Func} {c : Code} {x : Operand} {xs : Array Operand} {ts : Array TypeId} {args cap all : List Value} (E : Env n a l) (ho : o.op = .call ⟨.value x, xs, ts⟩) (hx : opv l x = some (.func (.func f) #[] cap.toArray))
    (hxs : xs.toList.map (opv l) = args.map some) (hf : P.funcs[f]? = some fn) (hname : (fn.name == "runtime.NumGoroutine") = false) (hb : fn.body = some c) (hall : args ++ cap = all) :
    (execOp a.eval o).run P w = .ok (.enter f all.toArray) w := by
  subst hall
  simp [execOp, ho, resolve, evalsA E hxs, E.eval hx, Deferred.ofValue, invoke, run_enter hf hname hb]
/-- A call that is walked into. -/
theorem wl_in {f : FuncId} {fn : Func} {c : Code} {args : List Value} (hw : Wanted ops a ⟨some d, op, ty, pos, af, gd⟩) (hr : (execOp a.eval ⟨some d, op, ty, pos, af, gd⟩).run P w = .ok (.enter f args.toArray) w)
    (hf : P.funcs[f]? = some fn) (hb : fn.body = some c) (h : ∀ a2, a2 = ({ tmps := args.toArray ++ Array.replicate (fn.ntmps - args.toArray.size) undef, defers := [] } : Act) → c.wp P (bodyPost P fn fun e w2 => ∃ v, e = .returned v ∧ κ (a.put (some d) v) w2) a2 w) :
    Step P ops Q ⟨some d, op, ty, pos, af, gd⟩ κ a w := by
  unfold Step
  rw [if_pos hw]
  refine .inl ?_
  unfold Oper.wp
  rw [hr, Oper.upon_enter]
  refine (calls_of_wp hf hb (h _ rfl) : Calls P f args.toArray w _).mono fun e w2 ⟨v, he, hv⟩ => ?_
  subst he
  exact hv

/-! ### Copies, choices, arithmetic -/
theorem rn_move {o : Oper} {x : Operand} (E : Env n a l) (ho : o.op = .move x) (hx : opv l x = some v) : (execOp a.eval o).run P w = .ok (.value v) w := by
  simp [execOp, ho, E.eval hx]
theorem rn_assign {o : Oper} {x : Operand} (E : Env n a l) (ho : o.op = .assign x) (hx : opv l x = some v) : (execOp a.eval o).run P w = .ok (.value v) w := by
  simp [execOp, ho, E.eval hx]
theorem rn_pick_true {o : Oper} {c x y : Operand} (E : Env n a l) (ho : o.op = .pick c x y) (hc : opv l c = some (.bool true)) (hx : opv l x = some v) : (execOp a.eval o).run P w = .ok (.value v) w := by
  simp [execOp, ho, E.eval hc, E.eval hx, asBool]
theorem rn_pick_false {o : Oper} {c x y : Operand} (E : Env n a l) (ho : o.op = .pick c x y) (hc : opv l c = some (.bool false)) (hx : opv l y = some v) : (execOp a.eval o).run P w = .ok (.value v) w := by
  simp [execOp, ho, E.eval hc, E.eval hx, asBool]
theorem rn_pickT {o : Oper} {c x y : Operand} {b : Bool} (E : Env n a l) (ho : o.op = .pick c x y) (hc : opv l c = some (.bool b)) (hb : b = true) (hx : opv l x = some v) : (execOp a.eval o).run P w = .ok (.value v) w := by
  subst hb; exact rn_pick_true E ho hc hx
theorem rn_pickF {o : Oper} {c x y : Operand} {b : Bool} (E : Env n a l) (ho : o.op = .pick c x y) (hc : opv l c = some (.bool b)) (hb : b = false) (hx : opv l y = some v) : (execOp a.eval o).run P w = .ok (.value v) w := by
  subst hb; exact rn_pick_false E ho hc hx
theorem rn_extract {o : Oper} {x : Operand} {i : Nat} {vs : Array Value} (E : Env n a l) (ho : o.op = .extract x i) (hx : opv l x = some (.tuple vs)) (hi : vs.toList[i]? = some v) : (execOp a.eval o).run P w = .ok (.value v) w := by
  have hi' : vs[i]? = some v := by simpa using hi
  simp [execOp, ho, E.eval hx, Instr.extract, hi']
theorem rn_makeFunc {o : Oper} {fn : Fn} {xs : Array Operand} {vs : List Value} (E : Env n a l) (ho : o.op = .makeFunc fn #[] xs) (hxs : xs.toList.map (opv l) = vs.map some) :
    (execOp a.eval o).run P w = .ok (.value (.func fn #[] vs.toArray)) w := by
  simp [execOp, ho, evalsA E hxs, Instr.makeFunc]
theorem rn_nilCheck {o : Oper} {x : Operand} {p : Addr} (E : Env n a l) (ho : o.op = .nilCheck x) (hx : opv l x = some (.pointer (some p))) : (execOp a.eval o).run P w = .ok (.value (.pointer (some p))) w := by
  simp [execOp, ho, E.eval hx]

/-- The answer of an operator on whole numbers. -/
def intB (op : BinOp) (k : IntKind) (x y : Int) : Option Value :=
  match op with
  | .add => some (.int k (k.wrap (x + y)))
  | .sub => some (.int k (k.wrap (x - y)))
  | .mul => some (.int k (k.wrap (x * y)))
  | .eql => some (.bool (x == y))
  | .neq => some (.bool (x != y))
  | .lss => some (.bool (decide (x < y)))
  | .leq => some (.bool (decide (x ≤ y)))
  | .gtr => some (.bool (decide (x > y)))
  | .geq => some (.bool (decide (x ≥ y)))
  | .and => some (.int k (k.wrap ((BitVec.ofInt k.bits x &&& BitVec.ofInt k.bits y).toNat : Int)))
  | .or => some (.int k (k.wrap ((BitVec.ofInt k.bits x ||| BitVec.ofInt k.bits y).toNat : Int)))
  | .xor => some (.int k (k.wrap ((BitVec.ofInt k.bits x ^^^ BitVec.ofInt k.bits y).toNat : Int)))
  | .andNot => some (.int k (k.wrap ((BitVec.ofInt k.bits x &&& ~~~ BitVec.ofInt k.bits y).toNat : Int)))
  | _ => none
theorem eqGuard_int {op : BinOp} {t : TypeId} {x y : Operand} {k k' : IntKind} {i j : Int} : (eqGuard op t x y (.int k i) (.int k' j)).run P w = .ok () w := by
  cases op <;> simp [eqGuard]
theorem rn_int {o : Oper} {op : BinOp} {tx ty' : TypeId} {x y : Operand} {k : IntKind} {i j : Int} (E : Env n a l) (ho : o.op = .binOp op tx x y ty') (hx : opv l x = some (.int k i)) (hy : opv l y = some (.int k j)) (h : intB op k i j = some v) :
    (execOp a.eval o).run P w = .ok (.value v) w := by
  simp only [execOp, ho, E.eval hx, E.eval hy, Sem.run_bind, eqGuard_int, Result.andThen_ok]
  cases op <;> simp [intB] at h <;> subst h <;> simp [binOp, Op.intArith, Op.intCmp, Op.intBits]
theorem rn_quo {o : Oper} {tx ty' : TypeId} {x y : Operand} {k : IntKind} {i j : Int} (E : Env n a l) (ho : o.op = .binOp .quo tx x y ty') (hx : opv l x = some (.int k i)) (hy : opv l y = some (.int k j)) (h : j ≠ 0) :
    (execOp a.eval o).run P w = .ok (.value (.int k (k.wrap (i.tdiv j)))) w := by
  simp [execOp, ho, E.eval hx, E.eval hy, eqGuard_int, binOp, Op.intDiv, h]
theorem rn_rem {o : Oper} {tx ty' : TypeId} {x y : Operand} {k : IntKind} {i j : Int} (E : Env n a l) (ho : o.op = .binOp .rem tx x y ty') (hx : opv l x = some (.int k i)) (hy : opv l y = some (.int k j)) (h : j ≠ 0) :
    (execOp a.eval o).run P w = .ok (.value (.int k (i.tmod j))) w := by
  simp [execOp, ho, E.eval hx, E.eval hy, eqGuard_int, binOp, Op.intDiv, h]
theorem rn_shl {o : Oper} {tx ty' : TypeId} {x y : Operand} {k k' : IntKind} {i j : Int} (E : Env n a l) (ho : o.op = .binOp .shl tx x y ty') (hx : opv l x = some (.int k i)) (hy : opv l y = some (.int k' j)) (h : 0 ≤ j) :
    (execOp a.eval o).run P w = .ok (.value (.int k (k.wrap (i * 2 ^ (min j.toNat k.bits))))) w := by
  have : ¬ j < 0 := by omega
  simp [execOp, ho, E.eval hx, E.eval hy, eqGuard_int, binOp, Op.shift, this]
theorem rn_shr {o : Oper} {tx ty' : TypeId} {x y : Operand} {k k' : IntKind} {i j : Int} (E : Env n a l) (ho : o.op = .binOp .shr tx x y ty') (hx : opv l x = some (.int k i)) (hy : opv l y = some (.int k' j)) (h : 0 ≤ j) :
    (execOp a.eval o).run P w = .ok (.value (.int k (i.fdiv (2 ^ (min j.toNat k.bits))))) w := by
  have : ¬ j < 0 := by omega
  simp [execOp, ho, E.eval hx, E.eval hy, eqGuard_int, binOp, Op.shift, this]
/-- The answer of an operator on texts. -/
def strB (op : BinOp) (x y : ByteArray) : Option Value :=
  match op with
  | .eql => some (.bool (x.toList == y.toList))
  | .neq => some (.bool (!(x.toList == y.toList)))
  | .lss => some (.bool (Op.bytesLess x.toList y.toList))
  | .leq => some (.bool (Op.bytesLess x.toList y.toList || x.toList == y.toList))
  | .gtr => some (.bool (!(Op.bytesLess x.toList y.toList || x.toList == y.toList)))
  | .geq => some (.bool (!Op.bytesLess x.toList y.toList))
  | _ => none
theorem eqGuard_str {op : BinOp} {t : TypeId} {x y : Operand} {i j : ByteArray} : (eqGuard op t x y (.string i) (.string j)).run P w = .ok () w := by
  cases op <;> simp [eqGuard]
theorem rn_str {o : Oper} {op : BinOp} {tx ty' : TypeId} {x y : Operand} {i j : ByteArray} (E : Env n a l) (ho : o.op = .binOp op tx x y ty') (hx : opv l x = some (.string i)) (hy : opv l y = some (.string j)) (h : strB op i j = some v) :
    (execOp a.eval o).run P w = .ok (.value v) w := by
  simp only [execOp, ho, E.eval hx, E.eval hy, Sem.run_bind, eqGuard_str, Result.andThen_ok]
  cases op <;> simp [strB] at h <;> subst h <;> simp [binOp, Op.stringOp]
/-- Texts together: the bound is the print's own; a longer text ends the plain function with none. -/
def maxStr : Nat := 9223372036854775807
theorem rn_cat {o : Oper} {tx ty' : TypeId} {x y : Operand} {i j : ByteArray} (E : Env n a l) (ho : o.op = .binOp .add tx x y ty') (hx : opv l x = some (.string i)) (hy : opv l y = some (.string j)) (h : i.size + j.size ≤ maxStr) :
    (execOp a.eval o).run P w = .ok (.value (.string (i ++ j))) w := by
  have e : IntKind.i64.max = 9223372036854775807 := by decide
  have h' : ¬ ((i.size : Int) + (j.size : Int) > 9223372036854775807) := by unfold maxStr at h; omega
  have h2 : ¬ (9223372036854775807 < (i.size : Int) + (j.size : Int)) := h'
  simp [execOp, ho, E.eval hx, E.eval hy, eqGuard_str, binOp, Op.stringOp, e, h2]
theorem eqGuard_bool {op : BinOp} {t : TypeId} {x y : Operand} {i j : Bool} : (eqGuard op t x y (.bool i) (.bool j)).run P w = .ok () w := by
  cases op <;> simp [eqGuard]
theorem equal_bool {t : TypeId} (hu : P.underlying t = some .bool) (i j : Bool) : (Op.equal t (.bool i) (.bool j)).run P w = .ok (i == j) w := by
  show (Op.equalIn (9999 + 1) t (.bool i) (.bool j)).run P w = _
  rw [Op.equalIn, Sem.run_bind, run_underlying hu]
  rfl
theorem rn_booleq {o : Oper} {tx ty' : TypeId} {x y : Operand} {i j : Bool} (E : Env n a l) (ho : o.op = .binOp .eql tx x y ty') (hu : P.underlying tx = some .bool) (hx : opv l x = some (.bool i)) (hy : opv l y = some (.bool j)) :
    (execOp a.eval o).run P w = .ok (.value (.bool (i == j))) w := by
  simp [execOp, ho, E.eval hx, E.eval hy, eqGuard_bool, binOp, equal_bool hu]
theorem rn_boolne {o : Oper} {tx ty' : TypeId} {x y : Operand} {i j : Bool} (E : Env n a l) (ho : o.op = .binOp .neq tx x y ty') (hu : P.underlying tx = some .bool) (hx : opv l x = some (.bool i)) (hy : opv l y = some (.bool j)) :
    (execOp a.eval o).run P w = .ok (.value (.bool (i != j))) w := by
  simp [execOp, ho, E.eval hx, E.eval hy, eqGuard_bool, binOp, equal_bool hu, bne]
theorem rn_not {o : Oper} {tx : TypeId} {x : Operand} {b : Bool} (E : Env n a l) (ho : o.op = .unOp .not tx x) (hx : opv l x = some (.bool b)) : (execOp a.eval o).run P w = .ok (.value (.bool (!b))) w := by
  simp [execOp, ho, E.eval hx, Op.unary]
theorem rn_neg {o : Oper} {tx : TypeId} {x : Operand} {k : IntKind} {i : Int} (E : Env n a l) (ho : o.op = .unOp .neg tx x) (hx : opv l x = some (.int k i)) : (execOp a.eval o).run P w = .ok (.value (.int k (k.wrap (0 - i)))) w := by
  simp [execOp, ho, E.eval hx, Op.unary, Op.intArith]
theorem rn_convInt {o : Oper} {src dst : TypeId} {x : Operand} {k k' : IntKind} {i : Int} {ds : TypeDesc} (E : Env n a l) (ho : o.op = .convert src dst x) (hs : P.underlying src = some ds) (hd : P.underlying dst = some (.int k')) (hx : opv l x = some (.int k i)) :
    (execOp a.eval o).run P w = .ok (.value (.int k' (k'.wrap i))) w := by
  simp [execOp, ho, E.eval hx, convert, run_underlying hs, run_underlying hd, Conv.intToInt]
theorem rn_convStr {o : Oper} {src dst : TypeId} {x : Operand} {s : ByteArray} {ds : TypeDesc} (E : Env n a l) (ho : o.op = .convert src dst x) (hs : P.underlying src = some ds) (hd : P.underlying dst = some .string) (hx : opv l x = some (.string s)) :
    (execOp a.eval o).run P w = .ok (.value (.string s)) w := by
  simp [execOp, ho, E.eval hx, convert, run_underlying hs, run_underlying hd]

/-! ### Lengths, elements of texts, fields of values -/
theorem rn_len {o : Oper} {t : TypeId} {x : Operand} {e : TypeId} {p : Option Addr} {m c : Nat} (E : Env n a l) (ho : o.op = .call ⟨.builtin .len, #[x], #[t]⟩) (hu : P.underlying t = some (.slice e)) (hx : opv l x = some (.slice p m c)) :
    (execOp a.eval o).run P w = .ok (.value (.int .i64 (m : Int))) w := by
  simp [execOp, ho, resolve, E.eval hx, invoke, builtin, Builtin.len_, run_underlying hu, goInt]
theorem rn_lenStr {o : Oper} {t : TypeId} {x : Operand} {s : ByteArray} (E : Env n a l) (ho : o.op = .call ⟨.builtin .len, #[x], #[t]⟩) (hu : P.underlying t = some .string) (hx : opv l x = some (.string s)) :
    (execOp a.eval o).run P w = .ok (.value (.int .i64 (s.size : Int))) w := by
  simp [execOp, ho, resolve, E.eval hx, invoke, builtin, Builtin.len_, run_underlying hu, goInt]
theorem rn_lenArr {o : Oper} {t : TypeId} {x : Operand} {e : TypeId} {m : Nat} (E : Env n a l) (ho : o.op = .call ⟨.builtin .len, #[x], #[t]⟩) (hu : P.underlying t = some (.array m e)) (hx : opv l x = some v) :
    (execOp a.eval o).run P w = .ok (.value (.int .i64 (m : Int))) w := by
  simp [execOp, ho, resolve, E.eval hx, invoke, builtin, Builtin.len_, run_underlying hu, goInt]
/-- A byte of a text. -/
def byteAt (s : ByteArray) (i : Int) : Option Int := if 0 ≤ i then (s[i.toNat]?).map (fun b => (b.toNat : Int)) else none
theorem rn_indexStr {o : Oper} {t : TypeId} {x y : Operand} {s : ByteArray} {k : IntKind} {i c : Int} (E : Env n a l) (ho : o.op = .index t x y) (hu : P.underlying t = some .string) (hx : opv l x = some (.string s)) (hy : opv l y = some (.int k i)) (hc : byteAt s i = some c) :
    (execOp a.eval o).run P w = .ok (.value (.int .u8 c)) w := by
  unfold byteAt at hc
  split at hc
  · rename_i h0
    obtain ⟨b, hb, rfl⟩ := Option.map_eq_some_iff.1 hc
    simp [execOp, ho, E.eval hx, E.eval hy, Instr.index, asIntOf, run_underlying hu, h0, hb]
  · cases hc
/-- A part of a text. -/
def subStr (s : ByteArray) (i j : Int) : Option ByteArray := if 0 ≤ i ∧ i ≤ j ∧ j ≤ s.size then some (s.extract i.toNat j.toNat) else none
theorem run_bound {k : IntKind} {i : Int} {y : Nat} {code : BoundsCode} (h0 : 0 ≤ i) (h1 : i ≤ y) : (Instr.sliceBound (.int k i) y code).run P w = .ok i.toNat w := by
  simp [Instr.sliceBound, asIntOf, h0, h1]
theorem rn_subStr {o : Oper} {t : TypeId} {x y y' : Operand} {s r : ByteArray} {k k' : IntKind} {i j : Int} (E : Env n a l) (ho : o.op = .slice t x (some y) (some y') none) (hu : P.underlying t = some .string) (hx : opv l x = some (.string s)) (hy : opv l y = some (.int k i)) (hy' : opv l y' = some (.int k' j)) (hc : subStr s i j = some r) :
    (execOp a.eval o).run P w = .ok (.value (.string r)) w := by
  unfold subStr at hc
  split at hc
  · rename_i h0
    obtain rfl := Option.some.inj hc
    have h1 : i ≤ (j.toNat : Int) := by omega
    simp [execOp, ho, E.eval hx, E.eval hy, E.eval hy', Instr.sliceAt, Instr.slice, Instr.sliceBounds, run_underlying hu, run_bound (by omega : 0 ≤ j) h0.2.2, run_bound h0.1 h1]
  · cases hc
theorem rn_subStrFrom {o : Oper} {t : TypeId} {x y : Operand} {s r : ByteArray} {k : IntKind} {i : Int} (E : Env n a l) (ho : o.op = .slice t x (some y) none none) (hu : P.underlying t = some .string) (hx : opv l x = some (.string s)) (hy : opv l y = some (.int k i)) (hc : subStr s i s.size = some r) :
    (execOp a.eval o).run P w = .ok (.value (.string r)) w := by
  unfold subStr at hc
  split at hc
  · rename_i h0
    obtain rfl := Option.some.inj hc
    simp [execOp, ho, E.eval hx, E.eval hy, Instr.sliceAt, Instr.slice, Instr.sliceBounds, run_underlying hu, run_bound h0.1 h0.2.1]
  · cases hc
theorem rn_subStrTo {o : Oper} {t : TypeId} {x y : Operand} {s r : ByteArray} {k : IntKind} {j : Int} (E : Env n a l) (ho : o.op = .slice t x none (some y) none) (hu : P.underlying t = some .string) (hx : opv l x = some (.string s)) (hy : opv l y = some (.int k j)) (hc : subStr s 0 j = some r) :
    (execOp a.eval o).run P w = .ok (.value (.string r)) w := by
  unfold subStr at hc
  split at hc
  · rename_i h0
    obtain rfl := Option.some.inj hc
    simp [execOp, ho, E.eval hx, E.eval hy, Instr.sliceAt, Instr.slice, Instr.sliceBounds, run_underlying hu, run_bound h0.2.1 h0.2.2]
  · cases hc
theorem rn_field1 {o : Oper} {t : TypeId} {x : Operand} {f : Nat} {cs : List Value} {fs : Array Field} {fl : Field} {df : TypeDesc} (E : Env n a l) (ho : o.op = .field t x f) (hu : P.underlying t = some (.struct fs)) (hf : fs[f]? = some fl) (hdf : P.underlying fl.type = some df) (hag : aggD df = false)
    (hx : opv l x = some (.agg cs.toArray)) (hv : cs[fl.offset]? = some v) : (execOp a.eval o).run P w = .ok (.value v) w := by
  simp [execOp, ho, E.eval hx, Instr.field, run_underlying hu, hf, part, run_isAgg hdf, hag, asAgg, hv]
theorem rn_fieldN {o : Oper} {t : TypeId} {x : Operand} {f : Nat} {cs vs : List Value} {fs : Array Field} {fl : Field} {df : TypeDesc} {z : Value} {m b : Nat} (E : Env n a l) (ho : o.op = .field t x f) (hu : P.underlying t = some (.struct fs)) (hf : fs[f]? = some fl) (hdf : P.underlying fl.type = some df) (hag : aggD df = true)
    (hti : TI P fl.type z m b) (hx : opv l x = some (.agg cs.toArray)) (hv : (cs.drop fl.offset).take m = vs) : (execOp a.eval o).run P w = .ok (.value (.agg vs.toArray)) w := by
  simp [execOp, ho, E.eval hx, Instr.field, run_underlying hu, hf, part, run_isAgg hdf, hag, asAgg, hti.sizeOf, hv]

/-! ### Places -/
theorem addr_add (g off j : Nat) : (⟨g, off, none⟩ : Addr).add j = ⟨g, off + j, none⟩ := by
  unfold Addr.add
  split
  · rename_i h; subst h; rfl
  · rfl
theorem rn_fieldAddr {o : Oper} {t : TypeId} {x : Operand} {f g off : Nat} {fs : Array Field} {fl : Field} {z : Value} {m b : Nat} (E : Env n a l) (ho : o.op = .fieldAddr t x f) (hu : P.underlying t = some (.struct fs)) (hf : fs[f]? = some fl) (hti : TI P fl.type z (m + 1) b)
    (hx : opv l x = some (.pointer (some ⟨g, off, none⟩))) {off' : Nat} (he : off + fl.offset = off') : (execOp a.eval o).run P w = .ok (.value (.pointer (some ⟨g, off', none⟩))) w := by
  subst he
  simp [execOp, ho, E.eval hx, Instr.fieldAt, run_underlying hu, hf, Instr.sureAddr, fieldPlace, hti.sizeOf, addr_add]
/-- The place of an element, 'o' cells on: as the slice's first address has it. -/
def Idx (p : Option Addr) (i : Int) (m off : Nat) (q : Addr) : Prop := ∃ g c, p = some ⟨g, c, none⟩ ∧ q = ⟨g, c + (i.toNat * m + off), none⟩
theorem rn_fieldAddrI {o : Oper} {t : TypeId} {x : Operand} {f : Nat} {fs : Array Field} {fl : Field} {z : Value} {m b : Nat} {p : Option Addr} {i : Int} {m' off : Nat} {q : Addr} (E : Env n a l) (ho : o.op = .fieldAddr t x f) (hu : P.underlying t = some (.struct fs)) (hf : fs[f]? = some fl) (hti : TI P fl.type z (m + 1) b)
    (hx : opv l x = some (.pointer (some q))) (hq : Idx p i m' off q) {off' : Nat} (he : off + fl.offset = off') : ∃ q', Idx p i m' off' q' ∧ ∀ w', (execOp a.eval o).run P w' = .ok (.value (.pointer (some q'))) w' := by
  subst he
  obtain ⟨g, c, hp, rfl⟩ := hq
  refine ⟨⟨g, c + (i.toNat * m' + off) + fl.offset, none⟩, ⟨g, c, hp, by simp only [Nat.add_assoc]⟩, fun w' => ?_⟩
  simp [execOp, ho, E.eval hx, Instr.fieldAt, run_underlying hu, hf, Instr.sureAddr, fieldPlace, hti.sizeOf, addr_add]
/-- What reads an element: the element at i, or none. -/
def at_ {α : Type} (xs : List α) (i : Int) : Option α := if 0 ≤ i then xs[i.toNat]? else none
theorem at_some {α : Type} {xs : List α} {i : Int} {x : α} (h : at_ xs i = some x) : 0 ≤ i ∧ i.toNat < xs.length ∧ xs[i.toNat]? = some x := by
  unfold at_ at h
  split at h
  · rename_i h0
    obtain ⟨h1, _⟩ := List.getElem?_eq_some_iff.1 h
    exact ⟨h0, h1, h⟩
  · cases h
theorem rn_indexAddr {o : Oper} {t e : TypeId} {x y : Operand} {k : IntKind} {i : Int} {p : Option Addr} {m c : Nat} {z : Value} {b : Nat} {α : Type} {K : Kind α} {xs : List α} {S : FP} {u : α} (E : Env n a l) (ho : o.op = .indexAddr t x y) (hu : P.underlying t = some (.slice e)) (hti : TI P e z K.n b)
    (hx : opv l x = some (.slice p m c)) (hy : opv l y = some (.int k i)) (hR : sliceR K w S xs [.slice p m c]) (hi : at_ xs i = some u) : ∃ q, Idx p i K.n 0 q ∧ ∀ w', (execOp a.eval o).run P w' = .ok (.value (.pointer (some q))) w' := by
  obtain ⟨h0, h1, h2⟩ := at_some hi
  obtain ⟨p', cap, e1, _, _, _, hh⟩ := hR
  simp only [List.cons.injEq, Value.slice.injEq, and_true] at e1
  obtain ⟨rfl, rfl, rfl⟩ := e1
  obtain ⟨g, off, _, _, _, _, _, rfl, _⟩ := hh (by rintro rfl; simp at h1)
  refine ⟨⟨g, off + i.toNat * K.n, none⟩, ⟨g, off, rfl, rfl⟩, fun w' => ?_⟩
  have hlt : i < (xs.length : Int) := by omega
  simp [execOp, ho, E.eval hx, E.eval hy, Instr.indexAt, asIntOf, run_underlying hu, h0, hlt, hti.sizeOf, addr_add]

/-! ### Loads -/
theorem run_load_cells (g off : Nat) (cs : List Value) (h : ∀ j v, cs[j]? = some v → w.cell? ⟨g, off + j, none⟩ = some v) : (loadCells ⟨g, off, none⟩ cs.length).run P w = .ok cs.toArray w :=
  run_loadCells_list w ⟨g, off, none⟩ cs fun j v hv => by rw [addr_add]; exact h j v hv
theorem rn_load1_at {o : Oper} {t : TypeId} {x : Operand} {q : Addr} {df : TypeDesc} (E : Env n a l) (ho : o.op = .load t x) (hu : P.underlying t = some df) (hag : aggD df = false) (hx : opv l x = some (.pointer (some q))) (hc : w.cell? q = some v) :
    (execOp a.eval o).run P w = .ok (.value v) w := by
  simp [execOp, ho, E.eval hx, Instr.loadAt, Instr.sureAddr, loadVar, run_isAgg hu, hag, hc]
theorem rn_loadN_at {o : Oper} {t : TypeId} {x : Operand} {g off : Nat} {df : TypeDesc} {z : Value} {m b : Nat} {vs : List Value} (E : Env n a l) (ho : o.op = .load t x) (hu : P.underlying t = some df) (hag : aggD df = true) (hti : TI P t z m b) (hx : opv l x = some (.pointer (some ⟨g, off, none⟩)))
    (hm : vs.length = m) (hc : ∀ j v, vs[j]? = some v → w.cell? ⟨g, off + j, none⟩ = some v) : (execOp a.eval o).run P w = .ok (.value (.agg vs.toArray)) w := by
  subst hm
  simp [execOp, ho, E.eval hx, Instr.loadAt, Instr.sureAddr, loadVar, run_isAgg hu, hag, hti.sizeOf, run_load_cells g off vs hc]
theorem blk_cell {g : Nat} {cs : List Value} {T : TypeId} (h : ∃ Z S, (blk g cs T).holds w Z S) {j : Nat} (hj : cs[j]? = some v) : w.cell? ⟨g, j, none⟩ = some v := by
  obtain ⟨_, _, _, h⟩ := h
  simp [World.cell?, h, hj]
theorem rn_load1 {o : Oper} {t : TypeId} {x : Operand} {g off : Nat} {df : TypeDesc} {cs : List Value} {T : TypeId} (E : Env n a l) (ho : o.op = .load t x) (hu : P.underlying t = some df) (hag : aggD df = false) (hx : opv l x = some (.pointer (some ⟨g, off, none⟩)))
    (hb : ∃ Z S, (blk g cs T).holds w Z S) (hv : cs[off]? = some v) : (execOp a.eval o).run P w = .ok (.value v) w :=
  rn_load1_at E ho hu hag hx (blk_cell hb hv)
theorem rn_loadN {o : Oper} {t : TypeId} {x : Operand} {g off : Nat} {df : TypeDesc} {z : Value} {m b : Nat} {cs vs : List Value} {T : TypeId} (E : Env n a l) (ho : o.op = .load t x) (hu : P.underlying t = some df) (hag : aggD df = true) (hti : TI P t z m b) (hx : opv l x = some (.pointer (some ⟨g, off, none⟩)))
    (hb : ∃ Z S, (blk g cs T).holds w Z S) (hm : vs.length = m) (hv : (cs.drop off).take m = vs) : (execOp a.eval o).run P w = .ok (.value (.agg vs.toArray)) w :=
  rn_loadN_at E ho hu hag hti hx hm fun j v hj => blk_cell hb (by
    subst hv
    rw [List.getElem?_take] at hj
    split at hj
    · rw [List.getElem?_drop] at hj; exact hj
    · cases hj)
theorem rn_ld1 {o : Oper} {t : TypeId} {x : Operand} {g off : Nat} {df : TypeDesc} {cs : List Value} {T i : Nat} {I : List SP} (E : Env n a l) (H : St w0 M Y w A L) (ho : o.op = .load t x) (hu : P.underlying t = some df) (hag : aggD df = false) (hx : opv l x = some (.pointer (some ⟨g, off, none⟩)))
    (hi : L[i]? = some (blk g cs T :: I)) (hv : cs[off]? = some v) : (execOp a.eval o).run P w = .ok (.value v) w :=
  rn_load1 E ho hu hag hx (H.get hi (k := 0) rfl) hv
theorem rn_ldN {o : Oper} {t : TypeId} {x : Operand} {g off : Nat} {df : TypeDesc} {z : Value} {m b : Nat} {cs : List Value} (vs : List Value) {T i : Nat} {I : List SP} (E : Env n a l) (H : St w0 M Y w A L) (ho : o.op = .load t x) (hu : P.underlying t = some df) (hag : aggD df = true) (hti : TI P t z m b) (hx : opv l x = some (.pointer (some ⟨g, off, none⟩)))
    (hi : L[i]? = some (blk g cs T :: I)) (hm : vs.length = m) (hv : (cs.drop off).take m = vs) : (execOp a.eval o).run P w = .ok (.value (.agg vs.toArray)) w :=
  rn_loadN E ho hu hag hti hx (H.get hi (k := 0) rfl) hm hv
/-- The cells of an element. -/
theorem elem_cells {α : Type} {K : Kind α} {xs : List α} {S : FP} {p : Option Addr} {m c : Nat} {i : Int} {u : α} (hR : sliceR K w S xs [.slice p m c]) (hi : at_ xs i = some u) :
    ∃ cs, K.R w S u cs ∧ ∀ off q, Idx p i K.n off q → ∃ g o, q = ⟨g, o, none⟩ ∧ ∀ j v, cs[off + j]? = some v → w.cell? ⟨g, o + j, none⟩ = some v := by
  obtain ⟨h0, h1, h2⟩ := at_some hi
  obtain ⟨p', cap, e1, _, _, _, hh⟩ := hR
  simp only [List.cons.injEq, Value.slice.injEq, and_true] at e1
  obtain ⟨rfl, rfl, rfl⟩ := e1
  obtain ⟨g, off, pre, el, post, T, fr, rfl, _, hb, hpre, hER⟩ := hh (by rintro rfl; simp at h1)
  refine ⟨_, ER_get i.toNat u hER h2, fun off' q ⟨g', c', hp, hq⟩ => ?_⟩
  simp only [Option.some.injEq, Addr.mk.injEq, and_true] at hp
  obtain ⟨rfl, rfl⟩ := hp
  refine ⟨g, off + (i.toNat * K.n + off'), hq, fun j v hv => ?_⟩
  rw [List.getElem?_take] at hv
  split at hv
  · rw [List.getElem?_drop] at hv
    have : (pre ++ el ++ post)[off + (i.toNat * K.n + off') + j]? = some v := by
      have hlt : i.toNat * K.n + (off' + j) < el.length := (List.getElem?_eq_some_iff.1 hv).1
      rw [List.getElem?_append_left (by rw [List.length_append]; omega), List.getElem?_append_right (by omega)]
      rw [show off + (i.toNat * K.n + off') + j - pre.length = i.toNat * K.n + (off' + j) by omega]
      exact hv
    simp only [World.cell?, hb, Option.isSome_none, Bool.false_eq_true, if_false, List.getElem?_toArray]
    exact this
  · cases hv

/-! ### What makes or writes memory -/
theorem blk_new (cs : List Value) (T : TypeId) (w : World) : News w (w.alloc (.cells cs.toArray T)) [[blk w.heap.size cs T]] :=
  News.one (S := fun b => b = w.heap.size) (fun b hb => by subst hb; simp) ⟨⟨rfl, heap_alloc_new w _⟩, trivial⟩
theorem wl_alloc {T : TypeId} {z : Value} {m b : Nat} {cs : List Value} (E : Env n a l) (H : St w0 M Y w A L) (hw : Wanted ops a ⟨some d, .alloc T, ty, pos, af, gd⟩) (hti : TI P T z m b) (hz : z.cells = cs.toArray) (hd : Nat.blt d n = true)
    (h : ∀ g w' a', Env n a' ((d, .pointer (some ⟨g, 0, none⟩)) :: l) → St w0 M Y w' A ([blk g cs T] :: L) → κ a' w') : Step P ops Q ⟨some d, .alloc T, ty, pos, af, gd⟩ κ a w := by
  refine wl_val (v := .pointer (some ⟨w.heap.size, 0, none⟩)) (w' := w.alloc (.cells cs.toArray T)) E hw ?_ hd fun a' E' => h w.heap.size _ a' E' (H.news (Chg.alloc _ _ _) (blk_new cs T w))
  simp [execOp, Instr.alloc, hti.zeroValue, newVar, newRow, hz]
theorem wl_box {T : TypeId} {x : Operand} {cs : List Value} (E : Env n a l) (H : St w0 M Y w A L) (hw : Wanted ops a ⟨some d, .box T x, ty, pos, af, gd⟩) (hx : opv l x = some v) (hv : v.cells = cs.toArray) (hd : Nat.blt d n = true)
    (h : ∀ g w' a', Env n a' ((d, .pointer (some ⟨g, 0, none⟩)) :: l) → St w0 M Y w' A ([blk g cs T] :: L) → κ a' w') : Step P ops Q ⟨some d, .box T x, ty, pos, af, gd⟩ κ a w := by
  refine wl_val (v := .pointer (some ⟨w.heap.size, 0, none⟩)) (w' := w.alloc (.cells cs.toArray T)) E hw ?_ hd fun a' E' => h w.heap.size _ a' E' (H.news (Chg.alloc _ _ _) (blk_new cs T w))
  simp [execOp, E.eval hx, Instr.box, newVar, newRow, hv]
theorem rn_build {o : Oper} {T : TypeId} {parts : Array (Nat × Operand)} {ps : List (Nat × Value)} {cs : List Value} (E : Env n a l) (ho : o.op = .build T parts) (hps : parts.toList.map (fun p => (p.1, opv l p.2)) = ps.map (fun p => (p.1, some p.2))) (h : P.built T ps = some cs.toArray) :
    (execOp a.eval o).run P w = .ok (.value (.agg cs.toArray)) w := by
  have e : parts.map (fun x => (x.1, a.eval x.2)) = ps.toArray := by
    apply Array.ext'
    rw [Array.toList_map]
    have : ∀ (ys : List (Nat × Operand)) (zs : List (Nat × Value)), ys.map (fun p => (p.1, opv l p.2)) = zs.map (fun p => (p.1, some p.2)) → ys.map (fun p => (p.1, a.eval p.2)) = zs := by
      intro ys
      induction ys with
      | nil => intro zs h; cases zs with | nil => rfl | cons _ _ => simp at h
      | cons y ys ih =>
        intro zs h
        cases zs with
        | nil => simp at h
        | cons z zs =>
          simp only [List.map_cons, List.cons.injEq, Prod.mk.injEq] at h
          rw [List.map_cons, ih zs h.2, h.1.1, E.eval h.1.2]
    exact this _ _ hps
  have hb := run_build (P := P) w T (parts.map fun x => (x.1, a.eval x.2)) cs.toArray (by rw [e]; exact h)
  simp [execOp, ho, hb]
theorem Chg.setRow {g : Nat} (cs : Array Value) {S : FP} (hg : S g) : Chg w (w.setRow g cs) S :=
  ⟨rfl, rfl, rfl, by simp, fun b _ hn => setRow_other w g b cs (fun e => hn (e ▸ hg))⟩
theorem wl_store {t : TypeId} {x y : Operand} {g off i : Nat} {cs cs' vs : List Value} {T : TypeId} {z : Value} {m b : Nat} (E : Env n a l) (H : St w0 M Y w A L) (hw : Wanted ops a ⟨none, .store t x y, ty, pos, af, gd⟩) (hx : opv l x = some (.pointer (some ⟨g, off, none⟩))) (hy : opv l y = some v)
    (hi : L[i]? = some [blk g cs T]) (hti : TI P t z m b) (hv : v.cells = vs.toArray) (hm : vs.length = m) (h1 : vs.all Value.oneCell' = true) (hfit : Nat.ble (off + m) cs.length = true) (hcs : cs.take off ++ vs ++ cs.drop (off + m) = cs') (hL : L.set i [blk g cs' T] = L')
    (h : ∀ w' a', Env n a' l → St w0 M Y w' A L' → κ a' w') : Step P ops Q ⟨none, .store t x y, ty, pos, af, gd⟩ κ a w := by
  subst hm hL hcs
  have hfit' : off + vs.length ≤ cs.length := Nat.le_of_ble_eq_true hfit
  obtain ⟨_, S, ⟨hS, hb⟩, _⟩ := H.item hi
  have hst := run_storeCells_at P g off T vs 0 cs.toArray w hb (by simpa using hfit') (fun u hu => List.all_eq_true.1 h1 u hu)
  simp only [Nat.add_zero] at hst
  refine wl_unit (w' := w.setRow g (cs.take off ++ vs ++ cs.drop (off + vs.length)).toArray) E hw ?_ fun a' E' => h _ a' E' (H.upd hi fun _ S1 _ _ _ _ ⟨⟨h2, h3⟩, _⟩ => ⟨S1, ⟨⟨h2, setRow_heap w g _ _ T (0, 0) h3⟩, trivial⟩, fun b hb => .inl hb, Chg.setRow _ h2⟩)
  simp [execOp, E.eval hx, E.eval hy, Instr.storeAt, Instr.sureAddr, storeVar, hti.sizeOf, hv, hst]
end
end Go.Gx

/- Slices of a walk's own: made, appended to, written, cut; calls by their contracts; the ends of a walk. -/
namespace Go.Gx
open Go.RowKit

/-- What a function does, called with these arguments where the shared facts Ac hold and the items Lc are lent to it: it returns v, what it hands back is shared (A') or the caller's own (N). -/
def FunG (P : Program) (f : FuncId) (args : Array Value) (Ac : List VP) (Lc : List (List SP)) {τ : Type} (v : τ → Value) (A' : τ → List VP) (N : τ → List (List SP)) : Prop :=
  ∀ w Z S, (∀ b, Z b → b < w.heap.size) → (∀ b, S b → b < w.heap.size) → (∀ b, Z b → ¬ S b) → argHolds w Ac Z → Holds w Z Lc S → Calls P f args w fun e w2 => ∃ t, e = .returned (v t) ∧ PostG w w2 S Z (A' t) (N t)
/-- What does not hang on what is shared. -/
def Flat (N : List (List SP)) : Prop := ∀ w Z S, Holds w Z N S → Holds w Nil N S

section
variable {P : Program} {ops : Array Oper} {rest : List Oper} {Q : Exit → Act → World → Prop} {κ : Act → World → Prop} {a : Act} {w w0 w' : World} {n : Nat} {l : List (Nat × Value)} {M Y : FP} {A A' Ac : List VP} {L L' : List (List SP)}
  {d : Nat} {op : Op} {ty : TypeId} {pos : String} {af : Array Edge} {gd : Option (Nat × Bool)} {v : Value}

theorem wl_funG {f : FuncId} {args : Array Value} {Lc Lr : List (List SP)} {τ : Type} {v : τ → Value} {A' : τ → List VP} {N : τ → List (List SP)} (E : Env n a l) (H : St w0 M Y w A L) (hw : Wanted ops a ⟨some d, op, ty, pos, af, gd⟩) (hr : (execOp a.eval ⟨some d, op, ty, pos, af, gd⟩).run P w = .ok (.enter f args) w) (hd : Nat.blt d n = true)
    (hp : Pick L Lc Lr) (hA : ∀ Z, argHolds w A Z → argHolds w Ac Z) (hf : FunG P f args Ac Lc v A' N)
    (h : ∀ t w' a', Env n a' ((d, v t) :: l) → St w0 M Y w' (A' t ++ A) (N t ++ Lr) → κ a' w') : Step P ops Q ⟨some d, op, ty, pos, af, gd⟩ κ a w := by
  obtain ⟨hc, Z, S, h1, h2, h3, h4, h5, h6⟩ := H
  obtain ⟨Sc, Sr, e1, e2, ed, k1, k2⟩ := Holds_pick hp h2
  refine wl_call (Φ := fun u w2 => ∃ t, u = v t ∧ PostG w w2 Sc Z (A' t) (N t)) E hw hr hd ((hf w Z Sc h4 (fun b hb => (h5 b (e1 b hb)).1) (fun b hb hh => h3 b hb (e1 b hh)) (hA Z h1) k1).mono fun e w2 ⟨t, he, p⟩ => ⟨v t, he, t, rfl, p⟩) fun u w2 ⟨t, hu, p⟩ a' E' => ?_
  subst hu
  exact h t w2 a' E' (St.callG hc h1 h3 h4 h5 h6 e1 e2 ed k2 p)
/-- The arguments may lead to what is the walk's own; what comes back does not lead there. -/
theorem wl_funF {f : FuncId} {args : Array Value} {Lc Lr : List (List SP)} {τ : Type} {v : τ → Value} {N : τ → List (List SP)} (E : Env n a l) (H : St w0 M Y w A L) (hw : Wanted ops a ⟨some d, op, ty, pos, af, gd⟩) (hr : (execOp a.eval ⟨some d, op, ty, pos, af, gd⟩).run P w = .ok (.enter f args) w) (hd : Nat.blt d n = true)
    (hp : Pick L Lc Lr) (hA : ∀ Z S, argHolds w A Z → Holds w Z Lr S → argHolds w Ac (fun b => Z b ∨ S b)) (hf : FunG P f args Ac Lc v (fun _ => []) N) (hfl : ∀ t, Flat (N t))
    (h : ∀ t w' a', Env n a' ((d, v t) :: l) → St w0 M Y w' A (N t ++ Lr) → κ a' w') : Step P ops Q ⟨some d, op, ty, pos, af, gd⟩ κ a w := by
  obtain ⟨hc, Z, S, h1, h2, h3, h4, h5, h6⟩ := H
  obtain ⟨Sc, Sr, e1, e2, ed, k1, k2⟩ := Holds_pick hp h2
  refine wl_call (Φ := fun u w2 => ∃ t, u = v t ∧ PostG w w2 Sc (fun b => Z b ∨ Sr b) [] (N t)) E hw hr hd ((hf w (fun b => Z b ∨ Sr b) Sc (fun b hb => hb.elim (h4 b) (fun h => (h5 b (e2 b h)).1)) (fun b hb => (h5 b (e1 b hb)).1) (fun b hb hh => hb.elim (fun h => h3 b h (e1 b hh)) (fun h => ed b hh h)) (hA Z Sr h1 k2) (Holds_mono (fun b h => .inl h) (fun _ h => h) k1)).mono fun e w2 ⟨t, he, p⟩ => ⟨v t, he, t, rfl, p⟩) fun u w2 ⟨t, hu, p⟩ a' E' => ?_
  subst hu
  obtain ⟨c, Z', T, _, hN, hzt, hz', ht⟩ := p
  exact h t w2 a' E' (St.callG (A' := []) hc h1 h3 h4 h5 h6 e1 e2 ed k2 ⟨c, Nil, T, trivial, Holds_mono (fun _ h => h.elim) (fun _ h => h) (hfl t _ _ _ hN), fun _ h => h.elim, fun _ h => h.elim, ht⟩)

/-! ### Own slices -/
theorem Chg.grow {g : Nat} {cs : Array Value} {S : FP} (hg : S g) (h : w' = w.setRow g cs) : Chg w w' S := by subst h; exact Chg.setRow cs hg
theorem St.nilRow {α : Type} (E : TypeId) (K : Kind α) (H : St w0 M Y w A L) : St w0 M Y w A ([row E K [] (.slice none 0 0)] :: L) :=
  H.news (N := [[row E K [] (.slice none 0 0)]]) (Chg.refl _ _) ⟨Nil, fun _ h => h.elim, Nil, Nil, fun _ h => h, fun _ h => h, fun _ h => h.elim, ⟨.inl ⟨⟨none, rfl⟩, rfl⟩, trivial⟩, trivial⟩
/-- What a value can be read as, in what is shared or the walk's own. -/
def Reads {α : Type} (K : Kind α) (xs : List α) (v : Value) (w : World) : Prop := ∃ Z, sliceR K w Z xs [v]
theorem St.readA {α : Type} {E : TypeId} {K : Kind α} {xs : List α} {k : Nat} (H : St w0 M Y w A L) (hk : A[k]? = some (vw (kSlice E K) xs [v])) : Reads K xs v w := H.arg hk
theorem St.readL {α : Type} {E : TypeId} {K : Kind α} {xs : List α} {i : Nat} {I : List SP} (H : St w0 M Y w A L) (hi : L[i]? = some (row E K xs v :: I)) : Reads K xs v w := by
  obtain ⟨Z, S, h, _⟩ := H.item hi
  exact ⟨_, rowH.read h⟩
theorem rn_idx {o : Oper} {t e : TypeId} {x y : Operand} {k : IntKind} {i : Int} {p : Option Addr} {m c : Nat} {z : Value} {b : Nat} {α : Type} {K : Kind α} {xs : List α} {u : α} (E : Env n a l) (ho : o.op = .indexAddr t x y) (hu : P.underlying t = some (.slice e)) (hti : TI P e z K.n b)
    (hx : opv l x = some (.slice p m c)) (hy : opv l y = some (.int k i)) (hR : Reads K xs (.slice p m c) w) (hi : at_ xs i = some u) : ∃ q, Idx p i K.n 0 q ∧ ∀ w', (execOp a.eval o).run P w' = .ok (.value (.pointer (some q))) w' :=
  let ⟨_, h⟩ := hR
  rn_indexAddr E ho hu hti hx hy h hi
/-- Loads of an element, and of a part of it. -/
theorem rn_loadI1 {o : Oper} {t : TypeId} {x : Operand} {q : Addr} {df : TypeDesc} {p : Option Addr} {i : Int} {m off : Nat} {cs : List Value} (E : Env n a l) (ho : o.op = .load t x) (hu : P.underlying t = some df) (hag : aggD df = false) (hx : opv l x = some (.pointer (some q))) (hq : Idx p i m off q)
    (hc : ∀ off q, Idx p i m off q → ∃ g o, q = ⟨g, o, none⟩ ∧ ∀ j v, cs[off + j]? = some v → w.cell? ⟨g, o + j, none⟩ = some v) (hv : cs[off]? = some v) : (execOp a.eval o).run P w = .ok (.value v) w := by
  obtain ⟨g, o', rfl, h⟩ := hc off q hq
  exact rn_load1_at E ho hu hag hx (h 0 v hv)
theorem rn_loadIN {o : Oper} {t : TypeId} {x : Operand} {q : Addr} {df : TypeDesc} {z : Value} {m' b : Nat} {p : Option Addr} {i : Int} {m off : Nat} {cs vs : List Value} (E : Env n a l) (ho : o.op = .load t x) (hu : P.underlying t = some df) (hag : aggD df = true) (hti : TI P t z m' b) (hx : opv l x = some (.pointer (some q))) (hq : Idx p i m off q)
    (hc : ∀ off q, Idx p i m off q → ∃ g o, q = ⟨g, o, none⟩ ∧ ∀ j v, cs[off + j]? = some v → w.cell? ⟨g, o + j, none⟩ = some v) (hm : vs.length = m') (hv : (cs.drop off).take m' = vs) : (execOp a.eval o).run P w = .ok (.value (.agg vs.toArray)) w := by
  obtain ⟨g, o', rfl, h⟩ := hc off q hq
  refine rn_loadN_at E ho hu hag hti hx hm fun j v hj => h j v ?_
  subst hv
  rw [List.getElem?_take] at hj
  split at hj
  · rw [List.getElem?_drop] at hj; exact hj
  · cases hj

/-! ### A row's element laid open, and the row shut again -/
theorem row_open {α : Type} {E : TypeId} {K : Kind α} {xs : List α} {v : Value} {Z S : FP} {i : Int} {u : α} (h : rowH E K xs v w Z S) (hi : at_ xs i = some u) :
    ∃ cs S1 S2, (∀ b, S1 b → S b) ∧ (∀ b, S2 b → S b) ∧ (∀ b, S1 b → ¬ S2 b) ∧ holeH E K xs i.toNat cs v w Z S1 ∧ K.O w Z S2 u cs := by
  obtain ⟨h0, h1, h2⟩ := at_some hi
  rcases h with ⟨_, rfl⟩ | ⟨g, off, cap, pre, el, post, e, hg, hh, ho, hl, hp, hm, S', hs, hn, hE⟩
  · simp at h1
  · have hx : xs = xs.take i.toNat ++ (u :: xs.drop (i.toNat + 1)) := by
      have : xs.drop i.toNat = u :: xs.drop (i.toNat + 1) := by
        obtain ⟨hlt, he⟩ := List.getElem?_eq_some_iff.1 h2
        rw [List.drop_eq_getElem_cons hlt, he]
      rw [← this, List.take_append_drop]
    have hE' := hE
    rw [hx] at hE'
    obtain ⟨c1, d, T1, T2, rfl, g1, g2, gd, k1, c2, c3, U1, U2, rfl, j1, j2, jd, l1, l2⟩ := EO_split hE'
    simp only [List.cons.injEq, and_true] at e
    have hnU : ¬ U1 g := fun hh => hn (g2 g (j1 g hh))
    refine ⟨c2, fun b => b = g ∨ T1 b ∨ U2 b, U1, fun b hb => ?_, fun b hb => hs b (g2 b (j1 b hb)), fun b hb hu => ?_, ⟨g, off, cap, pre, c1, c3, post, e, .inl rfl, by rw [hh]; simp [List.append_assoc], ho, hl, hp, hm, h1, K.lenO l1, T1, U2, fun b h => .inr (.inl h), fun b h => .inr (.inr h), fun h => hn (g1 g h), fun h => hn (g2 g (j2 g h)), fun b h k => gd b h (j2 b k), k1, l2⟩, l1⟩
    · rcases hb with rfl | hb | hb
      · exact hg
      · exact hs b (g1 b hb)
      · exact hs b (g2 b (j2 b hb))
    · rcases hb with rfl | hb | hb
      · exact hnU hu
      · exact gd b hb (j1 b hu)
      · exact jd b hu hb
theorem hole_close {α : Type} {E : TypeId} {K : Kind α} {xs : List α} {i : Nat} {v : Value} {cs : List Value} {Z S1 S2 : FP} {u : α} (h : holeH E K xs i cs v w Z S1) (hK : K.O w Z S2 u cs) (hd : ∀ b, S1 b → ¬ S2 b) : rowH E K (xs.set i u) v w Z (fun b => S1 b ∨ S2 b) := by
  obtain ⟨g, off, cap, pre, e1, e2, post, rfl, hg, hh, ho, hl, hp, hm, hi, hc, T1, T2, h1, h2, n1, n2, ht, k1, k2⟩ := h
  have hx : xs.set i u = xs.take i ++ (u :: xs.drop (i + 1)) := by rw [List.set_eq_take_append_cons_drop, if_pos hi]
  refine .inr ⟨g, off, cap, pre, e1 ++ cs ++ e2, post, by rw [List.length_set], .inl hg, hh, ho, by rw [List.length_set]; exact hl, by rw [List.length_set]; exact hp, hm, fun b => T1 b ∨ (S2 b ∨ T2 b), fun b hb => ?_, ?_, ?_⟩
  · rcases hb with hb | hb | hb
    · exact .inl (h1 b hb)
    · exact .inr hb
    · exact .inl (h2 b hb)
  · rintro (hb | hb | hb)
    · exact n1 hb
    · exact hd g hg hb
    · exact n2 hb
  · rw [hx, List.append_assoc]
    exact EO_append k1 (S := T1) (T := fun b => S2 b ∨ T2 b) ⟨cs, e2, S2, T2, rfl, fun b h => .inl h, fun b h => .inr h, fun b h k => hd b (h2 b k) h, hK, k2⟩ (fun b h k => k.elim (fun k => hd b (h1 b h) k) (ht b h)) (fun b h => .inl h) (fun b h => .inr h)
theorem set_same {α : Type} {xs : List α} {i : Int} {u : α} (h : at_ xs i = some u) : xs.set i.toNat u = xs := by
  obtain ⟨_, h1, h2⟩ := at_some h
  obtain ⟨hlt, he⟩ := List.getElem?_eq_some_iff.1 h2
  rw [← he, List.set_getElem_self]
theorem at_set {α : Type} {xs : List α} {i : Int} {u u' : α} (h : at_ xs i = some u) : at_ (xs.set i.toNat u') i = some u' := by
  obtain ⟨h0, h1, _⟩ := at_some h
  unfold at_
  rw [if_pos h0, List.getElem?_set_self h1]
/-- The cells of the open element. -/
theorem hole_cells {α : Type} {E : TypeId} {K : Kind α} {xs : List α} {i : Int} {p : Option Addr} {m c : Nat} {cs : List Value} {Z S : FP} (h : holeH E K xs i.toNat cs (.slice p m c) w Z S) :
    ∀ off q, Idx p i K.n off q → ∃ g o, q = ⟨g, o, none⟩ ∧ ∀ j v, cs[off + j]? = some v → w.cell? ⟨g, o + j, none⟩ = some v := by
  obtain ⟨g, off0, cap, pre, e1, e2, post, e, hg, hh, ho, hl, hp, hm, hi, hc, T1, T2, h1, h2, n1, n2, ht, k1, k2⟩ := h
  rintro off q ⟨g', o', hp', rfl⟩
  simp only [Value.slice.injEq] at e
  obtain ⟨rfl, rfl, rfl⟩ := e
  simp only [Option.some.injEq, Addr.mk.injEq, and_true] at hp'
  obtain ⟨rfl, rfl⟩ := hp'
  refine ⟨g, _, rfl, fun j v hv => ?_⟩
  have hl1 : e1.length = i.toNat * K.n := by rw [EO_len k1, List.length_take, Nat.min_eq_left (Nat.le_of_lt hi)]
  have hlt : off + j < cs.length := (List.getElem?_eq_some_iff.1 hv).1
  simp only [World.cell?, hh, Option.isSome_none, Bool.false_eq_true, if_false, List.getElem?_toArray]
  rw [List.getElem?_append_left (by simp; omega), List.getElem?_append_right (by omega), List.append_assoc, List.getElem?_append_right (by omega), List.getElem?_append_left (by omega), ← hv]
  congr 1
  omega
/-- A store into the open element. -/
theorem hole_store {α : Type} {E : TypeId} {K : Kind α} {xs : List α} {i : Int} {p : Option Addr} {m c off : Nat} {cs cs' vs : List Value} {Z S : FP} {q : Addr} (h : holeH E K xs i.toNat cs (.slice p m c) w Z S) (hZS : ∀ b, Z b → ¬ S b) (hq : Idx p i K.n off q) (hfit : off + vs.length ≤ cs.length) (hcs : cs.take off ++ vs ++ cs.drop (off + vs.length) = cs') (h1 : ∀ u ∈ vs, u.oneCell' = true) :
    ∃ w', (storeCells q vs).run P w = .ok () w' ∧ Chg w w' S ∧ holeH E K xs i.toNat cs' (.slice p m c) w' Z S := by
  obtain ⟨g, off0, cap, pre, e1, e2, post, e, hg, hh, ho, hl, hp, hm, hi, hc, T1, T2, hs1, hs2, n1, n2, ht, k1, k2⟩ := h
  obtain ⟨g', o', hp', rfl⟩ := hq
  simp only [Value.slice.injEq] at e
  obtain ⟨rfl, rfl, rfl⟩ := e
  simp only [Option.some.injEq, Addr.mk.injEq, and_true] at hp'
  obtain ⟨rfl, rfl⟩ := hp'
  have hl1 : e1.length = i.toNat * K.n := by rw [EO_len k1, List.length_take, Nat.min_eq_left (Nat.le_of_lt hi)]
  have hst := run_storeCells_at P g (off0 + (i.toNat * K.n + off)) E vs 0 (pre ++ (e1 ++ cs ++ e2) ++ post).toArray w hh (by simp; omega) h1
  simp only [Nat.add_zero] at hst
  refine ⟨_, hst, Chg.setRow _ hg, g, off0, c, pre, e1, e2, post, rfl, hg, ?_, ho, hl, hp, hm, hi, ?_, T1, T2, hs1, hs2, n1, n2, ht, ?_, ?_⟩
  · rw [setRow_heap w g _ _ E (0, 0) hh, ← hcs]
    congr 2
    have e3 : pre ++ (e1 ++ cs ++ e2) ++ post = (pre ++ e1) ++ (cs ++ (e2 ++ post)) := by simp [List.append_assoc]
    have hpl : (pre ++ e1).length = off0 + i.toNat * K.n := by simp; omega
    rw [e3, show off0 + (i.toNat * K.n + off) = (pre ++ e1).length + off by omega, List.take_append, List.take_of_length_le (by omega), Nat.add_sub_cancel_left, List.take_append_of_le_length (by omega), Nat.add_assoc, List.drop_append, List.drop_of_length_le (by omega), Nat.add_sub_cancel_left, List.nil_append, List.drop_append_of_le_length (by omega)]
    simp only [List.append_assoc]
  · rw [← hcs, ← hc]; simp; omega
  · exact EO_loc (fun b hb => setRow_other w g b _ (fun e => hZS b hb (e ▸ hg))) (fun b hb => setRow_other w g b _ (fun e => n1 (e ▸ hb))) k1
  · exact EO_loc (fun b hb => setRow_other w g b _ (fun e => hZS b hb (e ▸ hg))) (fun b hb => setRow_other w g b _ (fun e => n2 (e ▸ hb))) k2
/-- Two items, the first of which leaves its part to the others. -/
theorem St.split {I : List SP} {N L' : List (List SP)} {B : List VP} (H : St w0 M Y w A L) (hi : Ext L I L')
    (f : ∀ Z S, argHolds w A Z → itemHolds w Z I S → argHolds w B Z ∧ Holds w Z N S) : St w0 M Y w (B ++ A) (N ++ L') := by
  obtain ⟨hc, Z, S, h1, h2, h3, h4, h5, h6⟩ := H
  obtain ⟨S1, S2, e1, e2, ed, k1, k2⟩ := Holds_ext hi h2
  obtain ⟨g1, g2⟩ := f Z S1 h1 k1
  exact ⟨hc, Z, S, argHolds_append g1 h1, Holds_mono (fun _ h => h) (fun b h => h.elim (e1 b) (e2 b)) (Holds_append g2 k2 ed), h3, h4, h5, h6⟩
/-- Several items become others. -/
theorem St.melt {Lc N Lr : List (List SP)} (H : St w0 M Y w A L) (hp : Pick L Lc Lr)
    (f : ∀ Z S, (∀ b, Z b → ¬ S b) → argHolds w A Z → Holds w Z Lc S → Holds w Z N S) : St w0 M Y w A (N ++ Lr) := by
  obtain ⟨hc, Z, S, h1, h2, h3, h4, h5, h6⟩ := H
  obtain ⟨S1, S2, e1, e2, ed, k1, k2⟩ := Holds_pick hp h2
  exact ⟨hc, Z, S, h1, Holds_mono (fun _ h => h) (fun b h => h.elim (e1 b) (e2 b)) (Holds_append (f Z S1 (fun b hz hs => h3 b hz (e1 b hs)) h1 k1) k2 ed), h3, h4, h5, h6⟩

/-! ### How the cells of a value are told, and what its slices lead to -/
def Opens {α τ : Type} (K : Kind α) (f : α → τ → List Value) (B : α → τ → List VP) : Prop := ∀ ⦃w : World⦄ ⦃Z : FP⦄ ⦃x : α⦄ ⦃cs : List Value⦄, K.R w Z x cs → ∃ t, cs = f x t ∧ argHolds w (B x t) Z
def Shuts {α τ : Type} (K : Kind α) (f : α → τ → List Value) (B : α → τ → List VP) : Prop := ∀ ⦃w : World⦄ ⦃Z : FP⦄ ⦃x : α⦄ ⦃t : τ⦄, argHolds w (B x t) Z → K.R w Z x (f x t)
def OpensO {α τ : Type} (K : Kind α) (f : α → τ → List Value) (N : α → τ → List (List SP)) (B : α → τ → List VP) : Prop := ∀ ⦃w : World⦄ ⦃Z S : FP⦄ ⦃x : α⦄ ⦃cs : List Value⦄, K.O w Z S x cs → ∃ t, cs = f x t ∧ Holds w Z (N x t) S ∧ argHolds w (B x t) Z
def ShutsO {α τ : Type} (K : Kind α) (f : α → τ → List Value) (N : α → τ → List (List SP)) (B : α → τ → List VP) : Prop := ∀ ⦃w : World⦄ ⦃Z S : FP⦄ ⦃x : α⦄ ⦃t : τ⦄, Holds w Z (N x t) S → argHolds w (B x t) Z → K.O w Z S x (f x t)
section
variable {α β τ σ τ' : Type} {K : Kind α} {J : Kind β} {f : α → τ → List Value} {g : β → σ → List Value} {N : α → τ → List (List SP)} {Nn : β → σ → List (List SP)} {B : α → τ → List VP} {C : β → σ → List VP}
theorem opens_int (k : IntKind) : Opens (kInt k) (fun x (_ : Unit) => [.int k x]) (fun _ _ => []) := fun _ _ _ _ h => ⟨(), h, trivial⟩
theorem opens_bool : Opens kBool (fun x (_ : Unit) => [.bool x]) (fun _ _ => []) := fun _ _ _ _ h => ⟨(), h, trivial⟩
theorem opens_str : Opens kStr (fun x (_ : Unit) => [.string x]) (fun _ _ => []) := fun _ _ _ _ h => ⟨(), h, trivial⟩
theorem opens_slice (E : TypeId) (K : Kind α) : Opens (kSlice E K) (fun _ (t : Option Addr × Nat × Nat) => [.slice t.1 t.2.1 t.2.2]) (fun x t => [vw (kSlice E K) x [.slice t.1 t.2.1 t.2.2]]) := fun _ _ x cs h => by
  obtain ⟨p, c, rfl, hh⟩ := h
  exact ⟨(p, x.length, c), rfl, ⟨p, c, rfl, hh⟩, trivial⟩
theorem opens_pair (h : Opens K f B) (k : Opens J g C) : Opens (kPair K J) (fun x (t : τ × σ) => f x.1 t.1 ++ g x.2 t.2) (fun x t => B x.1 t.1 ++ C x.2 t.2) := fun _ _ _ _ ⟨c1, c2, e, k1, k2⟩ => by
  obtain ⟨t, rfl, b1⟩ := h k1
  obtain ⟨s, rfl, b2⟩ := k k2
  exact ⟨(t, s), e, argHolds_append b1 b2⟩
theorem opens_iso {i : β → α} (h : Opens K f B) : Opens (kIso K i) (fun x t => f (i x) t) (fun x t => B (i x) t) := fun _ _ _ _ k => h k
theorem opens_map {f' : α → τ' → List Value} {B' : α → τ' → List VP} (h : Opens K f B) (m : τ → τ') (e1 : ∀ x t, f x t = f' x (m t)) (e2 : ∀ x t, B x t = B' x (m t)) : Opens K f' B' := fun _ _ _ _ k => by
  obtain ⟨t, rfl, b⟩ := h k
  exact ⟨m t, e1 _ _, by rw [← e2]; exact b⟩
theorem shuts_int (k : IntKind) : Shuts (kInt k) (fun x (_ : Unit) => [.int k x]) (fun _ _ => []) := fun _ _ _ _ _ => rfl
theorem shuts_bool : Shuts kBool (fun x (_ : Unit) => [.bool x]) (fun _ _ => []) := fun _ _ _ _ _ => rfl
theorem shuts_str : Shuts kStr (fun x (_ : Unit) => [.string x]) (fun _ _ => []) := fun _ _ _ _ _ => rfl
theorem shuts_slice (E : TypeId) (K : Kind α) : Shuts (kSlice E K) (fun _ (t : Option Addr × Nat × Nat) => [.slice t.1 t.2.1 t.2.2]) (fun x t => [vw (kSlice E K) x [.slice t.1 t.2.1 t.2.2]]) := fun _ _ _ _ h => h.1
theorem argHolds_app {w : World} {Z : FP} : ∀ {A B : List VP}, argHolds w (A ++ B) Z → argHolds w A Z ∧ argHolds w B Z
  | [], _, h => ⟨trivial, h⟩
  | _ :: _, _, ⟨h, k⟩ => ⟨⟨h, (argHolds_app k).1⟩, (argHolds_app k).2⟩
theorem shuts_pair (h : Shuts K f B) (k : Shuts J g C) : Shuts (kPair K J) (fun x (t : τ × σ) => f x.1 t.1 ++ g x.2 t.2) (fun x t => B x.1 t.1 ++ C x.2 t.2) := fun _ _ _ _ b => ⟨_, _, rfl, h (argHolds_app b).1, k (argHolds_app b).2⟩
theorem shuts_iso {i : β → α} (h : Shuts K f B) : Shuts (kIso K i) (fun x t => f (i x) t) (fun x t => B (i x) t) := fun _ _ _ _ k => h k
theorem shuts_map {f' : α → τ' → List Value} {B' : α → τ' → List VP} (h : Shuts K f B) (m : τ' → τ) (e1 : ∀ x t, f x (m t) = f' x t) (e2 : ∀ x t, B x (m t) = B' x t) : Shuts K f' B' := fun _ _ _ _ k => by
  rw [← e1]
  exact h (by rw [e2]; exact k)
theorem opensO_int (k : IntKind) : OpensO (kInt k) (fun x (_ : Unit) => [.int k x]) (fun _ _ => []) (fun _ _ => []) := fun _ _ _ _ _ h => ⟨(), h, trivial, trivial⟩
theorem opensO_bool : OpensO kBool (fun x (_ : Unit) => [.bool x]) (fun _ _ => []) (fun _ _ => []) := fun _ _ _ _ _ h => ⟨(), h, trivial, trivial⟩
theorem opensO_str : OpensO kStr (fun x (_ : Unit) => [.string x]) (fun _ _ => []) (fun _ _ => []) := fun _ _ _ _ _ h => ⟨(), h, trivial, trivial⟩
theorem opensO_slice (E : TypeId) (K : Kind α) : OpensO (kSlice E K) (fun _ (t : Option Addr × Nat × Nat) => [.slice t.1 t.2.1 t.2.2]) (fun x t => [[row E K x (.slice t.1 t.2.1 t.2.2)]]) (fun _ _ => []) := fun w Z S x cs h => by
  have hs : ∃ p m c, cs = [.slice p m c] := by
    obtain ⟨p, c, e⟩ := sliceR.shape ((kSlice E K).OR h)
    exact ⟨p, _, c, e⟩
  obtain ⟨p, m, c, rfl⟩ := hs
  exact ⟨(p, m, c), rfl, ⟨S, Nil, fun _ h => h, fun _ h => h.elim, fun _ _ h => h.elim, ⟨h, trivial⟩, trivial⟩, trivial⟩
theorem opensO_share (h : Opens K f B) : OpensO (kShare K) f (fun _ _ => []) B := fun _ _ _ _ _ k => by
  obtain ⟨t, e, b⟩ := h k
  exact ⟨t, e, trivial, b⟩
theorem opensO_pair (h : OpensO K f N B) (k : OpensO J g Nn C) : OpensO (kPair K J) (fun x (t : τ × σ) => f x.1 t.1 ++ g x.2 t.2) (fun x t => N x.1 t.1 ++ Nn x.2 t.2) (fun x t => B x.1 t.1 ++ C x.2 t.2) := fun _ _ _ _ _ ⟨c1, c2, S1, S2, e, h1, h2, hd, k1, k2⟩ => by
  obtain ⟨t, rfl, n1, b1⟩ := h k1
  obtain ⟨s, rfl, n2, b2⟩ := k k2
  exact ⟨(t, s), e, Holds_mono (fun _ h => h) (fun b hb => hb.elim (h1 b) (h2 b)) (Holds_append n1 n2 hd), argHolds_append b1 b2⟩
theorem opensO_iso {i : β → α} (h : OpensO K f N B) : OpensO (kIso K i) (fun x t => f (i x) t) (fun x t => N (i x) t) (fun x t => B (i x) t) := fun _ _ _ _ _ k => h k
theorem opensO_map {f' : α → τ' → List Value} {N' : α → τ' → List (List SP)} {B' : α → τ' → List VP} (h : OpensO K f N B) (m : τ → τ') (e1 : ∀ x t, f x t = f' x (m t)) (e2 : ∀ x t, N x t = N' x (m t)) (e3 : ∀ x t, B x t = B' x (m t)) : OpensO K f' N' B' := fun _ _ _ _ _ k => by
  obtain ⟨t, rfl, n, b⟩ := h k
  exact ⟨m t, e1 _ _, by rw [← e2]; exact n, by rw [← e3]; exact b⟩
theorem shutsO_int (k : IntKind) : ShutsO (kInt k) (fun x (_ : Unit) => [.int k x]) (fun _ _ => []) (fun _ _ => []) := fun _ _ _ _ _ _ _ => rfl
theorem shutsO_bool : ShutsO kBool (fun x (_ : Unit) => [.bool x]) (fun _ _ => []) (fun _ _ => []) := fun _ _ _ _ _ _ _ => rfl
theorem shutsO_str : ShutsO kStr (fun x (_ : Unit) => [.string x]) (fun _ _ => []) (fun _ _ => []) := fun _ _ _ _ _ _ _ => rfl
theorem shutsO_slice (E : TypeId) (K : Kind α) : ShutsO (kSlice E K) (fun _ (t : Option Addr × Nat × Nat) => [.slice t.1 t.2.1 t.2.2]) (fun x t => [[row E K x (.slice t.1 t.2.1 t.2.2)]]) (fun _ _ => []) := fun _ _ _ _ _ ⟨_, _, h1, _, _, ⟨h, _⟩, _⟩ _ => (kSlice E K).monoO (fun _ h => h) h1 h
theorem shutsO_share (h : Shuts K f B) : ShutsO (kShare K) f (fun _ _ => []) B := fun _ _ _ _ _ _ b => h b
theorem Holds_app {w : World} {Z : FP} : ∀ {L M : List (List SP)} {S : FP}, Holds w Z (L ++ M) S → ∃ S1 S2, (∀ b, S1 b → S b) ∧ (∀ b, S2 b → S b) ∧ (∀ b, S1 b → ¬ S2 b) ∧ Holds w Z L S1 ∧ Holds w Z M S2
  | [], _, S, h => ⟨Nil, S, fun _ h => h.elim, fun _ h => h, fun _ h => h.elim, trivial, h⟩
  | _ :: _, _, _, ⟨S1, S2, h1, h2, hd, k1, k2⟩ => by
    obtain ⟨T1, T2, g1, g2, gd, l1, l2⟩ := Holds_app k2
    exact ⟨fun b => S1 b ∨ T1 b, T2, fun b h => h.elim (h1 b) (fun h => h2 b (g1 b h)), fun b h => h2 b (g2 b h), fun b h hh => h.elim (fun h => hd b h (g2 b hh)) (fun h => gd b h hh), ⟨S1, T1, fun b h => .inl h, fun b h => .inr h, fun b h hh => hd b h (g1 b hh), k1, l1⟩, l2⟩
theorem shutsO_pair (h : ShutsO K f N B) (k : ShutsO J g Nn C) : ShutsO (kPair K J) (fun x (t : τ × σ) => f x.1 t.1 ++ g x.2 t.2) (fun x t => N x.1 t.1 ++ Nn x.2 t.2) (fun x t => B x.1 t.1 ++ C x.2 t.2) := fun _ _ _ _ _ n b => by
  obtain ⟨S1, S2, h1, h2, hd, k1, k2⟩ := Holds_app n
  exact ⟨_, _, S1, S2, rfl, h1, h2, hd, h k1 (argHolds_app b).1, k k2 (argHolds_app b).2⟩
theorem shutsO_iso {i : β → α} (h : ShutsO K f N B) : ShutsO (kIso K i) (fun x t => f (i x) t) (fun x t => N (i x) t) (fun x t => B (i x) t) := fun _ _ _ _ _ k b => h k b
theorem shutsO_map {f' : α → τ' → List Value} {N' : α → τ' → List (List SP)} {B' : α → τ' → List VP} (h : ShutsO K f N B) (m : τ' → τ) (e1 : ∀ x t, f x (m t) = f' x t) (e2 : ∀ x t, N x (m t) = N' x t) (e3 : ∀ x t, B x (m t) = B' x t) : ShutsO K f' N' B' := fun _ _ _ _ _ n b => by
  rw [← e1]
  exact h (by rw [e2]; exact n) (by rw [e3]; exact b)
end
end
end Go.Gx

/- Slices of a walk's own that grow. -/
namespace Go.Gx
open Go.RowKit
/-- Kinds of value that lead nowhere. -/
def FlatK {α : Type} (K : Kind α) : Prop := ∀ {w : World} {S : FP} {x : α} {cs : List Value}, K.R w S x cs → K.O w Nil Nil x cs
theorem flatK_int (k : IntKind) : FlatK (kInt k) := fun h => h
theorem flatK_bool : FlatK kBool := fun h => h
theorem flatK_str : FlatK kStr := fun h => h
theorem flatK_pair {α β : Type} {K : Kind α} {J : Kind β} (h : FlatK K) (k : FlatK J) : FlatK (kPair K J) := fun ⟨c1, c2, e, h1, h2⟩ => ⟨c1, c2, Nil, Nil, e, fun _ h => h, fun _ h => h, fun _ h => h.elim, h h1, k h2⟩
theorem flatK_iso {α β : Type} {K : Kind α} {f : β → α} (h : FlatK K) : FlatK (kIso K f) := fun {_ _ _ _} k => h k
theorem flat_EO {α : Type} {K : Kind α} (h : FlatK K) {w : World} {Z S T : FP} : ∀ {xs : List α} {cs : List Value}, ER K w xs S cs → EO K w Z xs T cs
  | [], _, k => k
  | _ :: _, _, ⟨c1, c2, e, k1, k2⟩ => ⟨c1, c2, Nil, Nil, e, fun _ h => h.elim, fun _ h => h.elim, fun _ h => h.elim, K.monoO (fun _ h => h.elim) (fun _ h => h) (h k1), flat_EO h k2⟩
/-- Kinds of value that don't hang on what is shared. -/
def IndK {α : Type} (K : Kind α) : Prop := ∀ {w : World} {Z S : FP} {x : α} {cs : List Value}, K.O w Z S x cs → K.O w Nil S x cs
theorem indK_int (k : IntKind) : IndK (kInt k) := fun h => h
theorem indK_bool : IndK kBool := fun h => h
theorem indK_str : IndK kStr := fun h => h
theorem indK_pair {α β : Type} {K : Kind α} {J : Kind β} (h : IndK K) (k : IndK J) : IndK (kPair K J) := fun ⟨c1, c2, S1, S2, e, a, b, d, h1, h2⟩ => ⟨c1, c2, S1, S2, e, a, b, d, h h1, k h2⟩
theorem indK_iso {α β : Type} {K : Kind α} {f : β → α} (h : IndK K) : IndK (kIso K f) := fun {_ _ _ _ _} k => h k
theorem ind_EO {α : Type} {K : Kind α} (h : IndK K) {w : World} {Z : FP} : ∀ {xs : List α} {S : FP} {cs : List Value}, EO K w Z xs S cs → EO K w Nil xs S cs
  | [], _, _, k => k
  | _ :: _, _, _, ⟨c1, c2, S1, S2, e, a, b, d, k1, k2⟩ => ⟨c1, c2, S1, S2, e, a, b, d, h k1, ind_EO h k2⟩
theorem indK_slice {α : Type} (E : TypeId) {K : Kind α} (h : IndK K) : IndK (kSlice E K) := fun k => k.imp id fun ⟨g, off, cap, pre, el, post, a1, a2, a3, a4, a5, a6, a7, S', a8, a9, a10⟩ => ⟨g, off, cap, pre, el, post, a1, a2, a3, a4, a5, a6, a7, S', a8, a9, ind_EO h a10⟩
theorem flat_nil : Flat [] := fun _ _ _ _ => trivial
theorem flat_cons {α : Type} {K : Kind α} {x : α} {cs : List Value} {N : List (List SP)} (h : IndK K) (k : Flat N) : Flat ([ow K x cs] :: N) := by
  rintro w Z S ⟨S1, S2, h1, h2, hd, ⟨hR, _⟩, hN⟩
  exact ⟨S1, S2, h1, h2, hd, ⟨h hR, trivial⟩, k _ _ _ hN⟩
theorem flat_blk {g : Nat} {cs : List Value} {T : TypeId} {N : List (List SP)} (k : Flat N) : Flat ([blk g cs T] :: N) := by
  rintro w Z S ⟨S1, S2, h1, h2, hd, ⟨hR, _⟩, hN⟩
  exact ⟨S1, S2, h1, h2, hd, ⟨hR, trivial⟩, k _ _ _ hN⟩

section
variable {P : Program} {ops : Array Oper} {rest : List Oper} {Q : Exit → Act → World → Prop} {κ : Act → World → Prop} {a : Act} {w w0 w' : World} {n : Nat} {l : List (Nat × Value)} {M Y : FP} {A A' Ac : List VP} {L L' : List (List SP)}
  {d : Nat} {op : Op} {ty : TypeId} {pos : String} {af : Array Edge} {gd : Option (Nat × Bool)} {v : Value}

/-- The lists' bound: what may be appended to; a longer one ends the plain function with none. -/
def fits (n b : Nat) : Bool := decide (n * b ≤ 140737488355328)

theorem src_cast {s1 s2 m : Nat} {tx : TypeId} {x : Value} {news : List Value} (e : s1 = s2) (h : Src P s1 tx x m news w) : Src P s2 tx x m news w := e ▸ h
theorem row_append {α : Type} {E : TypeId} {K : Kind α} {xs ys : List α} {v x z : Value} {t tx ty : TypeId} {Z S Sy : FP} {m b : Nat} {news : List Value} (hR : rowH E K xs v w Z S) (ht : P.underlying t = some (.slice E)) (hti : TI P E z K.n b) (hzs : z.cells.size = K.n) (hb : 0 < b) (hfit : fits (xs.length + ys.length) b = true)
    (hsrc : Src P K.n tx x m news w) (hm : m = ys.length) (hE : EO K w Z ys Sy news) (hZS : ∀ b, Z b → ¬ S b) (hZ : ∀ b, Z b → b < w.heap.size) (hS : ∀ b, S b → b < w.heap.size) (hSy : ∀ b, Sy b → b < w.heap.size) (hSS : ∀ b, S b → ¬ Sy b) :
    ∃ p c w', (Builtin.append_ #[t, tx] ty #[v, x]).run P w = .ok (.slice p (xs ++ ys).length c) w' ∧ Chg w w' S ∧ ∃ S', rowH E K (xs ++ ys) (.slice p (xs ++ ys).length c) w' Z S' ∧ ∀ b, S' b → S b ∨ Sy b ∨ (w.heap.size ≤ b ∧ b < w'.heap.size) := by
  subst hm
  have hfit' : (xs.length + ys.length) * b ≤ 140737488355328 := by simpa [fits] using hfit
  have hlen : xs.length + ys.length ≤ 140737488355328 := Nat.le_trans (Nat.le_mul_of_pos_right _ hb) hfit'
  obtain ⟨i, hi, hz, hn, hby⟩ := hti.out
  have hsrc' := src_cast hn.symm hsrc
  have hnl := EO_len hE
  -- the old elements
  have hold : ∃ g0 off cap olds So, v = .slice g0 xs.length cap ∧ EO K w Z xs So olds ∧ (∀ b, So b → S b) ∧ (Builtin.firstCells i.size xs.length v).run P w.drew = .ok olds.toArray w.drew ∧
      (xs.length + ys.length ≤ cap → ys = [] ∧ xs = [] ∧ cap = 0 ∨ ∃ g pre post, g0 = some ⟨g, off, none⟩ ∧ S g ∧ ¬ So g ∧ w.heap[g]? = some (.cells (pre ++ olds ++ post).toArray E (0, 0)) ∧ pre.length = off ∧ (cap - xs.length) * K.n ≤ post.length ∧ cap ≤ maxLen) := by
    rcases hR with ⟨⟨q, e⟩, rfl⟩ | ⟨g, off, cap, pre, el, post, e, hg, hh, ho, hl, hp, hmx, S', h1, h2, hE0⟩
    · obtain rfl := (List.cons.inj e).1
      refine ⟨q, 0, 0, [], Nil, rfl, rfl, fun _ h => h.elim, by cases q <;> simp [Builtin.firstCells, loadCells, loadCellsFrom], fun h => .inl ⟨?_, rfl, rfl⟩⟩
      have : ys.length = 0 := by simpa using h
      exact List.eq_nil_of_length_eq_zero this
    · obtain rfl := (List.cons.inj e).1
      refine ⟨_, off, cap, el, S', rfl, hE0, h1, ?_, fun _ => .inr ⟨g, pre, post, rfl, hg, h2, hh, ho, hp, hmx⟩⟩
      refine run_firstCells_some w.drew i.size xs.length ⟨g, off, none⟩ xs.length cap el (by rw [hn, EO_len hE0]) fun j u hu => ?_
      rw [addr_add, World.cell?_drew]
      have hlt : j < el.length := (List.getElem?_eq_some_iff.1 hu).1
      simp only [World.cell?, hh, Option.isSome_none, Bool.false_eq_true, if_false, List.getElem?_toArray]
      rw [List.getElem?_append_left (by simp; omega), List.getElem?_append_right (by omega), ← hu]
      congr 1
      omega
  obtain ⟨g0, off, cap, olds, So, rfl, hEo, hSo, hcells, hroom⟩ := hold
  have hol := EO_len hEo
  by_cases hc : xs.length + ys.length ≤ cap
  · rcases hroom hc with ⟨hy, hx0, hc0⟩ | ⟨g, pre, post, rfl, hg, hng, hh, ho, hp, hmx⟩
    · subst hy hx0 hc0
      have hr : (Builtin.append_ #[t, tx] ty #[.slice g0 0 0, x]).run P w = .ok (.slice g0 0 0) w := by
        have h1 := hsrc'.cells
        have h2 := hsrc'.len
        have h3 : news = [] := List.eq_nil_of_length_eq_zero (by rw [hnl]; simp)
        subst h3
        simp only [List.length_nil] at h1 h2
        rcases hsrc.kind with ⟨e', hk⟩ | hk <;> cases g0 <;> simp [Builtin.append_, run_underlying ht, run_underlying hk, sizeOf, typeInfo, hi, h1, h2, storeCells]
      exact ⟨g0, 0, w, hr, Chg.refl _ _, S, .inl ⟨⟨g0, rfl⟩, rfl⟩, fun b hb => .inl hb⟩
    · have hgrow : ys.length * K.n ≤ post.length := Nat.le_trans (Nat.mul_le_mul_right _ (by omega)) hp
      have hst := run_storeCells_at P g (off + xs.length * K.n) E news 0 (pre ++ olds ++ post).toArray w hh (by simp; omega) hsrc.one
      simp only [Nat.add_zero] at hst
      have hr : (Builtin.append_ #[t, tx] ty #[.slice (some ⟨g, off, none⟩) xs.length cap, x]).run P w = .ok (.slice (some ⟨g, off, none⟩) (xs.length + ys.length) cap)
          (w.setRow g ((pre ++ olds ++ post).toArray.toList.take (off + xs.length * K.n) ++ news ++ (pre ++ olds ++ post).toArray.toList.drop (off + xs.length * K.n + news.length)).toArray) := by
        rcases hsrc.kind with ⟨e', hk⟩ | hk <;> simp [Builtin.append_, run_underlying ht, run_underlying hk, sizeOf, typeInfo, hi, hsrc.len, hc, hsrc.cells, addr_add, hn] <;> simp at hst <;> rw [hst] <;> rfl
      have hX : ((pre ++ olds ++ post).toArray.toList.take (off + xs.length * K.n) ++ news ++ (pre ++ olds ++ post).toArray.toList.drop (off + xs.length * K.n + news.length)) = pre ++ (olds ++ news) ++ post.drop news.length := by
        have hpl : (pre ++ olds).length = off + xs.length * K.n := by simp; omega
        rw [← hpl, List.take_append, List.take_of_length_le (Nat.le_refl _), Nat.sub_self, List.take_zero, List.append_nil, List.drop_append, List.drop_of_length_le (by omega), Nat.add_sub_cancel_left]
        simp [List.append_assoc]
      rw [hX] at hr
      refine ⟨some ⟨g, off, none⟩, cap, _, by rw [List.length_append]; exact hr, Chg.setRow _ hg, fun b => b = g ∨ So b ∨ Sy b, .inr ⟨g, off, cap, pre, olds ++ news, post.drop news.length, rfl, .inl rfl, setRow_heap w g _ _ E (0, 0) hh, ho, by rw [List.length_append]; exact hc, ?_, hmx, fun b => So b ∨ Sy b, fun b h => .inr h, fun h => h.elim hng (hSS g hg), ?_⟩, fun b hb => ?_⟩
      · rw [List.length_append, List.length_drop, hnl]
        have : (cap - (xs.length + ys.length)) * K.n + ys.length * K.n ≤ post.length := by
          rw [← Nat.add_mul]
          exact Nat.le_trans (Nat.mul_le_mul_right _ (by omega)) hp
        omega
      · have ag : ∀ T : FP, ¬ T g → Agree w (w.setRow g (pre ++ (olds ++ news) ++ post.drop news.length).toArray) T := fun T hT b hb => setRow_other w g b _ (fun e => hT (e ▸ hb))
        exact EO_append (EO_loc (ag Z (fun h => hZS g h hg)) (ag So hng) hEo) (EO_loc (ag Z (fun h => hZS g h hg)) (ag Sy (hSS g hg)) hE) (fun b h => hSS b (hSo b h)) (fun b h => .inl h) (fun b h => .inr h)
      · rcases hb with rfl | hb | hb
        · exact .inl hg
        · exact .inl (hSo b hb)
        · exact .inr (.inl hb)
  · have hfit2 := growslice_fits (old := cap) (by omega : cap < xs.length + ys.length) hfit'
    rw [← hby] at hfit2
    have hr := run_append_grow_src (P := P) w t tx ty E i z ht hi hz g0 xs.length cap olds hcells x ys.length news hsrc' (by omega) (by omega) hfit2
    have hge := grownCap_ge w (xs.length + ys.length) cap E
    have hle := grownCap_le_maxLen w (xs.length + ys.length) cap E (by simp only [maxLen]; omega)
    generalize grownCap w (xs.length + ys.length) cap E = nc at *
    have ag : ∀ {T : FP}, (∀ b, T b → b < w.heap.size) → Agree w (w.drew.alloc (.cells ((olds ++ news).toArray ++ Builtin.zeroCells z.cells (nc - (xs.length + ys.length))) E)) T := fun hT b hb => Below.heap_alloc w.drew _ b (hT b hb)
    have hnot : ∀ {T : FP}, (∀ b, T b → b < w.heap.size) → ¬ T w.heap.size := fun hT h => Nat.lt_irrefl _ (hT _ h)
    refine ⟨_, nc, _, by rw [List.length_append]; exact hr, (Chg.drew w S).trans (Chg.alloc _ _ Nil) (fun _ h => h.elim), fun b => b = w.heap.size ∨ So b ∨ Sy b, .inr ⟨w.heap.size, 0, nc, [], olds ++ news, (Builtin.zeroCells z.cells (nc - (xs.length + ys.length))).toList, rfl, .inl rfl, ?_, rfl, by rw [List.length_append]; exact hge, ?_, hle, fun b => So b ∨ Sy b, fun b h => .inr h, fun h => h.elim (hnot fun b h => hS b (hSo b h)) (hnot hSy), ?_⟩, ?_⟩
    · have := heap_alloc_new w.drew (.cells ((olds ++ news).toArray ++ Builtin.zeroCells z.cells (nc - (xs.length + ys.length))) E)
      rw [World.size_drew] at this
      rw [this]
      congr 2
      apply Array.ext'
      simp
    · have e : ∀ k, ((Builtin.zeroCells z.cells k).toList).length = k * K.n := fun k => by rw [← hzs, ← size_zeroCells, Array.length_toList]
      rw [List.length_append, e]
      exact Nat.le_refl _
    · exact EO_append (EO_loc (ag hZ) (ag fun b h => hS b (hSo b h)) hEo) (EO_loc (ag hZ) (ag hSy) hE) (fun b h => hSS b (hSo b h)) (fun b h => .inl h) (fun b h => .inr h)
    · intro b hb
      rcases hb with rfl | hb | hb
      · refine .inr (.inr ⟨Nat.le_refl _, ?_⟩)
        show w.heap.size < (w.heap.push _).size
        simp
      · exact .inl (hSo b hb)
      · exact .inr (.inl hb)

/-- How an appended slice is read, and what its elements own. -/
def SrcOf {α : Type} (K : Kind α) (ys : List α) (x : Value) (w : World) (Z S : FP) : Prop := ∀ (P : Program) (tx e' : TypeId), P.underlying tx = some (.slice e') → ∃ news, Src P K.n tx x ys.length news w ∧ EO K w Z ys S news
theorem srcOf_cells {α : Type} {K : Kind α} {ys : List α} {g off c : Nat} {news : List Value} {Z S : FP} (hE : EO K w Z ys S news) (hc : ∀ j u, news[j]? = some u → w.cell? ⟨g, off + j, none⟩ = some u) : SrcOf K ys (.slice (some ⟨g, off, none⟩) ys.length c) w Z S :=
  fun _ _ _ hk => ⟨news, Src.ofSlice w hk ⟨g, off, none⟩ ys.length c news (EO_len hE) (fun j u hu => by rw [addr_add]; exact hc j u hu) (ER_one (EO_ER hE)), hE⟩
theorem row_cells {g off : Nat} {pre el post : List Value} {T : TypeId} {fr : Nat × Nat} (hh : w.heap[g]? = some (.cells (pre ++ el ++ post).toArray T fr)) (ho : pre.length = off) : ∀ j u, el[j]? = some u → w.cell? ⟨g, off + j, none⟩ = some u := fun j u hu => by
  have hlt : j < el.length := (List.getElem?_eq_some_iff.1 hu).1
  simp only [World.cell?, hh, Option.isSome_none, Bool.false_eq_true, if_false, List.getElem?_toArray]
  rw [List.getElem?_append_left (by simp; omega), List.getElem?_append_right (by omega), ← hu]
  congr 1
  omega
/-- What is read, where the elements lead nowhere (f), or to what is shared. -/
theorem srcOf_read {α : Type} {K J : Kind α} {ys : List α} {x : Value} {Z T S : FP} (h : sliceR K w T ys [x]) (f : ∀ cs, ER K w ys T cs → EO J w Z ys S cs) : SrcOf J ys x w Z S := by
  obtain ⟨p, c, e, _, _, _, hh⟩ := h
  obtain rfl := (List.cons.inj e).1
  rcases ys with _ | ⟨y, ys⟩
  · cases p with
    | none => exact fun _ _ _ hk => ⟨[], Src.ofNil w hk c, rfl⟩
    | some q => exact fun _ _ _ hk => ⟨[], Src.ofSlice w hk q 0 c [] (by simp) (fun j u hu => by simp at hu) (fun _ h => by cases h), rfl⟩
  · obtain ⟨g, off, pre, el, post, T', fr, rfl, _, hb, hpre, hE⟩ := hh (by simp)
    exact srcOf_cells (f _ hE) (row_cells hb hpre)
/-- append. -/
theorem wl_append {α : Type} {Et e' t tx : TypeId} {K : Kind α} {s x : Operand} {xs ys : List α} {vs vx z : Value} {b : Nat} {Ny Lr : List (List SP)} (E : Env n a l) (H : St w0 M Y w A L) (hw : Wanted ops a ⟨some d, .call ⟨.builtin .append, #[s, x], #[t, tx]⟩, ty, pos, af, gd⟩)
    (hs : opv l s = some vs) (hx : opv l x = some vx) (hp : Pick L ([row Et K xs vs] :: Ny) Lr) (ht : P.underlying t = some (.slice Et)) (htx : P.underlying tx = some (.slice e')) (hti : TI P Et z K.n b) (hzs : z.cells.size = K.n) (hb : 0 < b) (hfit : fits (xs.length + ys.length) b = true) (hd : Nat.blt d n = true)
    (hsrc : ∀ Z S Sy, argHolds w A Z → Holds w Z L S → Holds w Z Ny Sy → SrcOf K ys vx w Z Sy)
    (h : ∀ p m c w' a', Env n a' ((d, .slice p m c) :: l) → St w0 M Y w' A ([row Et K (xs ++ ys) (.slice p m c)] :: Lr) → κ a' w') :
    Step P ops Q ⟨some d, .call ⟨.builtin .append, #[s, x], #[t, tx]⟩, ty, pos, af, gd⟩ κ a w := by
  obtain ⟨hc, Z, S, h1, h2, h3, h4, h5, h6⟩ := H
  obtain ⟨Sc, Sr, e1, e2, ed, ⟨S1, S2, g1, g2, gd1, ⟨hR, _⟩, k2⟩, kr⟩ := Holds_pick hp h2
  obtain ⟨news, hsr, hE⟩ := hsrc Z S S2 h1 h2 k2 P tx e' htx
  obtain ⟨p, c, w', hr, hch, S', hR', hS'⟩ := row_append (ty := ty) hR ht hti hzs hb hfit hsr rfl hE (fun b hz hb => h3 b hz (e1 b (g1 b hb))) h4 (fun b hb => (h5 b (e1 b (g1 b hb))).1) (fun b hb => (h5 b (e1 b (g2 b hb))).1) gd1
  refine wl_val (v := .slice p (xs ++ ys).length c) (w' := w') E hw ?_ hd fun a' E' => h p _ c w' a' E' (St.callG (A' := []) (N := [[row Et K (xs ++ ys) (.slice p (xs ++ ys).length c)]]) hc h1 h3 h4 h5 h6 e1 e2 ed kr ⟨hch.mono g1, Nil, S', trivial, ⟨S', Nil, fun _ h => h, fun _ h => h.elim, fun _ _ h => h.elim, ⟨(kSlice Et K).monoO (fun b h => .inl h) (fun _ h => h) hR', trivial⟩, trivial⟩, fun _ h => h.elim, fun _ h => h.elim, fun b hb => ?_⟩)
  · simp [execOp, resolve, E.eval hs, E.eval hx, invoke, builtin, hr]
  · rcases hS' b hb with h | h | h
    · exact ⟨Nat.lt_of_lt_of_le (h5 b (e1 b (g1 b h))).1 hch.size, .inr (g1 b h)⟩
    · exact ⟨Nat.lt_of_lt_of_le (h5 b (e1 b (g2 b h))).1 hch.size, .inr (g2 b h)⟩
    · exact ⟨h.2, .inl h.1⟩
end
end Go.Gx

/- Tests, loops, the begin and the end of a function's walk; what is made; cuts of slices. -/
namespace Go.Gx
open Go.RowKit
section
variable {P : Program} {ops : Array Oper} {rest : List Oper} {Q : Exit → Act → World → Prop} {κ : Act → World → Prop} {a : Act} {w w0 w' : World} {n : Nat} {l : List (Nat × Value)} {M Y : FP} {A A' Ac : List VP} {L L' : List (List SP)}
  {d : Nat} {op : Op} {ty : TypeId} {pos : String} {af : Array Edge} {gd : Option (Nat × Bool)} {v : Value}

/-! ### Code -/
theorem wc_cond {c : Operand} {x y : Code} {b : Bool} (E : Env n a l) (hc : opv l c = some (.bool b)) (ht : b = true → x.wp P Q a w) (hf : b = false → y.wp P Q a w) : (Code.cond c x y).wp P Q a w :=
  wp_cond_split (E.eval hc) ht hf
theorem wc_true {c : Operand} {x y : Code} (E : Env n a l) (hc : opv l c = some (.bool true)) (ht : x.wp P Q a w) : (Code.cond c x y).wp P Q a w := wp_cond_true (E.eval hc) ht
theorem wc_false {c : Operand} {x y : Code} (E : Env n a l) (hc : opv l c = some (.bool false)) (hf : y.wp P Q a w) : (Code.cond c x y).wp P Q a w := wp_cond_false (E.eval hc) hf
theorem wc_T {c : Operand} {x y : Code} {b : Bool} (E : Env n a l) (hc : opv l c = some (.bool b)) (hb : b = true) (ht : x.wp P Q a w) : (Code.cond c x y).wp P Q a w := by subst hb; exact wc_true E hc ht
theorem wc_F {c : Operand} {x y : Code} {b : Bool} (E : Env n a l) (hc : opv l c = some (.bool b)) (hb : b = false) (hf : y.wp P Q a w) : (Code.cond c x y).wp P Q a w := by subst hb; exact wc_false E hc hf
theorem then_normal {K : Act → World → Prop} (h : K a w) : Exit.then K Q .normal a w := h
theorem then_exit {K : Act → World → Prop} {id : Nat} (h : Q (.exit id) a w) : Exit.then K Q (.exit id) a w := h
theorem then_ret {K : Act → World → Prop} (h : Q .ret a w) : Exit.then K Q .ret a w := h
theorem block_normal {id : Nat} (h : Q .normal a w) : Exit.inBlock id Q .normal a w := h
theorem block_ret {id : Nat} (h : Q .ret a w) : Exit.inBlock id Q .ret a w := h
theorem block_exit {id : Nat} (h : Q .normal a w) : Exit.inBlock id Q (.exit id) a w := by simp only [Exit.inBlock, if_true]; exact h
theorem block_other {id id' : Nat} (hne : Nat.beq id' id = false) (h : Q (.exit id') a w) : Exit.inBlock id Q (.exit id') a w := by
  have : id' ≠ id := fun e => by subst e; simp at hne
  simp only [Exit.inBlock, if_neg this]; exact h
/-- The plain function's tests and steps. -/
theorem bs {α β : Type} {x : Option α} {f : α → Option β} {r : β} (h : x.bind f = some r) : ∃ y, x = some y ∧ f y = some r := Option.bind_eq_some_iff.1 h
theorem itT {α : Type} {b : Bool} {x y : Option α} {r : α} (hb : b = true) (h : (if b = true then x else y) = some r) : x = some r := by rwa [if_pos hb] at h
theorem itF {α : Type} {b : Bool} {x y : Option α} {r : α} (hb : b = false) (h : (if b = true then x else y) = some r) : y = some r := by rwa [if_neg (by simp [hb])] at h
/-- A check of the plain function: none where it fails. -/
def ck {α : Type} (c : Prop) [Decidable c] (x : Option α) : Option α := if c then x else none
theorem ck_out {α : Type} {c : Prop} [Decidable c] {x : Option α} {r : α} (h : ck c x = some r) : c ∧ x = some r := by
  unfold ck at h
  split at h
  · exact ⟨‹_›, h⟩
  · cases h
def allLk (l : List (Nat × Value)) : List (Nat × Value) → Prop
  | [] => True
  | p :: r => lk l p.1 = some p.2 ∧ allLk l r
theorem Env.pick (E : Env n a l) {l' : List (Nat × Value)} (h : allLk l l') : Env n a l' := by
  refine E.sub ?_
  induction l' with
  | nil => intro p hp; cases hp
  | cons q r ih =>
    intro p hp
    rcases List.mem_cons.1 hp with rfl | hp
    · exact h.1
    · exact ih h.2 p hp
theorem St.front {N : List (List SP)} (H : St w0 M Y w A (L ++ N)) : St w0 M Y w A L := by
  obtain ⟨hc, Z, S, h1, h2, h3⟩ := H
  refine ⟨hc, Z, S, h1, ?_, h3⟩
  clear h3
  induction L generalizing S with
  | nil => trivial
  | cons I L ih =>
    obtain ⟨S1, S2, e1, e2, ed, k1, k2⟩ := h2
    exact ⟨S1, S2, e1, e2, ed, k1, ih S2 k2⟩
theorem St.sel (H : St w0 M Y w A L) (f : ∀ Z, argHolds w A Z → argHolds w A' Z) : St w0 M Y w A' L := by
  obtain ⟨hc, Z, S, h1, h2⟩ := H
  exact ⟨hc, Z, S, f Z h1, h2⟩
theorem Holds_row {α : Type} {K : Kind α} {x : α} {cs : List Value} {I : List SP} {i : Nat} {Z S : FP} (h : Holds w Z L S) (hi : L[i]? = some (ow K x cs :: I)) : K.R w (fun b => Z b ∨ S b) x cs := by
  obtain ⟨S1, _, h1, _, _, ⟨hR, _⟩, _⟩ := Holds_get h hi
  exact K.monoR (fun b hb => hb.imp id (h1 b)) (K.OR hR)
theorem nil_view {α : Type} (E : TypeId) (K : Kind α) (w : World) (Z : FP) : (kSlice E K).R w Z ([] : List α) [.slice none 0 0] := ⟨none, 0, rfl, Nat.le_refl _, Nat.zero_le _, fun _ => rfl, fun h => absurd rfl h⟩
/-- In the loop, ahead of a round. -/
def LoopW (P : Program) (c : Code) (Q : Exit → Act → World → Prop) (a : Act) (w : World) : Prop :=
  ∀ (b : Frame) (k : List Item) (cs : List Frame), ∃ e a' w', Q e a' w' ∧ Arrives P (lone (b.at a (.code c :: .inLoop c :: k)) cs w) b k cs e a' w'
theorem wp_of_loopW {c : Code} (h : LoopW P c Q a w) : (Code.loop c).wp P Q a w := fun b k cs =>
  let ⟨e, a', w', hq, harr⟩ := h b k cs
  ⟨e, a', w', hq, .of_steps (.one step_loop) harr⟩
theorem loopW_round {c : Code} (h : c.wp P (Exit.then (LoopW P c Q) Q) a w) : LoopW P c Q a w := by
  intro b k cs
  obtain ⟨e, a₁, w₁, hq, harr⟩ := h b (.inLoop c :: k) cs
  cases e with
  | normal =>
    obtain ⟨e₂, a₂, w₂, hq₂, harr₂⟩ := hq b k cs
    exact ⟨e₂, a₂, w₂, hq₂, .of_steps (Steps.trans harr (.one step_inLoop)) harr₂⟩
  | exit id => exact ⟨_, a₁, w₁, hq, .pass (x := .inLoop c) rfl (fun _ _ => .inl (by simp)) harr⟩
  | goto l => exact ⟨_, a₁, w₁, hq, .pass (x := .inLoop c) rfl (fun _ _ => .inl (by simp)) harr⟩
  | ret => exact ⟨_, a₁, w₁, hq, .pass (x := .inLoop c) rfl (fun _ _ => .inl (by simp)) harr⟩
  | panic ch => exact ⟨_, a₁, w₁, hq, .pass (x := .inLoop c) rfl (fun _ _ => .inl (by simp)) harr⟩
  | outgrown => exact ⟨_, a₁, w₁, hq, .pass (x := .inLoop c) rfl (fun _ _ => .inl (by simp)) harr⟩

/-! ### The begin -/
def enumA : Nat → List Value → List (Nat × Value)
  | _, [] => []
  | i, v :: r => (i, v) :: enumA (i + 1) r
theorem lk_enumA : ∀ (r : List Value) (i j : Nat) (v : Value), lk (enumA i r) j = some v → i ≤ j ∧ r[j - i]? = some v
  | [], _, _, _, h => by simp [enumA, lk] at h
  | u :: r, i, j, v, h => by
    simp only [enumA, lk] at h
    cases hb : Nat.beq i j with
    | true =>
      rw [hb] at h
      obtain rfl := Nat.eq_of_beq_eq_true hb
      exact ⟨Nat.le_refl _, by simpa using h⟩
    | false =>
      rw [hb] at h
      obtain ⟨h1, h2⟩ := lk_enumA r (i + 1) j v (by simpa using h)
      refine ⟨by omega, ?_⟩
      rw [show j - i = (j - (i + 1)) + 1 by omega]
      simpa using h2
theorem Env.init {fn : Func} {args : List Value} (hn : fn.ntmps = n) (hle : Nat.ble args.length n = true) : Env n ({ tmps := args.toArray ++ Array.replicate (fn.ntmps - args.toArray.size) undef, defers := [] } : Act) (enumA 0 args) := by
  have hle' := Nat.le_of_ble_eq_true hle
  refine ⟨by simp [hn]; omega, rfl, fun i v h => ?_⟩
  obtain ⟨_, h2⟩ := lk_enumA args 0 i v h
  have h3 : args[i]? = some v := by simpa using h2
  have hlt : i < args.length := (List.getElem?_eq_some_iff.1 h3).1
  rw [Array.getElem?_append_left (by simpa using hlt)]
  simpa using h3
theorem funG_begin {f : FuncId} {fn : Func} {c : Code} {args : List Value} {Lc : List (List SP)} {τ : Type} {v : τ → Value} {A' : τ → List VP} {N : τ → List (List SP)} (hf : P.funcs[f]? = some fn) (hb : fn.body = some c) (hn : fn.ntmps = n) (hle : Nat.ble args.length n = true)
    (h : ∀ w Z S a, Env n a (enumA 0 args) → St w S Z w Ac Lc → c.wp P (bodyPost P fn fun e w2 => ∃ t, e = .returned (v t) ∧ PostG w w2 S Z (A' t) (N t)) a w) : FunG P f args.toArray Ac Lc v A' N := by
  intro w Z S hZ hS hZS hA hL
  exact calls_of_wp hf hb (h w Z S _ (Env.init hn hle) ⟨Chg.refl _ _, Z, S, hA, hL, hZS, hZ, fun b hb => ⟨hS b hb, .inr hb⟩, fun b hb => .inl hb⟩)

/-! ### The end -/
def rvSem (tmps : Array Value) : ResultVar → Sem Value
  | .tmp t => pure (tmps.getD t undef)
  | .cell x t => do loadVar t (← asAddr (tmps.getD x undef))
abbrev RV (P : Program) (w : World) (a : Act) (r : ResultVar) (v : Value) : Prop := (rvSem a.tmps r).run P w = .ok v w
theorem rv_tmp (E : Env n a l) {t : Nat} (h : lk l t = some v) : RV P w a (.tmp t) v := by
  simp [RV, rvSem, E.get t v h]
theorem rv_cell1 (E : Env n a l) {x T g : Nat} {df : TypeDesc} {cs : List Value} {T' : TypeId} (hx : lk l x = some (.pointer (some ⟨g, 0, none⟩))) (hu : P.underlying T = some df) (hag : aggD df = false) (hb : ∃ Z S, (blk g cs T').holds w Z S) (hv : cs[0]? = some v) : RV P w a (.cell x T) v := by
  simp [RV, rvSem, E.get x _ hx, asAddr, loadVar, run_isAgg hu, hag, blk_cell hb hv]
theorem rv_cellN (E : Env n a l) {x T g m b : Nat} {df : TypeDesc} {z : Value} {cs : List Value} {T' : TypeId} (hx : lk l x = some (.pointer (some ⟨g, 0, none⟩))) (hu : P.underlying T = some df) (hag : aggD df = true) (hti : TI P T z m b) (hb : ∃ Z S, (blk g cs T').holds w Z S) (hm : cs.length = m) : RV P w a (.cell x T) (.agg cs.toArray) := by
  have := run_load_cells (P := P) (w := w) g 0 cs fun j v hj => by rw [Nat.zero_add]; exact blk_cell hb hj
  rw [hm] at this
  simp [RV, rvSem, E.get x _ hx, asAddr, loadVar, run_isAgg hu, hag, hti.sizeOf, this]
theorem results_eq (fn : Func) (tmps : Array Value) : results fn tmps = (do let vs ← fn.results.mapM (rvSem tmps); pure (if h : vs.size = 1 then vs[0] else .tuple vs)) := by
  unfold results
  congr 1
theorem wb_ret0 {fn : Func} {R : Ending → World → Prop} (E : Env n a l) (hrs : fn.results = #[]) (h : R (.returned (.tuple #[])) w) : bodyPost P fn R .ret a w :=
  ⟨E.defers, .tuple #[], by rw [results_eq, hrs]; simp, h⟩
theorem wb_end0 {fn : Func} {R : Ending → World → Prop} (E : Env n a l) (hrs : fn.results = #[]) (h : R (.returned (.tuple #[])) w) : bodyPost P fn R .normal a w :=
  ⟨E.defers, .tuple #[], by rw [results_eq, hrs]; simp, h⟩
theorem wb_ret1 {fn : Func} {R : Ending → World → Prop} {r1 : ResultVar} {v1 : Value} (E : Env n a l) (hrs : fn.results = #[r1]) (h1 : RV P w a r1 v1) (h : R (.returned v1) w) : bodyPost P fn R .ret a w :=
  ⟨E.defers, v1, by rw [results_eq, hrs]; simp [RV] at h1; simp [h1], h⟩
theorem wb_ret2 {fn : Func} {R : Ending → World → Prop} {r1 r2 : ResultVar} {v1 v2 : Value} (E : Env n a l) (hrs : fn.results = #[r1, r2]) (h1 : RV P w a r1 v1) (h2 : RV P w a r2 v2) (h : R (.returned (.tuple #[v1, v2])) w) : bodyPost P fn R .ret a w :=
  ⟨E.defers, .tuple #[v1, v2], by rw [results_eq, hrs]; simp [RV] at h1 h2; simp [h1, h2], h⟩
theorem wb_ret3 {fn : Func} {R : Ending → World → Prop} {r1 r2 r3 : ResultVar} {v1 v2 v3 : Value} (E : Env n a l) (hrs : fn.results = #[r1, r2, r3]) (h1 : RV P w a r1 v1) (h2 : RV P w a r2 v2) (h3 : RV P w a r3 v3) (h : R (.returned (.tuple #[v1, v2, v3])) w) : bodyPost P fn R .ret a w :=
  ⟨E.defers, .tuple #[v1, v2, v3], by rw [results_eq, hrs]; simp [RV] at h1 h2 h3; simp [h1, h2, h3], h⟩
theorem wb_ret4 {fn : Func} {R : Ending → World → Prop} {r1 r2 r3 r4 : ResultVar} {v1 v2 v3 v4 : Value} (E : Env n a l) (hrs : fn.results = #[r1, r2, r3, r4]) (h1 : RV P w a r1 v1) (h2 : RV P w a r2 v2) (h3 : RV P w a r3 v3) (h4 : RV P w a r4 v4) (h : R (.returned (.tuple #[v1, v2, v3, v4])) w) : bodyPost P fn R .ret a w :=
  ⟨E.defers, .tuple #[v1, v2, v3, v4], by rw [results_eq, hrs]; simp [RV] at h1 h2 h3 h4; simp [h1, h2, h3, h4], h⟩

/-! ### Literals and what is made -/
theorem wl_buildSlice {T e : TypeId} {k m b : Nat} {parts : Array (Nat × Operand)} {ps : List (Nat × Value)} {cs : List Value} {z : Value} (E : Env n a l) (H : St w0 M Y w A L) (hw : Wanted ops a ⟨some d, .buildSlice T k parts, ty, pos, af, gd⟩) (hu : P.underlying T = some (.slice e)) (hti : TI P e z m b)
    (hps : parts.toList.map (fun p => (p.1, opv l p.2)) = ps.map (fun p => (p.1, some p.2))) (hsm : Nat.ble (k * m) 16777216 = true)
    (hfill : Instr.fill (fun i => some (i * m, m)) ((Array.range (k * m)).map ((if k * m = 0 then #[] else z.cells)[· % (if k * m = 0 then #[] else z.cells).size]!)) ps = some cs.toArray) (hd : Nat.blt d n = true)
    (h : ∀ g w' a', Env n a' ((d, .slice (some ⟨g, 0, none⟩) k k) :: l) → St w0 M Y w' A ([blk g cs e] :: L) → κ a' w') : Step P ops Q ⟨some d, .buildSlice T k parts, ty, pos, af, gd⟩ κ a w := by
  have e1 : parts.map (fun x => (x.1, a.eval x.2)) = ps.toArray := by
    apply Array.ext'
    rw [Array.toList_map]
    have : ∀ (ys : List (Nat × Operand)) (zs : List (Nat × Value)), ys.map (fun p => (p.1, opv l p.2)) = zs.map (fun p => (p.1, some p.2)) → ys.map (fun p => (p.1, a.eval p.2)) = zs := by
      intro ys
      induction ys with
      | nil => intro zs h; cases zs with | nil => rfl | cons _ _ => simp at h
      | cons y ys ih =>
        intro zs h
        cases zs with
        | nil => simp at h
        | cons z zs =>
          simp only [List.map_cons, List.cons.injEq, Prod.mk.injEq] at h
          rw [List.map_cons, ih zs h.2, h.1.1, E.eval h.1.2]
    exact this _ _ hps
  have hsm' : ¬ (k * m > 2 ^ 24) := by have := Nat.le_of_ble_eq_true hsm; omega
  refine wl_val (v := .slice (some ⟨w.heap.size, 0, none⟩) k k) (w' := w.alloc (.cells cs.toArray e)) E hw ?_ hd fun a' E' => h w.heap.size _ a' E' (H.news (Chg.alloc _ _ _) (blk_new cs e w))
  by_cases hk : k * m = 0
  · rw [if_pos hk] at hfill
    simp only [execOp, Instr.buildSlice, e1, Sem.run_bind, run_underlying hu, Result.andThen_ok, hti.sizeOf, Sem.run_ite, if_neg hsm', Sem.run_pure, if_pos hk, hfill, newRow, run_newObj, World.alloc_eq]
  · rw [if_neg hk] at hfill
    simp only [execOp, Instr.buildSlice, e1, Sem.run_bind, run_underlying hu, Result.andThen_ok, hti.sizeOf, Sem.run_ite, if_neg hsm', Sem.run_pure, if_neg hk, hti.zeroValue, hfill, newRow, run_newObj, World.alloc_eq]
/-- A literal's block is a row, with what its elements own. -/
theorem St.toRow {α : Type} {E : TypeId} {K : Kind α} {xs : List α} {g : Nat} {cs : List Value} {N Lr : List (List SP)} (H : St w0 M Y w A L) (hp : Pick L ([blk g cs E] :: N) Lr) (hx : Nat.ble xs.length maxLen = true) (hE : ∀ Z S, argHolds w A Z → Holds w Z N S → EO K w Z xs S cs) :
    St w0 M Y w A ([row E K xs (.slice (some ⟨g, 0, none⟩) xs.length xs.length)] :: Lr) :=
  H.melt (N := [_]) hp fun Z S hZS hA ⟨S1, S2, g1, g2, gd, ⟨⟨hg, hh⟩, _⟩, k2⟩ => ⟨S, Nil, fun _ h => h, fun _ h => h.elim, fun _ _ h => h.elim, ⟨.inr ⟨g, 0, xs.length, [], cs, [], rfl, g1 _ hg, by simpa using hh, rfl, Nat.le_refl _, by simp, Nat.le_of_ble_eq_true hx, S2, g2, gd g hg, hE Z S2 hA k2⟩, trivial⟩, trivial⟩
/-- The part of a list from i to j. -/
def cut {α : Type} (xs : List α) (i j : Int) : List α := (xs.take j.toNat).drop i.toNat
def cutOk {α : Type} (xs : List α) (i j : Int) : Prop := 0 ≤ i ∧ i ≤ j ∧ j ≤ xs.length
instance {α : Type} (xs : List α) (i j : Int) : Decidable (cutOk xs i j) := by unfold cutOk; infer_instance
theorem cut_length {α : Type} {xs : List α} {i j : Int} (h : cutOk xs i j) : (cut xs i j).length = j.toNat - i.toNat := by
  obtain ⟨_, _, h3⟩ := h
  unfold cut
  rw [List.length_drop, List.length_take]
  omega
/-- What a cut of a slice reads. -/
theorem sliceR_cut {α : Type} {K : Kind α} {xs : List α} {p : Option Addr} {m c : Nat} {Z : FP} {i j : Int} (h : sliceR K w Z xs [.slice p m c]) (hc : cutOk xs i j) :
    sliceR K w Z (cut xs i j) [.slice (if c = i.toNat then p else p.map (·.add (i.toNat * K.n))) (j.toNat - i.toNat) (c - i.toNat)] := by
  have hlen := cut_length hc
  obtain ⟨p', cap, e, hl, hm, hn, hh⟩ := h
  simp only [List.cons.injEq, Value.slice.injEq, and_true] at e
  obtain ⟨rfl, rfl, rfl⟩ := e
  obtain ⟨h0, h1, h2⟩ := hc
  refine ⟨_, _, by rw [hlen], by rw [hlen]; omega, by omega, fun h => ?_, fun hx => ?_⟩
  · split at h
    · omega
    · have := hn (by simpa using h); omega
  · have hxs : xs ≠ [] := by rintro rfl; exact hx (by simp [cut])
    have hne : (cut xs i j).length ≠ 0 := fun h => hx (List.eq_nil_of_length_eq_zero h)
    obtain ⟨g, off, pre, el, post, T, fr, rfl, hg, hb, hpre, hE⟩ := hh hxs
    have hsp : xs = xs.take i.toNat ++ (cut xs i j ++ xs.drop j.toNat) := by
      have e1 : cut xs i j ++ xs.drop j.toNat = xs.drop i.toNat := by
        unfold cut
        have : xs.drop i.toNat = (xs.take j.toNat ++ xs.drop j.toNat).drop i.toNat := by rw [List.take_append_drop]
        rw [this, List.drop_append_of_le_length (by rw [List.length_take]; omega)]
      rw [e1, List.take_append_drop]
    rw [hsp] at hE
    obtain ⟨c1, c2, rfl, k1, k2⟩ := ER_split hE
    obtain ⟨c3, c4, rfl, k3, k4⟩ := ER_split k2
    have hl1 := ER_len k1
    have htl : (xs.take i.toNat).length = i.toNat := by rw [List.length_take]; omega
    refine ⟨g, off + i.toNat * K.n, pre ++ c1, c3, c4 ++ post, T, fr, ?_, hg, by rw [hb]; simp [List.append_assoc], by rw [List.length_append, hl1, htl]; omega, k3⟩
    rw [if_neg (by omega)]
    simp [addr_add]
theorem rowH_cut {α : Type} {E : TypeId} {K : Kind α} {xs : List α} {p : Option Addr} {m c : Nat} {Z S : FP} {i j : Int} (h : rowH E K xs (.slice p m c) w Z S) (hc : cutOk xs i j) (hi0 : i = 0 ∨ (c : Int) ≠ i) :
    rowH E K (cut xs i j) (.slice (if c = i.toNat then p else p.map (·.add (i.toNat * K.n))) (j.toNat - i.toNat) (c - i.toNat)) w Z S := by
  have hlen := cut_length hc
  obtain ⟨h0, h1, h2⟩ := hc
  rcases h with ⟨⟨p', e⟩, rfl⟩ | ⟨g, off, cap, pre, el, post, e, hg, hh, ho, hl, hp, hm, S', hs1, hs2, hE⟩
  · simp only [List.cons.injEq, Value.slice.injEq, and_true] at e
    obtain ⟨rfl, rfl, rfl⟩ := e
    simp only [List.length_nil] at h2
    have hj : j = 0 := by omega
    have hi : i = 0 := by omega
    subst hj hi
    exact .inl ⟨⟨p, by simp⟩, by simp [cut]⟩
  · simp only [List.cons.injEq, Value.slice.injEq, and_true] at e
    obtain ⟨rfl, rfl, rfl⟩ := e
    have hsp : xs = xs.take i.toNat ++ (cut xs i j ++ xs.drop j.toNat) := by
      have e1 : cut xs i j ++ xs.drop j.toNat = xs.drop i.toNat := by
        unfold cut
        have : xs.drop i.toNat = (xs.take j.toNat ++ xs.drop j.toNat).drop i.toNat := by rw [List.take_append_drop]
        rw [this, List.drop_append_of_le_length (by rw [List.length_take]; omega)]
      rw [e1, List.take_append_drop]
    have hxl : xs.length = i.toNat + ((cut xs i j).length + (xs.drop j.toNat).length) := by rw [hlen, List.length_drop]; omega
    rw [hsp] at hE
    obtain ⟨c1, c2, T1, T2, rfl, g1, g2, gd, k1, k2⟩ := EO_split hE
    obtain ⟨c3, c4, T3, T4, rfl, g3, g4, gd2, k3, k4⟩ := EO_split k2
    have hl1 := EO_len k1
    have hl4 := EO_len k4
    have htl : (xs.take i.toNat).length = i.toNat := by rw [List.length_take]; omega
    have hdl : (xs.drop j.toNat).length = xs.length - j.toNat := by rw [List.length_drop]
    refine .inr ⟨g, off + i.toNat * K.n, c - i.toNat, pre ++ c1, c3, c4 ++ post, ?_, hg, by rw [hh]; simp [List.append_assoc], by rw [List.length_append, hl1, htl]; omega, by rw [hlen]; omega, ?_, by omega, T3, fun b h => hs1 b (g2 b (g3 b h)), fun h => hs2 (g2 g (g3 g h)), k3⟩
    · rw [hlen]
      by_cases he : c = i.toNat
      · have : i = 0 := by rcases hi0 with h | h <;> omega
        subst this
        simp at he
        subst he
        simp
      · rw [if_neg he]; simp [addr_add]
    · rw [hlen, List.length_append, hl4, hdl]
      have : (c - i.toNat - (j.toNat - i.toNat)) * K.n ≤ (xs.length - j.toNat) * K.n + (c - xs.length) * K.n := by
        rw [← Nat.add_mul]
        exact Nat.mul_le_mul_right _ (by omega)
      omega
end
end Go.Gx

/- A region whose order is drawn: what only reads is taken first; what it reads need stay as it is only as long as it may still come. -/
namespace Go.Gx
open Go.RowKit
section
variable {P : Program} {ops : Array Oper} {Q : Exit → Act → World → Prop} {κ : Act → World → Prop} {a : Act} {w w0 w' : World} {n : Nat} {l : List (Nat × Value)} {M Y : FP} {A A' Ac : List VP} {L L' : List (List SP)}
  {d : Nat} {op : Op} {ty : TypeId} {pos : String} {af : Array Edge} {gd : Option (Nat × Bool)} {v : Value} {S : World → Prop} {D Lo : List Nat}

/-- j comes behind i: an edge leads there, or several, one behind the other. -/
def anc (ops : Array Oper) : Nat → Nat → Nat → Bool
  | 0, _, _ => false
  | k + 1, j, i => match ops[j]? with | some o => o.after.any (fun e => Region.binds .any e && (e.on == i || anc ops k e.on i)) | none => false
/-- What is listed is closed: all that it comes behind is listed, too. -/
def Down (ops : Array Oper) (listed : Array Bool) : Prop := ∀ k o, ops[k]? = some o → listed.getD k false = true → ∀ e ∈ o.after, Region.binds .any e = true → listed.getD e.on false = true
def downB (ops : Array Oper) (listed : Array Bool) : Bool := (List.range ops.size).all fun k => match ops[k]? with | some o => !listed.getD k false || o.after.all (fun e => !Region.binds .any e || listed.getD e.on false) | none => true
theorem down_of {listed : Array Bool} (h : downB ops listed = true) : Down ops listed := by
  intro k o ho hk e he hb
  have hlt : k < ops.size := (Array.getElem?_eq_some_iff.1 ho).1
  have := List.all_eq_true.1 h k (List.mem_range.2 hlt)
  simp only [ho, hk, Bool.not_true, Bool.false_or] at this
  have h2 := Array.all_eq_true_iff_forall_mem.1 this e he
  simpa [hb] using h2
theorem down_step {listed : Array Bool} {j : Nat} (h : Down ops listed) (hj : j ∈ Region.ready .any ops listed) : Down ops (listed.setIfInBounds j true) := by
  intro k o ho hk e he hb
  obtain ⟨_, oj, hoj, hall⟩ := mem_ready.1 hj
  by_cases hkj : j = k
  · subst hkj
    rw [ho] at hoj
    obtain rfl := Option.some.inj hoj
    exact getD_set_true (hall e he hb)
  · rw [getD_set_ne false hkj] at hk
    exact getD_set_true (h k o ho hk e he hb)
theorem anc_listed {listed : Array Bool} (hd : Down ops listed) : ∀ (k j i : Nat), (∀ o, ops[j]? = some o → ∀ e ∈ o.after, Region.binds .any e = true → listed.getD e.on false = true) → anc ops k j i = true → listed.getD i false = true
  | 0, _, _, _, h => by simp [anc] at h
  | k + 1, j, i, hj, h => by
    simp only [anc] at h
    split at h
    · rename_i o ho
      obtain ⟨e, he, hb⟩ : ∃ e ∈ o.after, (Region.binds .any e && (e.on == i || anc ops k e.on i)) = true := by
        obtain ⟨n, hn, hb⟩ := Array.any_eq_true.1 h
        exact ⟨_, Array.getElem_mem hn, hb⟩
      simp only [Bool.and_eq_true, Bool.or_eq_true, beq_iff_eq] at hb
      have hl := hj o ho e he hb.1
      rcases hb.2 with h2 | h2
      · rw [← h2]; exact hl
      · exact anc_listed hd k e.on i (fun o2 ho2 => hd e.on o2 ho2 hl) h2
    · cases h
/-- Behind operation j something of D may still come. -/
def needs (ops : Array Oper) (D : List Nat) (j : Nat) : Bool := D.any fun i => !anc ops ops.size j i
theorem needs_no {b : Bool} (h0 : b = false) (h : b = true) : False := by rw [h0] at h; cases h
/-- Whatever order is picked: behind an operation of Lo S holds (if something of D may still come); behind any other the world is as it was. -/
def wpAnyJ (P : Program) (ops : Array Oper) (Q : Exit → Act → World → Prop) (S : World → Prop) (D Lo : List Nat) : Nat → Array Bool → Act → World → Prop
  | 0, listed, a, w => Region.ready .any ops listed = [] ∧ Q .normal a w
  | fuel + 1, listed, a, w =>
    (Region.ready .any ops listed = [] → Q .normal a w) ∧
    ∀ i ∈ Region.ready .any ops listed, wpOp P ops Q i (fun a' w' => (if i ∈ Lo then (needs ops D i = true → S w') else w' = w) ∧ wpAnyJ P ops Q S D Lo fuel (listed.setIfInBounds i true) a' w') a w
theorem wpAny_of_J : ∀ (fuel : Nat) (listed : Array Bool) (a : Act) (w : World), wpAnyJ P ops Q S D Lo fuel listed a w → wpAny P .any ops Q fuel listed a w
  | 0, _, _, _, h => h
  | fuel + 1, _, _, _, h => ⟨h.1, fun i hi => wpOp_mono (fun a' w' h' => wpAny_of_J fuel _ a' w' h'.2) (h.2 i hi)⟩
theorem not_listed {i : Nat} {listed : Array Bool} (hiun : listed.getD i true = false) (h : listed.getD i false = true) : False := by
  rcases Nat.lt_or_ge i listed.size with hlt | hge
  · have ea : listed.getD i true = listed.getD i false := by simp [hlt]
    rw [ea, h] at hiun
    cases hiun
  · have : listed.getD i true = true := by simp [Array.getElem?_eq_none hge]
    rw [this] at hiun
    cases hiun
/-- One operation is taken first: T says of a world that it yields v there; whatever comes before it keeps T. -/
theorem wpAnyJ_first {i : Nat} {oi : Oper} {v : Value} (T : World → Prop) (hi : ops[i]? = some oi) (hLo : i ∉ Lo) (hsel : ∀ (j : Nat) (o : Oper) cs b, ops[j]? = some o → o.op ≠ .select cs b)
    (hT : ∀ j, j ∈ Lo → anc ops ops.size j i = false → ∀ w', (needs ops D j = true → S w') → T w')
    (hQ : ∀ c a w, Q (.panic c) (a.put oi.dst v) w → Q (.panic c) a w) :
    ∀ (fuel : Nat) (listed : Array Bool) (a : Act) (w : World), Down ops listed →
      (∀ j oj, ops[j]? = some oj → j ≠ i → listed.getD j true = false → (∀ e ∈ oj.after, Region.binds .any e = true → e.on ≠ i) → oi.apart ops oj = true) →
      i ∈ Region.ready .any ops listed → YieldsIf P ops T oi v a → T w →
      wpAnyJ P ops Q S D Lo fuel (listed.setIfInBounds i true) (a.put oi.dst v) w → wpAnyJ P ops Q S D Lo (fuel + 1) listed a w := by
  intro fuel
  induction fuel with
  | zero =>
    intro listed a w _ _ hr hy hS H
    refine ⟨fun h => (by rw [h] at hr; cases hr), fun j hj => ?_⟩
    by_cases hji : j = i
    · subst hji; exact hy.wpOp hi hS ⟨by rw [if_neg hLo], H⟩
    · have := ready_mono hj hji
      rw [H.1] at this
      cases this
  | succ fuel ih =>
    intro listed a w hdn hfree hr hy hS H
    refine ⟨fun h => (by rw [h] at hr; cases hr), fun j hj => ?_⟩
    by_cases hji : j = i
    · subst hji; exact hy.wpOp hi hS ⟨by rw [if_neg hLo], H⟩
    · have hstep := H.2 j (ready_mono hj hji)
      obtain ⟨hjun, oj, hoj, hall⟩ := mem_ready.1 hj
      have hiun := (mem_ready.1 hr).1
      have hno : ∀ e ∈ oj.after, Region.binds .any e = true → e.on ≠ i := by
        intro e he hb heq
        have h1 := hall e he hb
        rw [heq] at h1
        exact not_listed hiun h1
      have hanc : anc ops ops.size j i = false := by
        cases hA : anc ops ops.size j i with
        | false => rfl
        | true =>
          exact (not_listed hiun (anc_listed hdn _ _ _ (fun o ho e he hb => by
            rw [hoj] at ho
            obtain rfl := Option.some.inj ho
            exact hall e he hb) hA)).elim
      have hstep2 := wpOp_putIf hoj (hfree j oj hoj hji hjun hno) (fun cs b => hsel i oi cs b hi) (fun cs b => hsel j oj cs b hoj) hQ hy hstep
      refine wpOp_mono (fun a' w' hk => ⟨hk.2.1, ?_⟩) hstep2
      have hTw : T w' := by
        have h1 := hk.2.1
        by_cases hjL : j ∈ Lo
        · rw [if_pos hjL] at h1
          exact hT j hjL hanc w' h1
        · rw [if_neg hjL] at h1
          rw [h1]; exact hS
      refine ih (listed.setIfInBounds j true) a' w' (down_step hdn hj) (fun k ok hk1 hki hun hn => ?_) (ready_mono hr (Ne.symm hji)) hk.1 hTw ?_
      · refine hfree k ok hk1 hki ?_ hn
        by_cases hjk : j = k
        · subst hjk; exact hjun
        · rw [getD_set_ne true hjk] at hun; exact hun
      · rw [Array.setIfInBounds_comm _ _ hji]
        exact hk.2.2

/-- Panics tell nothing of the slots. -/
def PanicOk (Q : Exit → Act → World → Prop) : Prop := ∀ c a d v w, Q (.panic c) (a.put d v) w → Q (.panic c) a w
theorem panic_body {fn : Func} {R : Ending → World → Prop} : PanicOk (bodyPost P fn R) := fun _ a d _ _ h => by cases d <;> exact h
theorem panic_then {K : Act → World → Prop} (h : PanicOk Q) : PanicOk (Exit.then K Q) := h
theorem panic_block {id : Nat} (h : PanicOk Q) : PanicOk (Exit.inBlock id Q) := h

theorem wa_begin {id m : Nat} (hm : P.follows .mixedOrders = true) (S : World → Prop) (D Lo : List Nat) (H : St w0 M Y w A L) (hn : ops.size = m) (h : ∀ w', St w0 M Y w' A L → wpAnyJ P ops Q S D Lo m (Array.replicate m false) a w') : (Code.region id ops true).wp P Q a w := by
  subst hn
  exact wp_region_any hm (wpAny_of_J _ _ _ _ (h _ (H.frame (Chg.drew w Nil))))
def takes (ops : Array Oper) (Lo : List Nat) (listed : Array Bool) (i : Nat) : Bool := !Lo.contains i && Region.noSelect ops && Region.free .any ops listed i && (Region.ready .any ops listed).contains i && downB ops listed
/-- What yields in whatever world. -/
theorem wa_take {i fuel : Nat} {listed : Array Bool} (E : Env n a l) (hi : ops[i]? = some ⟨some d, op, ty, pos, af, gd⟩) (hDs : takes ops Lo listed i = true)
    (hQ : PanicOk Q) (hw : Wanted ops a ⟨some d, op, ty, pos, af, gd⟩) (hr : ∀ w, (execOp a.eval ⟨some d, op, ty, pos, af, gd⟩).run P w = .ok (.value v) w) (hd : Nat.blt d n = true)
    (h : ∀ a', Env n a' ((d, v) :: l) → wpAnyJ P ops Q S D Lo fuel (listed.setIfInBounds i true) a' w) : wpAnyJ P ops Q S D Lo (fuel + 1) listed a w := by
  simp only [takes, Bool.and_eq_true] at hDs
  obtain ⟨⟨⟨⟨h1, h2⟩, h3⟩, h4⟩, h5⟩ := hDs
  exact wpAnyJ_first (fun _ => True) hi (by simpa using h1) (Region.noSelect_spec h2) (fun _ _ _ _ _ => trivial) (fun c a w h => hQ c a _ _ w h) fuel listed a w (down_of h5) (Region.free_spec hi h3) (by simpa using h4) (.inl ⟨hw, fun w _ => hr w⟩) trivial (h _ (E.put hd v))
/-- What yields where S holds. -/
theorem wa_takeS {i fuel : Nat} {listed : Array Bool} (E : Env n a l) (hi : ops[i]? = some ⟨some d, op, ty, pos, af, gd⟩) (hDs : takes ops Lo listed i = true) (hiD : D.contains i = true)
    (hQ : PanicOk Q) (hw : Wanted ops a ⟨some d, op, ty, pos, af, gd⟩) (hr : ∀ w, S w → (execOp a.eval ⟨some d, op, ty, pos, af, gd⟩).run P w = .ok (.value v) w) (hS : S w) (hd : Nat.blt d n = true)
    (h : ∀ a', Env n a' ((d, v) :: l) → wpAnyJ P ops Q S D Lo fuel (listed.setIfInBounds i true) a' w) : wpAnyJ P ops Q S D Lo (fuel + 1) listed a w := by
  simp only [takes, Bool.and_eq_true] at hDs
  obtain ⟨⟨⟨⟨h1, h2⟩, h3⟩, h4⟩, h5⟩ := hDs
  exact wpAnyJ_first S hi (by simpa using h1) (Region.noSelect_spec h2) (fun j _ hj w' hk => hk (by
    unfold needs
    exact List.any_eq_true.2 ⟨i, by simpa using hiD, by simp [hj]⟩)) (fun c a w h => hQ c a _ _ w h) fuel listed a w (down_of h5) (Region.free_spec hi h3) (by simpa using h4) (.inl ⟨hw, hr⟩) hS (h _ (E.put hd v))
/-- What yields in this world, where all that may change it comes behind. -/
theorem wa_takeU {i fuel : Nat} {listed : Array Bool} (E : Env n a l) (hi : ops[i]? = some ⟨some d, op, ty, pos, af, gd⟩) (hDs : takes ops Lo listed i = true) (hU : Lo.all (fun j => anc ops ops.size j i) = true)
    (hQ : PanicOk Q) (hw : Wanted ops a ⟨some d, op, ty, pos, af, gd⟩) (hr : (execOp a.eval ⟨some d, op, ty, pos, af, gd⟩).run P w = .ok (.value v) w) (hd : Nat.blt d n = true)
    (h : ∀ a', Env n a' ((d, v) :: l) → wpAnyJ P ops Q S D Lo fuel (listed.setIfInBounds i true) a' w) : wpAnyJ P ops Q S D Lo (fuel + 1) listed a w := by
  simp only [takes, Bool.and_eq_true] at hDs
  obtain ⟨⟨⟨⟨h1, h2⟩, h3⟩, h4⟩, h5⟩ := hDs
  exact wpAnyJ_first (fun w' => w' = w) hi (by simpa using h1) (Region.noSelect_spec h2) (fun j hj hn w' _ => by
    have := List.all_eq_true.1 hU j hj
    rw [this] at hn; cases hn) (fun c a w h => hQ c a _ _ w h) fuel listed a w (down_of h5) (Region.free_spec hi h3) (by simpa using h4) (.inl ⟨hw, fun w' e => by rw [e]; exact hr⟩) rfl (h _ (E.put hd v))
theorem wa_pass {i fuel : Nat} {listed : Array Bool} (E : Env n a l) (hi : ops[i]? = some ⟨some d, op, ty, pos, af, gd⟩) (hDs : takes ops Lo listed i = true)
    (hQ : PanicOk Q) (hw : Region.wanted ⟨some d, op, ty, pos, af, gd⟩ (yielded ops a.tmps) = false) (hd : Nat.blt d n = true)
    (h : ∀ a', Env n a' ((d, undef) :: l) → wpAnyJ P ops Q S D Lo fuel (listed.setIfInBounds i true) a' w) : wpAnyJ P ops Q S D Lo (fuel + 1) listed a w := by
  simp only [takes, Bool.and_eq_true] at hDs
  obtain ⟨⟨⟨⟨h1, h2⟩, h3⟩, h4⟩, h5⟩ := hDs
  exact wpAnyJ_first (fun _ => True) hi (by simpa using h1) (Region.noSelect_spec h2) (fun _ _ _ _ _ => trivial) (fun c a w h => hQ c a _ _ w h) fuel listed a w (down_of h5) (Region.free_spec hi h3) (by simpa using h4) (.inr ⟨hw, rfl⟩) trivial (h _ (E.put hd undef))
/-- The one operation that may come now. -/
theorem wa_only {i fuel : Nat} {listed : Array Bool} {o : Oper} (hi : ops[i]? = some o) (hL : Lo.contains i = true) (hr : Region.ready .any ops listed = [i])
    (h : Step P ops Q o (fun a' w' => (needs ops D i = true → S w') ∧ wpAnyJ P ops Q S D Lo fuel (listed.setIfInBounds i true) a' w') a w) : wpAnyJ P ops Q S D Lo (fuel + 1) listed a w := by
  refine ⟨fun h0 => absurd (hr.symm.trans h0) (by simp), fun j hj => ?_⟩
  rw [hr] at hj
  obtain rfl := List.mem_singleton.1 hj
  have hL' : j ∈ Lo := by simpa using hL
  unfold wpOp
  simp only [hi, if_pos hL']
  exact h
theorem wa_done {fuel : Nat} {listed : Array Bool} (hr : Region.ready .any ops listed = []) (h : Q .normal a w) : wpAnyJ P ops Q S D Lo fuel listed a w := by
  cases fuel with
  | zero => exact ⟨hr, h⟩
  | succ fuel => exact ⟨fun _ => h, by rw [hr]; simp⟩
/-! ### Several that write may come: one state behind all the orders -/
def QJ (J : Act → World → Prop) (Q : Exit → Act → World → Prop) : Exit → Act → World → Prop
  | .normal, a, w => J a w
  | e, a, w => Q e a w
theorem panic_join {J : Act → World → Prop} (h : PanicOk Q) : PanicOk (QJ J Q) := h
theorem wa_join {c : Code} (J : Act → World → Prop) (hJ : ∀ a w, J a w → Q .normal a w) (h : c.wp P (QJ J Q) a w) : c.wp P Q a w :=
  wp_mono h fun e a w k => by cases e <;> first | exact hJ _ _ k | exact k
theorem join_ret {J : Act → World → Prop} (h : Q .ret a w) : QJ J Q .ret a w := h
theorem join_exit {J : Act → World → Prop} {id : Nat} (h : Q (.exit id) a w) : QJ J Q (.exit id) a w := h
theorem wa_two {i j fuel : Nat} {listed : Array Bool} {oi oj : Oper} (hi : ops[i]? = some oi) (hj : ops[j]? = some oj) (hL : (Lo.contains i && Lo.contains j) = true) (hr : Region.ready .any ops listed = [i, j])
    (h1 : Step P ops Q oi (fun a' w' => (needs ops D i = true → S w') ∧ wpAnyJ P ops Q S D Lo fuel (listed.setIfInBounds i true) a' w') a w)
    (h2 : Step P ops Q oj (fun a' w' => (needs ops D j = true → S w') ∧ wpAnyJ P ops Q S D Lo fuel (listed.setIfInBounds j true) a' w') a w) : wpAnyJ P ops Q S D Lo (fuel + 1) listed a w := by
  refine ⟨fun h0 => absurd (hr.symm.trans h0) (by simp), fun k hk => ?_⟩
  rw [hr] at hk
  rw [Bool.and_eq_true] at hL
  have hLi : i ∈ Lo := by simpa using hL.1
  have hLj : j ∈ Lo := by simpa using hL.2
  rcases List.mem_cons.1 hk with rfl | hk
  · unfold wpOp; simp only [hi, if_pos hLi]; exact h1
  · obtain rfl := List.mem_singleton.1 hk
    unfold wpOp; simp only [hj, if_pos hLj]; exact h2
theorem wa_three {i j l' fuel : Nat} {listed : Array Bool} {oi oj ol : Oper} (hi : ops[i]? = some oi) (hj : ops[j]? = some oj) (hl : ops[l']? = some ol) (hL : (Lo.contains i && Lo.contains j && Lo.contains l') = true) (hr : Region.ready .any ops listed = [i, j, l'])
    (h1 : Step P ops Q oi (fun a' w' => (needs ops D i = true → S w') ∧ wpAnyJ P ops Q S D Lo fuel (listed.setIfInBounds i true) a' w') a w)
    (h2 : Step P ops Q oj (fun a' w' => (needs ops D j = true → S w') ∧ wpAnyJ P ops Q S D Lo fuel (listed.setIfInBounds j true) a' w') a w)
    (h3 : Step P ops Q ol (fun a' w' => (needs ops D l' = true → S w') ∧ wpAnyJ P ops Q S D Lo fuel (listed.setIfInBounds l' true) a' w') a w) : wpAnyJ P ops Q S D Lo (fuel + 1) listed a w := by
  refine ⟨fun h0 => absurd (hr.symm.trans h0) (by simp), fun k hk => ?_⟩
  rw [hr] at hk
  rw [Bool.and_eq_true, Bool.and_eq_true] at hL
  have hLi : i ∈ Lo := by simpa using hL.1.1
  have hLj : j ∈ Lo := by simpa using hL.1.2
  have hLl : l' ∈ Lo := by simpa using hL.2
  rcases List.mem_cons.1 hk with rfl | hk
  · unfold wpOp; simp only [hi, if_pos hLi]; exact h1
  · rcases List.mem_cons.1 hk with rfl | hk
    · unfold wpOp; simp only [hj, if_pos hLj]; exact h2
    · obtain rfl := List.mem_singleton.1 hk
      unfold wpOp; simp only [hl, if_pos hLl]; exact h3
theorem St.toEnd {I : List SP} (i : Nat) (H : St w0 M Y w A L) (hi : L[i]? = some I) : St w0 M Y w A (L.eraseIdx i ++ [I]) := by
  obtain ⟨hc, Z, S, h1, h2, h3⟩ := H
  obtain ⟨S1, S2, e1, e2, hd, k1, k2⟩ := Holds_get h2 hi
  have k0 : Holds w Z [I] S1 := ⟨S1, Nil, fun _ h => h, fun _ h => h.elim, fun _ _ h => h.elim, k1, trivial⟩
  have := Holds_append k2 k0 (fun b h2 h1 => hd b h1 h2)
  exact ⟨hc, Z, S, h1, Holds_mono (fun _ h => h) (fun b h => h.elim (e2 b) (e1 b)) this, h3⟩
/-! ### Where nothing is written: the heap is as it was -/
theorem blk_heap {g : Nat} {cs : List Value} {T : TypeId} (hS : w'.heap = w.heap) (h : ∃ Z S, (blk g cs T).holds w Z S) : ∃ Z S, (blk g cs T).holds w' Z S := by
  obtain ⟨Z, S, h1, h2⟩ := h
  exact ⟨Z, S, h1, by rw [hS]; exact h2⟩
theorem cells_heap {p : Option Addr} {i : Int} {m : Nat} {cs : List Value} (hS : w'.heap = w.heap) (h : ∀ off q, Idx p i m off q → ∃ g o, q = ⟨g, o, none⟩ ∧ ∀ j v, cs[off + j]? = some v → w.cell? ⟨g, o + j, none⟩ = some v) :
    ∀ off q, Idx p i m off q → ∃ g o, q = ⟨g, o, none⟩ ∧ ∀ j v, cs[off + j]? = some v → w'.cell? ⟨g, o + j, none⟩ = some v := fun off q hq => by
  obtain ⟨g, o, e, k⟩ := h off q hq
  exact ⟨g, o, e, fun j v hv => by rw [← k j v hv]; simp [World.cell?, hS]⟩
end
end Go.Gx

/- More operations: '==' of structs, nil slices, make, cuts, clear. -/
namespace Go.Gx
open Go.RowKit
section
variable {P : Program} {ops : Array Oper} {rest : List Oper} {Q : Exit → Act → World → Prop} {κ : Act → World → Prop} {a : Act} {w w0 w' : World} {n : Nat} {l : List (Nat × Value)} {M Y : FP} {A A' Ac : List VP} {L L' : List (List SP)}
  {d : Nat} {op : Op} {ty : TypeId} {pos : String} {af : Array Edge} {gd : Option (Nat × Bool)} {v : Value}

/-! ### '==' of structs -/
theorem part1 {t : TypeId} {cs : List Value} {off : Nat} {df : TypeDesc} (hu : P.underlying t = some df) (hag : aggD df = false) (hv : cs[off]? = some v) : (part t cs.toArray off).run P w = .ok v w := by
  simp [part, run_isAgg hu, hag, hv]
theorem partN {t : TypeId} {cs vs : List Value} {off m b : Nat} {df : TypeDesc} {z : Value} (hu : P.underlying t = some df) (hag : aggD df = true) (hti : TI P t z m b) (hv : (cs.drop off).take m = vs) : (part t cs.toArray off).run P w = .ok (.agg vs.toArray) w := by
  subst hv
  simp [part, run_isAgg hu, hag, hti.sizeOf]
theorem eqS_nil {xs ys : Array Value} : (Op.eqFields d xs ys []).run P w = .ok true w := by simp [Op.eqFields]
theorem eqS_cons {xs ys : Array Value} {f : Field} {fs : List Field} {x y : Value} {r s : Bool} (hn : (f.name == "_") = false) (hx : (part f.type xs f.offset).run P w = .ok x w) (hy : (part f.type ys f.offset).run P w = .ok y w) (he : (Op.equalIn d f.type x y).run P w = .ok r w)
    (hr : (Op.eqFields d xs ys fs).run P w = .ok s w) : (Op.eqFields d xs ys (f :: fs)).run P w = .ok (r && s) w := by
  have hn' : f.name ≠ "_" := by simpa using hn
  rw [Op.eqFields, if_pos hn']
  simp only [Sem.run_bind, hx, hy, he, Result.andThen_ok]
  cases r
  · simp
  · simpa using hr
theorem eqS_of {t : TypeId} {fs : Array Field} {xs ys : Array Value} {r : Bool} (hu : P.underlying t = some (.struct fs)) (hp : P.stoodInHeld t = false) (h : (Op.eqFields d xs ys fs.toList).run P w = .ok r w) : (Op.equalIn (d + 1) t (.agg xs) (.agg ys)).run P w = .ok r w := by
  have hf : P.fieldsOf t = fs := by simp [Program.fieldsOf, hu]
  rw [run_equalIn_struct (P := P) w d t xs ys (by rw [hf]; exact hu) hp, hf]
  exact h
theorem rn_eqstruct {o : Oper} {t ty' : TypeId} {x y : Operand} {xs ys : List Value} {r : Bool} (E : Env n a l) (ho : o.op = .binOp .eql t x y ty') (hg : P.eqGuardType P.depth t = false) (hx : opv l x = some (.agg xs.toArray)) (hy : opv l y = some (.agg ys.toArray))
    (he : (Op.equalIn 10000 t (.agg xs.toArray) (.agg ys.toArray)).run P w = .ok r w) : (execOp a.eval o).run P w = .ok (.value (.bool r)) w := by
  simp only [execOp, ho, E.eval hx, E.eval hy, Sem.run_bind, run_eqGuard_agg w .eql t x y _ _ hg, Result.andThen_ok, run_eql_struct, he, Sem.run_pure]
theorem rn_nestruct {o : Oper} {t ty' : TypeId} {x y : Operand} {xs ys : List Value} {r : Bool} (E : Env n a l) (ho : o.op = .binOp .neq t x y ty') (hg : P.eqGuardType P.depth t = false) (hx : opv l x = some (.agg xs.toArray)) (hy : opv l y = some (.agg ys.toArray))
    (he : (Op.equalIn 10000 t (.agg xs.toArray) (.agg ys.toArray)).run P w = .ok r w) : (execOp a.eval o).run P w = .ok (.value (.bool (!r))) w := by
  simp only [execOp, ho, E.eval hx, E.eval hy, Sem.run_bind, run_eqGuard_agg w .neq t x y _ _ hg, Result.andThen_ok, run_neq_struct, he, Sem.run_pure]

/-! ### nil -/
theorem eqGuard_slice {op : BinOp} {t : TypeId} {x y : Operand} {p q : Option Addr} {i j i' j' : Nat} : (eqGuard op t x y (.slice p i j) (.slice q i' j')).run P w = .ok () w := by
  cases op <;> simp [eqGuard]
theorem equal_nil {t e : TypeId} (hu : P.underlying t = some (.slice e)) (p : Option Addr) (i j : Nat) : (Op.equal t (.slice p i j) (.slice none 0 0)).run P w = .ok p.isNone w := by
  show (Op.equalIn (9999 + 1) t (.slice p i j) (.slice none 0 0)).run P w = _
  rw [Op.equalIn, Sem.run_bind, run_underlying hu]
  cases p <;> rfl
theorem rn_eqnil {o : Oper} {t ty' e : TypeId} {x y : Operand} {p : Option Addr} {i j : Nat} (E : Env n a l) (ho : o.op = .binOp .eql t x y ty') (hu : P.underlying t = some (.slice e)) (hx : opv l x = some (.slice p i j)) (hy : opv l y = some (.slice none 0 0)) :
    (execOp a.eval o).run P w = .ok (.value (.bool p.isNone)) w := by
  simp [execOp, ho, E.eval hx, E.eval hy, eqGuard_slice, binOp, equal_nil hu]
theorem rn_nenil {o : Oper} {t ty' e : TypeId} {x y : Operand} {p : Option Addr} {i j : Nat} (E : Env n a l) (ho : o.op = .binOp .neq t x y ty') (hu : P.underlying t = some (.slice e)) (hx : opv l x = some (.slice p i j)) (hy : opv l y = some (.slice none 0 0)) :
    (execOp a.eval o).run P w = .ok (.value (.bool (!p.isNone))) w := by
  simp [execOp, ho, E.eval hx, E.eval hy, eqGuard_slice, binOp, equal_nil hu]
theorem St.nilA {α : Type} {E : TypeId} {K : Kind α} {xs : List α} {m c k : Nat} (H : St w0 M Y w A L) (hk : A[k]? = some (vw (kSlice E K) xs [.slice none m c])) : xs = [] := by
  obtain ⟨Z, p, cap, e, hl, _, hn, _⟩ := H.arg hk
  simp only [List.cons.injEq, Value.slice.injEq, and_true] at e
  obtain ⟨rfl, _, rfl⟩ := e
  have := hn rfl
  exact List.eq_nil_of_length_eq_zero (by omega)

/-! ### make -/
theorem chunk_get (z : List Value) (c : Nat) : ∀ j, j < c * z.length → (madeCells z.toArray (c * z.length)).toList[j]? = z[j % z.length]? := fun j hj => by
  have hz : 0 < z.length := by
    rcases Nat.eq_zero_or_pos z.length with h | h
    · rw [h] at hj; omega
    · exact h
  have hm := Nat.mod_lt j hz
  simp [madeCells, hj, hm]
theorem madeCells_flat (z : List Value) (c : Nat) : (madeCells z.toArray (c * z.length)).toList = (List.replicate c z).flatten := by
  apply List.ext_getElem?
  intro j
  by_cases hj : j < c * z.length
  · rw [chunk_get z c j hj]
    induction c generalizing j with
    | zero => simp at hj
    | succ c ih =>
      rw [List.replicate_succ, List.flatten_cons]
      rcases Nat.lt_or_ge j z.length with h | h
      · rw [List.getElem?_append_left h, Nat.mod_eq_of_lt h]
      · rw [List.getElem?_append_right h, ← ih (j - z.length) (by rw [Nat.succ_mul] at hj; omega), ← Nat.mod_eq_sub_mod h]
  · rw [List.getElem?_eq_none (by simp [size_madeCells]; omega), List.getElem?_eq_none (by simp; omega)]
def makes (i : Int) (b : Nat) : Bool := decide (0 ≤ i ∧ i * b ≤ 281474976710656 ∧ i ≤ 281474976710656)
theorem wl_make {α : Type} {t e : TypeId} {x y : Operand} {K : Kind α} {k : IntKind} {i : Int} {z0 : α} {z : Value} {zc : List Value} {b : Nat} (E : Env n a l) (H : St w0 M Y w A L) (hw : Wanted ops a ⟨some d, .makeSlice t x y, ty, pos, af, gd⟩) (hu : P.underlying t = some (.slice e)) (hti : TI P e z K.n b)
    (hx : opv l x = some (.int k i)) (hy : opv l y = some (.int k i)) (hc : makes i b = true) (hz : z.cells = zc.toArray) (hzl : zc.length = K.n) (hK : ∀ w Z, K.O w Z Nil z0 zc) (hd : Nat.blt d n = true)
    (h : ∀ p m c w' a', Env n a' ((d, .slice p m c) :: l) → St w0 M Y w' A ([row e K (List.replicate i.toNat z0) (.slice p m c)] :: L) → κ a' w') :
    Step P ops Q ⟨some d, .makeSlice t x y, ty, pos, af, gd⟩ κ a w := by
  have hc' : 0 ≤ i ∧ i * b ≤ 281474976710656 ∧ i ≤ 281474976710656 := by simpa [makes] using hc
  obtain ⟨ti, h1, h2, h3, h4⟩ := hti.out
  have hr := run_make (P := P) w t e ti z hu h1 h2 k k i i hc'.1 (Int.le_refl _) (by rw [h4, Int.mul_comm]; exact hc'.2.1) (by omega)
  rw [h3, hz, ← hzl] at hr
  have hlen : (List.replicate i.toNat z0).length = i.toNat := by simp
  refine wl_val (v := .slice (some ⟨w.heap.size, 0, none⟩) (List.replicate i.toNat z0).length i.toNat) (w' := w.alloc (.cells (madeCells zc.toArray (i.toNat * zc.length)) e)) E hw ?_ hd fun a' E' => h _ _ _ _ a' E' (H.news (N := [[row e K (List.replicate i.toNat z0) (.slice (some ⟨w.heap.size, 0, none⟩) (List.replicate i.toNat z0).length i.toNat)]]) (Chg.alloc _ _ _) (News.one (S := fun b => b = w.heap.size) (fun b hb => by subst hb; simp) ⟨.inr ⟨w.heap.size, 0, i.toNat, [], (List.replicate i.toNat zc).flatten, [], rfl, rfl, ?_, rfl, by rw [hlen]; exact Nat.le_refl _, ?_, ?_, Nil, fun _ h => h.elim, fun h => h, EO_replicate (hK _ _) _⟩, trivial⟩))
  · simp only [execOp, E.eval hx, E.eval hy, Sem.run_bind, hr, Result.andThen_ok, Sem.run_pure, hlen]
  · rw [heap_alloc_new, ← madeCells_flat]
    simp
  · rw [hlen]; simp
  · simp only [maxLen]; omega

/-! ### Cuts -/
theorem run_cut {t e : TypeId} {p : Option Addr} {m c : Nat} {z : Value} {s b : Nat} {lo hi : Option Value} {i j : Int} (hu : P.underlying t = some (.slice e)) (hti : TI P e z s b)
    (hlo : (lo = none ∧ i = 0) ∨ ∃ k, lo = some (.int k i)) (hhi : (hi = none ∧ j = m) ∨ ∃ k, hi = some (.int k j)) (h0 : 0 ≤ i) (h1 : i ≤ j) (h2 : j ≤ m) (hmc : m ≤ c) :
    (Instr.sliceAt t (.slice p m c) lo hi none).run P w = .ok (.slice (if c = i.toNat then p else p.map (·.add (i.toNat * s))) (j.toNat - i.toNat) (c - i.toNat)) w := by
  have hj : i ≤ (j.toNat : Int) := by omega
  have hjc : j ≤ (c : Int) := by omega
  have hj0 : 0 ≤ j := by omega
  have b1 := fun k code => run_bound (P := P) (w := w) (k := k) (code := code) h0 hj
  have b2 := fun k code => run_bound (P := P) (w := w) (k := k) (code := code) hj0 hjc
  have b3 := fun k code => run_bound (P := P) (w := w) (k := k) (code := code) h0 (Int.le_trans h1 h2)
  rcases hlo with ⟨rfl, rfl⟩ | ⟨k, rfl⟩ <;> rcases hhi with ⟨rfl, rfl⟩ | ⟨k', rfl⟩
  · simp [Instr.sliceAt, Instr.slice, Instr.sliceBounds, run_underlying hu, hti.sizeOf]
  · simp [Instr.sliceAt, Instr.slice, Instr.sliceBounds, run_underlying hu, hti.sizeOf, b2]
  · simp [Instr.sliceAt, Instr.slice, Instr.sliceBounds, run_underlying hu, hti.sizeOf, b3]
  · simp [Instr.sliceAt, Instr.slice, Instr.sliceBounds, run_underlying hu, hti.sizeOf, b1, b2]
theorem rn_cut {o : Oper} {t e : TypeId} {x : Operand} {lo hi : Option Operand} {p : Option Addr} {m c : Nat} {z : Value} {s b : Nat} {i j : Int} (E : Env n a l) (ho : o.op = .slice t x lo hi none) (hu : P.underlying t = some (.slice e)) (hti : TI P e z s b) (hx : opv l x = some (.slice p m c))
    (hlo : (lo = none ∧ i = 0) ∨ ∃ y k, lo = some y ∧ opv l y = some (.int k i)) (hhi : (hi = none ∧ j = m) ∨ ∃ y k, hi = some y ∧ opv l y = some (.int k j)) (h0 : 0 ≤ i) (h1 : i ≤ j) (h2 : j ≤ m) (hmc : m ≤ c) :
    (execOp a.eval o).run P w = .ok (.value (.slice (if c = i.toNat then p else p.map (·.add (i.toNat * s))) (j.toNat - i.toNat) (c - i.toNat))) w := by
  have := run_cut (P := P) (w := w) (p := p) (m := m) (c := c) (lo := lo.map a.eval) (hi := hi.map a.eval) (i := i) (j := j) hu hti
    (hlo.imp (fun ⟨h, k⟩ => ⟨by rw [h]; rfl, k⟩) fun ⟨y, k, h, hv⟩ => ⟨k, by rw [h]; simp [E.eval hv]⟩) (hhi.imp (fun ⟨h, k⟩ => ⟨by rw [h]; rfl, k⟩) fun ⟨y, k, h, hv⟩ => ⟨k, by rw [h]; simp [E.eval hv]⟩) h0 h1 h2 hmc
  simp [execOp, ho, E.eval hx, this]
theorem wl_cutA {α : Type} {t e : TypeId} {x : Operand} {lo hi : Option Operand} {K : Kind α} {xs : List α} {Et : TypeId} {p : Option Addr} {m c q : Nat} {z : Value} {b : Nat} {i j : Int} (E : Env n a l) (H : St w0 M Y w A L) (hw : Wanted ops a ⟨some d, .slice t x lo hi none, ty, pos, af, gd⟩) (hu : P.underlying t = some (.slice e)) (hti : TI P e z K.n b) (hx : opv l x = some (.slice p m c))
    (hq : A[q]? = some (vw (kSlice Et K) xs [.slice p m c])) (hlo : (lo = none ∧ i = 0) ∨ ∃ y k, lo = some y ∧ opv l y = some (.int k i)) (hhi : (hi = none ∧ j = xs.length) ∨ ∃ y k, hi = some y ∧ opv l y = some (.int k j)) (hc : cutOk xs i j) (hd : Nat.blt d n = true)
    (h : ∀ p' m' c' a', Env n a' ((d, .slice p' m' c') :: l) → St w0 M Y w (vw (kSlice Et K) (cut xs i j) [.slice p' m' c'] :: A) L → κ a' w) : Step P ops Q ⟨some d, .slice t x lo hi none, ty, pos, af, gd⟩ κ a w := by
  obtain ⟨Z0, p', cap, e0, hl, hmx, hn, hh⟩ := H.arg hq
  simp only [List.cons.injEq, Value.slice.injEq, and_true] at e0
  obtain ⟨rfl, rfl, rfl⟩ := e0
  have hr := rn_cut (P := P) (w := w) (o := ⟨some d, .slice t x lo hi none, ty, pos, af, gd⟩) E rfl hu hti hx hlo hhi hc.1 hc.2.1 hc.2.2 hl
  exact wl_val E hw hr hd fun a' E' => h _ _ _ a' E' (H.more (A' := [_]) fun Z hA => ⟨sliceR_cut (argHolds_get hA hq : sliceR K w Z xs [.slice p xs.length c]) hc, trivial⟩)
/-- A cut of a row of the walk's own: the rest is forgotten. -/
theorem wl_cutL {α : Type} {t e : TypeId} {x : Operand} {lo hi : Option Operand} {K : Kind α} {xs : List α} {Et : TypeId} {p : Option Addr} {m c q : Nat} {z : Value} {b : Nat} {i j : Int} (E : Env n a l) (H : St w0 M Y w A L) (hw : Wanted ops a ⟨some d, .slice t x lo hi none, ty, pos, af, gd⟩) (hu : P.underlying t = some (.slice e)) (hti : TI P e z K.n b) (hx : opv l x = some (.slice p m c))
    (hq : L[q]? = some [row Et K xs (.slice p m c)]) (hlo : (lo = none ∧ i = 0) ∨ ∃ y k, lo = some y ∧ opv l y = some (.int k i)) (hhi : (hi = none ∧ j = xs.length) ∨ ∃ y k, hi = some y ∧ opv l y = some (.int k j)) (hc : cutOk xs i j) (hi0 : i = 0 ∨ i < j) (hd : Nat.blt d n = true)
    (h : ∀ p' m' c' a', Env n a' ((d, .slice p' m' c') :: l) → St w0 M Y w A (L.set q [row Et K (cut xs i j) (.slice p' m' c')]) → κ a' w) : Step P ops Q ⟨some d, .slice t x lo hi none, ty, pos, af, gd⟩ κ a w := by
  obtain ⟨Z0, S0, hrow, _⟩ := H.item hq
  obtain ⟨p', cap, e0, hl, _⟩ := rowH.read hrow
  simp only [List.cons.injEq, Value.slice.injEq, and_true] at e0
  obtain ⟨rfl, rfl, rfl⟩ := e0
  have hr := rn_cut (P := P) (w := w) (o := ⟨some d, .slice t x lo hi none, ty, pos, af, gd⟩) E rfl hu hti hx hlo hhi hc.1 hc.2.1 hc.2.2 hl
  exact wl_val E hw hr hd fun a' E' => h _ _ _ a' E' (H.upd hq fun Z S1 _ _ _ _ ⟨hR, _⟩ => ⟨S1, ⟨rowH_cut hR hc (hi0.imp id fun h => by have := hc.2.2; omega), trivial⟩, fun b hb => .inl hb, Chg.refl _ _⟩)
end
end Go.Gx

/- The steps of a walk, said of all frames and worlds that hold what is known: no name for a frame, a world or a fact of them is wanted. -/
set_option linter.unusedVariables false
namespace Go.Gx
open Go.RowKit

/-- Where the walk began, what it may change, what is shared from outside. -/
structure Cx where
  w0 : World
  M : FP
  Y : FP
/-- In every frame that holds l and every world that holds A and L. -/
def T (n : Nat) (c : Cx) (A : List VP) (L : List (List SP)) (l : List (Nat × Value)) (κ : Act → World → Prop) : Prop :=
  ∀ a w, Env n a l → St c.w0 c.M c.Y w A L → κ a w
/-- An operation yields v: in whatever world; in the worlds of the walk. -/
def RP (P : Program) (o : Oper) (n : Nat) (l : List (Nat × Value)) (v : Value) : Prop := ∀ a w, Env n a l → (execOp a.eval o).run P w = .ok (.value v) w
def RS (P : Program) (o : Oper) (n : Nat) (c : Cx) (A : List VP) (L : List (List SP)) (l : List (Nat × Value)) (v : Value) : Prop := ∀ a w, Env n a l → St c.w0 c.M c.Y w A L → (execOp a.eval o).run P w = .ok (.value v) w

section
variable {P : Program} {ops : Array Oper} {rest : List Oper} {Q Q' : Exit → Act → World → Prop} {K κ κ' : Act → World → Prop} {n : Nat} {c : Cx} {A A' B Ac : List VP} {L L' Lc Lr N : List (List SP)} {l l' : List (Nat × Value)}
  {d : Nat} {op : Op} {ty : TypeId} {pos : String} {af : Array Edge} {v u : Value}

theorem ti (f : ∀ a w, κ a w → κ' a w) (h : T n c A L l κ) : T n c A L l κ' := fun a w E H => f a w (h a w E H)
theorem pull {β : Type _} {φ : β → Prop} (hx : ∀ w, St c.w0 c.M c.Y w A L → ∃ q, φ q) (h : ∀ q, φ q → T n c A L l κ) : T n c A L l κ := fun a w E H => let ⟨q, hq⟩ := hx w H; h q hq a w E H
theorem ap {b : VP} {B : List VP} (h : T n c (b :: (B ++ A)) L l κ) : T n c ((b :: B) ++ A) L l κ := h
theorem ap0 (h : T n c A L l κ) : T n c ([] ++ A) L l κ := h
theorem np {b : List SP} {B : List (List SP)} (h : T n c A (b :: (B ++ L)) l κ) : T n c A ((b :: B) ++ L) l κ := h
theorem np0 (h : T n c A L l κ) : T n c A ([] ++ L) l κ := h

/-! ### Code -/
theorem t_region {id : Nat} {os : List Oper} (h : T n c A L l (wpList P os.toArray Q os)) : T n c A L l ((Code.region id os.toArray false).wp P Q) := fun a w E H => wp_region_lit (h a w E H)
theorem t_seq {x y : Code} (h : ∀ K : Act → World → Prop, (∀ a w, y.wp P Q a w → K a w) → T n c A L l (x.wp P (Exit.then K Q))) : T n c A L l ((Code.seq x y).wp P Q) := fun a w E H => wp_seq_k fun K hK => h K hK a w E H
theorem t_then {y : Code} (hK : ∀ a w, y.wp P Q a w → K a w) (h : T n c A L l (y.wp P Q)) : T n c A L l (Exit.then K Q' .normal) := fun a w E H => hK a w (h a w E H)
theorem t_nil (h : T n c A L l (Q .normal)) : T n c A L l (wpList P ops Q []) := h
theorem t_skip (h : T n c A L l (Q .normal)) : T n c A L l (Code.skip.wp P Q) := fun a w E H => wp_skip (h a w E H)
theorem t_block {id : Nat} {x : Code} (h : T n c A L l (x.wp P (Exit.inBlock id Q))) : T n c A L l ((Code.block id x).wp P Q) := fun a w E H => wp_block (h a w E H)
theorem t_blockN {id : Nat} (h : T n c A L l (Q .normal)) : T n c A L l (Exit.inBlock id Q .normal) := h
theorem t_exit {id : Nat} (h : T n c A L l (Q (.exit id))) : T n c A L l ((Code.exit id).wp P Q) := fun a w E H => wp_exit (h a w E H)
theorem t_ret (h : T n c A L l (Q .ret)) : T n c A L l (Code.ret.wp P Q) := fun a w E H => wp_ret (h a w E H)
theorem t_T {x : Operand} {y z : Code} {b : Bool} (hx : opv l x = some (.bool b)) (hb : b = true) (h : T n c A L l (y.wp P Q)) : T n c A L l ((Code.cond x y z).wp P Q) := fun a w E H => wc_T E hx hb (h a w E H)
theorem t_F {x : Operand} {y z : Code} {b : Bool} (hx : opv l x = some (.bool b)) (hb : b = false) (h : T n c A L l (z.wp P Q)) : T n c A L l ((Code.cond x y z).wp P Q) := fun a w E H => wc_F E hx hb (h a w E H)
theorem t_lp {x : Code} (h : ∀ κ : Act → World → Prop, (∀ a w, x.wp P (Exit.then κ Q) a w → κ a w) → T n c A L l κ) : T n c A L l ((Code.loop x).wp P Q) := fun a w E H => wp_of_loopW (h (LoopW P x Q) (fun _ _ h => loopW_round h) a w E H)
/-- Ways out, through what stands around. -/
theorem te {K : Act → World → Prop} {id : Nat} (h : T n c A L l (Q (.exit id))) : T n c A L l (Exit.then K Q (.exit id)) := h
theorem tr {K : Act → World → Prop} (h : T n c A L l (Q .ret)) : T n c A L l (Exit.then K Q .ret) := h
theorem be {id id' : Nat} (hne : Nat.beq id' id = false) (h : T n c A L l (Q (.exit id'))) : T n c A L l (Exit.inBlock id Q (.exit id')) := fun a w E H => block_other hne (h a w E H)
theorem bx {id : Nat} (h : T n c A L l (Q .normal)) : T n c A L l (Exit.inBlock id Q (.exit id)) := fun a w E H => block_exit (h a w E H)
theorem br {id : Nat} (h : T n c A L l (Q .ret)) : T n c A L l (Exit.inBlock id Q .ret) := h
theorem t_norm {K : Act → World → Prop} (h : T n c A L l K) : T n c A L l (Exit.then K Q .normal) := h
theorem St.lend {w0 w : World} {M Y : FP} (H : St w0 M Y w A L) (h : Pick L Lc Lr) : St w0 M Y w A Lc := by
  obtain ⟨hc, Z, S, h1, h2, h3, h4, h5, h6⟩ := H
  obtain ⟨S1, S2, e1, _, _, k1, _⟩ := Holds_pick h h2
  exact ⟨hc, Z, S, h1, Holds_mono (fun _ h => h) e1 k1, h3, h4, h5, h6⟩
/-- A state told anew: of the slots, of what is shared, of the items those that are wanted. -/
theorem t_go (k : T n c A' L' l' κ) (h : allLk l l') (hp : Pick L L' Lr) (hA : ∀ w Z, argHolds w A Z → argHolds w A' Z) : T n c A L l κ := fun a w E H => k a w (E.pick h) ((H.lend hp).sel (hA w))
/-- A slot's value told in another way. -/
theorem t_set {i : Nat} (hl : lk l i = some v) (hv : v = u) (h : T n c A L ((i, u) :: l) κ) : T n c A L l κ := fun a w E H => h a w (by
  subst hv
  refine ⟨E.size, E.defers, fun j x hx => ?_⟩
  simp only [lk] at hx
  cases hb : Nat.beq i j with
  | true =>
    rw [hb] at hx
    obtain rfl := Nat.eq_of_beq_eq_true hb
    obtain rfl : v = x := by simpa using hx
    exact E.get _ _ hl
  | false =>
    rw [hb] at hx
    exact E.get _ _ (by simpa using hx)) H

/-! ### A function's begin and end -/
theorem t_begin {f : FuncId} {fn : Func} {cd : Code} {args : List Value} {τ : Type} {v : τ → Value} {A' : τ → List VP} {N : τ → List (List SP)} (hf : P.funcs[f]? = some fn) (hb : fn.body = some cd) (hn : fn.ntmps = n) (hle : Nat.ble args.length n = true)
    (h : ∀ c R, (∀ w2 t, PostG c.w0 w2 c.M c.Y (A' t) (N t) → R (.returned (v t)) w2) → T n c Ac Lc (enumA 0 args) (cd.wp P (bodyPost P fn R))) : FunG P f args.toArray Ac Lc v A' N :=
  funG_begin hf hb hn hle fun w Z S a E H => h ⟨w, S, Z⟩ _ (fun _ t p => ⟨t, rfl, p⟩) a w E H
theorem t_leave {R : Ending → World → Prop} {τ : Type} {v : τ → Value} {A' : τ → List VP} {N : τ → List (List SP)} (hR : ∀ w2 t, PostG c.w0 w2 c.M c.Y (A' t) (N t) → R (.returned (v t)) w2) (t : τ) (hv : v t = u)
    (hA : ∀ w Z, argHolds w A Z → argHolds w (A' t) Z) (hN : Pick L (N t) Lr) : T n c A L l (fun _ w => R (.returned u) w) := by
  subst hv
  exact fun _ w _ H => hR w t (H.leave (hA w) fun Z S h => let ⟨_, _, e1, _, _, k, _⟩ := Holds_pick hN h; Holds_mono (fun _ h => h) e1 k)
theorem t_in {f n2 : Nat} {fn : Func} {cd : Code} {x : Operand} {xs : Array Operand} {ts : Array TypeId} {args cap all : List Value} (hx : opv l x = some (.func (.func f) #[] cap.toArray)) (hxs : xs.toList.map (opv l) = args.map some) (hf : P.funcs[f]? = some fn) (hname : (fn.name == "runtime.NumGoroutine") = false)
    (hb : fn.body = some cd) (hall : args ++ cap = all) (hd : Nat.blt d n = true) (hn : fn.ntmps = n2) (hle : Nat.ble all.length n2 = true)
    (h : ∀ (R : Ending → World → Prop) (κ : Act → World → Prop), (∀ a w, K a w → κ a w) → (∀ v A' L', T n c A' L' ((d, v) :: l) κ → ∀ w, St c.w0 c.M c.Y w A' L' → R (.returned v) w) → T n2 c A L (enumA 0 all) (cd.wp P (bodyPost P fn R))) :
    T n c A L l (Step P ops Q ⟨some d, .call ⟨.value x, xs, ts⟩, ty, pos, af, none⟩ K) := fun a w E H =>
  wl_in rfl (rn_callC E rfl hx hxs hf hname hb hall) hf hb fun a2 h2 => h _ K (fun _ _ h => h) (fun v A' L' hT w H' => ⟨v, rfl, hT _ _ (E.put hd v) H'⟩) a2 w (h2 ▸ Env.init hn hle) H
theorem t_in0 {f n2 : Nat} {fn : Func} {cd : Code} {x : Operand} {xs : Array Operand} {ts : Array TypeId} {args cap all : List Value} (hx : opv l x = some (.func (.func f) #[] cap.toArray)) (hxs : xs.toList.map (opv l) = args.map some) (hf : P.funcs[f]? = some fn) (hname : (fn.name == "runtime.NumGoroutine") = false)
    (hb : fn.body = some cd) (hall : args ++ cap = all) (hn : fn.ntmps = n2) (hle : Nat.ble all.length n2 = true)
    (h : ∀ (R : Ending → World → Prop) (κ : Act → World → Prop), (∀ a w, K a w → κ a w) → (∀ (v : Value) A' L', T n c A' L' l κ → ∀ w, St c.w0 c.M c.Y w A' L' → R (.returned v) w) → T n2 c A L (enumA 0 all) (cd.wp P (bodyPost P fn R))) :
    T n c A L l (Step P ops Q ⟨none, .call ⟨.value x, xs, ts⟩, ty, pos, af, none⟩ K) := fun a w E H => by
  unfold Step
  rw [if_pos (show Region.wanted _ _ = true from rfl)]
  refine .inl ?_
  unfold Oper.wp
  rw [rn_callC E rfl hx hxs hf hname hb hall, Oper.upon_enter]
  refine (calls_of_wp hf hb (h (fun e w2 => ∃ v, e = .returned v ∧ K (a.put none v) w2) K (fun _ _ h => h) (fun v A' L' hT w H' => ⟨v, rfl, hT _ _ (E.none v) H'⟩) _ w (Env.init hn hle) H) : Calls P f all.toArray w _).mono fun e w2 ⟨v, he, hv⟩ => ?_
  subst he
  exact hv
theorem t_bk {R : Ending → World → Prop} {n2 : Nat} {l2 : List (Nat × Value)} {κ' : Act → World → Prop} (hR : ∀ v A' L', T n c A' L' ((d, v) :: l) κ' → ∀ w, St c.w0 c.M c.Y w A' L' → R (.returned v) w) (h : T n c A L ((d, u) :: l) κ') : T n2 c A L l2 (fun _ w => R (.returned u) w) := fun _ w _ H => hR _ _ _ h w H
theorem t_bk0 {R : Ending → World → Prop} {n2 : Nat} {l2 : List (Nat × Value)} {κ' : Act → World → Prop} (hR : ∀ (v : Value) A' L', T n c A' L' l κ' → ∀ w, St c.w0 c.M c.Y w A' L' → R (.returned v) w) (h : T n c A L l κ') : T n2 c A L l2 (fun _ w => R (.returned u) w) := fun _ w _ H => hR _ _ _ h w H
def TV (P : Program) (n : Nat) (c : Cx) (A : List VP) (L : List (List SP)) (l : List (Nat × Value)) (r : ResultVar) (v : Value) : Prop := ∀ a w, Env n a l → St c.w0 c.M c.Y w A L → RV P w a r v
theorem v_t {t : Nat} (h : lk l t = some v) : TV P n c A L l (.tmp t) v := fun _ _ E _ => rv_tmp E h
theorem v_1 {x t g : Nat} {df : TypeDesc} {cs : List Value} {T' : TypeId} (hx : lk l x = some (.pointer (some ⟨g, 0, none⟩))) (hL : At L [blk g cs T']) (hu : P.underlying t = some df) (hag : aggD df = false) (hv : cs[0]? = some v) : TV P n c A L l (.cell x t) v := fun _ _ E H =>
  let ⟨_, hi⟩ := hL.get; rv_cell1 E hx hu hag (H.get (k := 0) hi rfl) hv
theorem v_N {x t g m b : Nat} {df : TypeDesc} {z : Value} {cs : List Value} {T' : TypeId} (hx : lk l x = some (.pointer (some ⟨g, 0, none⟩))) (hL : At L [blk g cs T']) (hu : P.underlying t = some df) (hag : aggD df = true) (hti : TI P t z m b) (hm : cs.length = m) : TV P n c A L l (.cell x t) (.agg cs.toArray) := fun _ _ E H =>
  let ⟨_, hi⟩ := hL.get; rv_cellN E hx hu hag hti (H.get (k := 0) hi rfl) hm
theorem ret0 {fn : Func} {R : Ending → World → Prop} (hrs : fn.results = #[]) (h : T n c A L l (fun _ w => R (.returned (.tuple #[])) w)) : T n c A L l (bodyPost P fn R .ret) := fun a w E H => wb_ret0 E hrs (h a w E H)
theorem end0 {fn : Func} {R : Ending → World → Prop} (hrs : fn.results = #[]) (h : T n c A L l (fun _ w => R (.returned (.tuple #[])) w)) : T n c A L l (bodyPost P fn R .normal) := fun a w E H => wb_end0 E hrs (h a w E H)
theorem ret1 {fn : Func} {R : Ending → World → Prop} {r1 : ResultVar} {v1 : Value} (hrs : fn.results = #[r1]) (h1 : TV P n c A L l r1 v1) (h : T n c A L l (fun _ w => R (.returned v1) w)) : T n c A L l (bodyPost P fn R .ret) := fun a w E H => wb_ret1 E hrs (h1 a w E H) (h a w E H)
theorem ret2 {fn : Func} {R : Ending → World → Prop} {r1 r2 : ResultVar} {v1 v2 : Value} (hrs : fn.results = #[r1, r2]) (h1 : TV P n c A L l r1 v1) (h2 : TV P n c A L l r2 v2) (h : T n c A L l (fun _ w => R (.returned (.tuple #[v1, v2])) w)) : T n c A L l (bodyPost P fn R .ret) := fun a w E H => wb_ret2 E hrs (h1 a w E H) (h2 a w E H) (h a w E H)
theorem ret3 {fn : Func} {R : Ending → World → Prop} {r1 r2 r3 : ResultVar} {v1 v2 v3 : Value} (hrs : fn.results = #[r1, r2, r3]) (h1 : TV P n c A L l r1 v1) (h2 : TV P n c A L l r2 v2) (h3 : TV P n c A L l r3 v3) (h : T n c A L l (fun _ w => R (.returned (.tuple #[v1, v2, v3])) w)) : T n c A L l (bodyPost P fn R .ret) := fun a w E H => wb_ret3 E hrs (h1 a w E H) (h2 a w E H) (h3 a w E H) (h a w E H)
theorem ret4 {fn : Func} {R : Ending → World → Prop} {r1 r2 r3 r4 : ResultVar} {v1 v2 v3 v4 : Value} (hrs : fn.results = #[r1, r2, r3, r4]) (h1 : TV P n c A L l r1 v1) (h2 : TV P n c A L l r2 v2) (h3 : TV P n c A L l r3 v3) (h4 : TV P n c A L l r4 v4) (h : T n c A L l (fun _ w => R (.returned (.tuple #[v1, v2, v3, v4])) w)) : T n c A L l (bodyPost P fn R .ret) := fun a w E H => wb_ret4 E hrs (h1 a w E H) (h2 a w E H) (h3 a w E H) (h4 a w E H) (h a w E H)

/-! ### One operation of a region -/
theorem nx {o : Oper} (h : T n c A L l (Step P ops Q o (wpList P ops Q rest))) : T n c A L l (wpList P ops Q (o :: rest)) := fun a w E H => wl_cons (h a w E H)
/-- A guarded operation that is carried out. -/
theorem gd {dd : Option Nat} {j t : Nat} {b e : Bool} (hj : (ops[j]?).bind (·.dst) = some t) (ht : lk l t = some (.bool e)) (hb : e = b) (h : T n c A L l (Step P ops Q ⟨dd, op, ty, pos, af, none⟩ K)) : T n c A L l (Step P ops Q ⟨dd, op, ty, pos, af, some (j, b)⟩ K) := fun a w E H => by
  have hw : Region.wanted ⟨dd, op, ty, pos, af, some (j, b)⟩ (yielded ops a.tmps) = true := E.wantedB rfl hj ht hb
  have h2 := h a w E H
  unfold Step at h2 ⊢
  rw [if_pos (show Region.wanted _ _ = true from rfl)] at h2
  rw [if_pos hw]
  exact h2
theorem pass {j t : Nat} {b e : Bool} (hj : (ops[j]?).bind (·.dst) = some t) (ht : lk l t = some (.bool e)) (hb : e = !b) (hd : Nat.blt d n = true) (h : T n c A L ((d, undef) :: l) K) : T n c A L l (Step P ops Q ⟨some d, op, ty, pos, af, some (j, b)⟩ K) := fun a w E H =>
  wl_pass E (E.unwanted rfl hj ht hb) hd fun a' E' => h a' w E' H
theorem passU {j t : Nat} {b : Bool} (hj : (ops[j]?).bind (·.dst) = some t) (ht : lk l t = some undef) (hd : Nat.blt d n = true) (h : T n c A L ((d, undef) :: l) K) : T n c A L l (Step P ops Q ⟨some d, op, ty, pos, af, some (j, b)⟩ K) := fun a w E H =>
  wl_pass E (E.unwanted0 rfl hj ht) hd fun a' E' => h a' w E' H
theorem pass0 {j t : Nat} {b e : Bool} (hj : (ops[j]?).bind (·.dst) = some t) (ht : lk l t = some (.bool e)) (hb : e = !b) (h : T n c A L l K) : T n c A L l (Step P ops Q ⟨none, op, ty, pos, af, some (j, b)⟩ K) := fun a w E H =>
  wl_pass0 E (E.unwanted rfl hj ht hb) fun a' E' => h a' w E' H
theorem passU0 {j t : Nat} {b : Bool} (hj : (ops[j]?).bind (·.dst) = some t) (ht : lk l t = some undef) (h : T n c A L l K) : T n c A L l (Step P ops Q ⟨none, op, ty, pos, af, some (j, b)⟩ K) := fun a w E H =>
  wl_pass0 E (E.unwanted0 rfl hj ht) fun a' E' => h a' w E' H
theorem sp (r : RP P ⟨some d, op, ty, pos, af, none⟩ n l v) (hd : Nat.blt d n = true) (h : T n c A L ((d, v) :: l) K) : T n c A L l (Step P ops Q ⟨some d, op, ty, pos, af, none⟩ K) := fun a w E H =>
  wl_val E rfl (r a w E) hd fun a' E' => h a' w E' H
theorem ss (r : RS P ⟨some d, op, ty, pos, af, none⟩ n c A L l v) (hd : Nat.blt d n = true) (h : T n c A L ((d, v) :: l) K) : T n c A L l (Step P ops Q ⟨some d, op, ty, pos, af, none⟩ K) := fun a w E H =>
  wl_val E rfl (r a w E H) hd fun a' E' => h a' w E' H
theorem c_p (r : RP P ⟨some d, op, ty, pos, af, none⟩ n l v) (hd : Nat.blt d n = true) (h : T n c A L ((d, v) :: l) (wpList P ops Q rest)) : T n c A L l (wpList P ops Q (⟨some d, op, ty, pos, af, none⟩ :: rest)) := nx (sp r hd h)
theorem c_s (r : RS P ⟨some d, op, ty, pos, af, none⟩ n c A L l v) (hd : Nat.blt d n = true) (h : T n c A L ((d, v) :: l) (wpList P ops Q rest)) : T n c A L l (wpList P ops Q (⟨some d, op, ty, pos, af, none⟩ :: rest)) := nx (ss r hd h)

/-! ### What yields a value in whatever world -/
section
variable {dd : Option Nat} {gg : Option (Nat × Bool)} {x y z : Operand} {tx ty' : TypeId}
theorem r_mv (hx : opv l x = some v) : RP P ⟨dd, .move x, ty, pos, af, gg⟩ n l v := fun _ _ E => rn_move E rfl hx
theorem r_as (hx : opv l x = some v) : RP P ⟨dd, .assign x, ty, pos, af, gg⟩ n l v := fun _ _ E => rn_assign E rfl hx
theorem r_pT {b : Bool} (hc : opv l x = some (.bool b)) (hb : b = true) (hx : opv l y = some v) : RP P ⟨dd, .pick x y z, ty, pos, af, gg⟩ n l v := fun _ _ E => rn_pickT E rfl hc hb hx
theorem r_pF {b : Bool} (hc : opv l x = some (.bool b)) (hb : b = false) (hx : opv l z = some v) : RP P ⟨dd, .pick x y z, ty, pos, af, gg⟩ n l v := fun _ _ E => rn_pickF E rfl hc hb hx
theorem r_ex {i : Nat} {vs : Array Value} (hx : opv l x = some (.tuple vs)) (hi : vs.toList[i]? = some v) : RP P ⟨dd, .extract x i, ty, pos, af, gg⟩ n l v := fun _ _ E => rn_extract E rfl hx hi
theorem r_mf {fn : Fn} {xs : Array Operand} {vs : List Value} (hxs : xs.toList.map (opv l) = vs.map some) : RP P ⟨dd, .makeFunc fn #[] xs, ty, pos, af, gg⟩ n l (.func fn #[] vs.toArray) := fun _ _ E => rn_makeFunc E rfl hxs
theorem r_nc {p : Addr} (hx : opv l x = some (.pointer (some p))) : RP P ⟨dd, .nilCheck x, ty, pos, af, gg⟩ n l (.pointer (some p)) := fun _ _ E => rn_nilCheck E rfl hx
theorem r_i {op : BinOp} {k : IntKind} {i j : Int} (hx : opv l x = some (.int k i)) (hy : opv l y = some (.int k j)) (h : intB op k i j = some v) : RP P ⟨dd, .binOp op tx x y ty', ty, pos, af, gg⟩ n l v := fun _ _ E => rn_int E rfl hx hy h
theorem r_quo {k : IntKind} {i j : Int} (hx : opv l x = some (.int k i)) (hy : opv l y = some (.int k j)) (h : j ≠ 0) : RP P ⟨dd, .binOp .quo tx x y ty', ty, pos, af, gg⟩ n l (.int k (k.wrap (i.tdiv j))) := fun _ _ E => rn_quo E rfl hx hy h
theorem r_rem {k : IntKind} {i j : Int} (hx : opv l x = some (.int k i)) (hy : opv l y = some (.int k j)) (h : j ≠ 0) : RP P ⟨dd, .binOp .rem tx x y ty', ty, pos, af, gg⟩ n l (.int k (i.tmod j)) := fun _ _ E => rn_rem E rfl hx hy h
theorem r_shl {k k' : IntKind} {i j : Int} (hx : opv l x = some (.int k i)) (hy : opv l y = some (.int k' j)) (h : 0 ≤ j) : RP P ⟨dd, .binOp .shl tx x y ty', ty, pos, af, gg⟩ n l (.int k (k.wrap (i * 2 ^ (min j.toNat k.bits)))) := fun _ _ E => rn_shl E rfl hx hy h
theorem r_shr {k k' : IntKind} {i j : Int} (hx : opv l x = some (.int k i)) (hy : opv l y = some (.int k' j)) (h : 0 ≤ j) : RP P ⟨dd, .binOp .shr tx x y ty', ty, pos, af, gg⟩ n l (.int k (i.fdiv (2 ^ (min j.toNat k.bits)))) := fun _ _ E => rn_shr E rfl hx hy h
theorem r_s {op : BinOp} {i j : ByteArray} (hx : opv l x = some (.string i)) (hy : opv l y = some (.string j)) (h : strB op i j = some v) : RP P ⟨dd, .binOp op tx x y ty', ty, pos, af, gg⟩ n l v := fun _ _ E => rn_str E rfl hx hy h
theorem r_cat {i j : ByteArray} (hx : opv l x = some (.string i)) (hy : opv l y = some (.string j)) (h : i.size + j.size ≤ maxStr) : RP P ⟨dd, .binOp .add tx x y ty', ty, pos, af, gg⟩ n l (.string (i ++ j)) := fun _ _ E => rn_cat E rfl hx hy h
theorem r_beq {i j : Bool} (hu : P.underlying tx = some .bool) (hx : opv l x = some (.bool i)) (hy : opv l y = some (.bool j)) : RP P ⟨dd, .binOp .eql tx x y ty', ty, pos, af, gg⟩ n l (.bool (i == j)) := fun _ _ E => rn_booleq E rfl hu hx hy
theorem r_bne {i j : Bool} (hu : P.underlying tx = some .bool) (hx : opv l x = some (.bool i)) (hy : opv l y = some (.bool j)) : RP P ⟨dd, .binOp .neq tx x y ty', ty, pos, af, gg⟩ n l (.bool (i != j)) := fun _ _ E => rn_boolne E rfl hu hx hy
theorem r_not {b : Bool} (hx : opv l x = some (.bool b)) : RP P ⟨dd, .unOp .not tx x, ty, pos, af, gg⟩ n l (.bool (!b)) := fun _ _ E => rn_not E rfl hx
theorem r_neg {k : IntKind} {i : Int} (hx : opv l x = some (.int k i)) : RP P ⟨dd, .unOp .neg tx x, ty, pos, af, gg⟩ n l (.int k (k.wrap (0 - i))) := fun _ _ E => rn_neg E rfl hx
theorem r_ci {k k' : IntKind} {i : Int} {ds : TypeDesc} (hs : P.underlying tx = some ds) (hd : P.underlying ty' = some (.int k')) (hx : opv l x = some (.int k i)) : RP P ⟨dd, .convert tx ty' x, ty, pos, af, gg⟩ n l (.int k' (k'.wrap i)) := fun _ _ E => rn_convInt E rfl hs hd hx
theorem r_cs {s : ByteArray} {ds : TypeDesc} (hs : P.underlying tx = some ds) (hd : P.underlying ty' = some .string) (hx : opv l x = some (.string s)) : RP P ⟨dd, .convert tx ty' x, ty, pos, af, gg⟩ n l (.string s) := fun _ _ E => rn_convStr E rfl hs hd hx
theorem r_lenS {s : ByteArray} (hu : P.underlying tx = some .string) (hx : opv l x = some (.string s)) : RP P ⟨dd, .call ⟨.builtin .len, #[x], #[tx]⟩, ty, pos, af, gg⟩ n l (.int .i64 s.size) := fun _ _ E => rn_lenStr E rfl hu hx
theorem r_lenA {e : TypeId} {m : Nat} (hu : P.underlying tx = some (.array m e)) (hx : opv l x = some v) : RP P ⟨dd, .call ⟨.builtin .len, #[x], #[tx]⟩, ty, pos, af, gg⟩ n l (.int .i64 m) := fun _ _ E => rn_lenArr E rfl hu hx
theorem r_at {s : ByteArray} {k : IntKind} {i j : Int} (hu : P.underlying tx = some .string) (hx : opv l x = some (.string s)) (hy : opv l y = some (.int k i)) (hc : byteAt s i = some j) : RP P ⟨dd, .index tx x y, ty, pos, af, gg⟩ n l (.int .u8 j) := fun _ _ E => rn_indexStr E rfl hu hx hy hc
theorem r_sub {s r : ByteArray} {k k' : IntKind} {i j : Int} (hu : P.underlying tx = some .string) (hx : opv l x = some (.string s)) (hy : opv l y = some (.int k i)) (hy' : opv l z = some (.int k' j)) (hc : subStr s i j = some r) : RP P ⟨dd, .slice tx x (some y) (some z) none, ty, pos, af, gg⟩ n l (.string r) := fun _ _ E => rn_subStr E rfl hu hx hy hy' hc
theorem r_subF {s r : ByteArray} {k : IntKind} {i : Int} (hu : P.underlying tx = some .string) (hx : opv l x = some (.string s)) (hy : opv l y = some (.int k i)) (hc : subStr s i s.size = some r) : RP P ⟨dd, .slice tx x (some y) none none, ty, pos, af, gg⟩ n l (.string r) := fun _ _ E => rn_subStrFrom E rfl hu hx hy hc
theorem r_subT {s r : ByteArray} {k : IntKind} {j : Int} (hu : P.underlying tx = some .string) (hx : opv l x = some (.string s)) (hy : opv l y = some (.int k j)) (hc : subStr s 0 j = some r) : RP P ⟨dd, .slice tx x none (some y) none, ty, pos, af, gg⟩ n l (.string r) := fun _ _ E => rn_subStrTo E rfl hu hx hy hc
/-- A part of the cells. -/
inductive Tk : List Value → Nat → List Value → Prop
  | z {cs : List Value} : Tk cs 0 []
  | s {u : Value} {cs vs : List Value} {m : Nat} : Tk cs m vs → Tk (u :: cs) (m + 1) (u :: vs)
inductive Seg : List Value → Nat → Nat → List Value → Prop
  | t {cs vs : List Value} {m : Nat} : Tk cs m vs → Seg cs 0 m vs
  | s {u : Value} {cs vs : List Value} {o m : Nat} : Seg cs o m vs → Seg (u :: cs) (o + 1) m vs
theorem Tk.eq {cs vs : List Value} {m : Nat} (h : Tk cs m vs) : cs.take m = vs ∧ vs.length = m := by
  induction h with
  | z => simp
  | s _ ih => simp [ih]
theorem Seg.eq {cs vs : List Value} {o m : Nat} (h : Seg cs o m vs) : (cs.drop o).take m = vs ∧ vs.length = m := by
  induction h with
  | t h => simpa using h.eq
  | s _ ih => simpa using ih
/-- The cells with others in their place. -/
inductive Rep : List Value → List Value → List Value → Prop
  | z {cs : List Value} : Rep cs [] cs
  | s {u v : Value} {cs vs cs' : List Value} : Rep cs vs cs' → Rep (u :: cs) (v :: vs) (v :: cs')
inductive Spl : List Value → Nat → List Value → List Value → Prop
  | t {cs vs cs' : List Value} : Rep cs vs cs' → Spl cs 0 vs cs'
  | s {u : Value} {cs vs cs' : List Value} {o : Nat} : Spl cs o vs cs' → Spl (u :: cs) (o + 1) vs (u :: cs')
theorem Rep.eq {cs vs cs' : List Value} (h : Rep cs vs cs') : vs ++ cs.drop vs.length = cs' ∧ vs.length ≤ cs.length := by
  induction h with
  | z => simp
  | s _ ih => simp [ih]
theorem Spl.eq {cs vs cs' : List Value} {o : Nat} (h : Spl cs o vs cs') : cs.take o ++ vs ++ cs.drop (o + vs.length) = cs' ∧ o + vs.length ≤ cs.length := by
  induction h with
  | t h => simpa using h.eq
  | s _ ih => simp [Nat.add_right_comm _ 1]; simpa using ih
theorem spA : ∀ {vs cs : List Value}, vs.length = cs.length → Rep cs vs vs
  | [], [], _ => .z
  | _ :: _, _ :: _, h => .s (spA (by simpa using h))
theorem r_f1 {f : Nat} {cs : List Value} {fs : Array Field} {fl : Field} {df : TypeDesc} (hu : P.underlying tx = some (.struct fs)) (hf : fs[f]? = some fl) (hdf : P.underlying fl.type = some df) (hag : aggD df = false) (hx : opv l x = some (.agg cs.toArray)) (hv : cs[fl.offset]? = some v) : RP P ⟨dd, .field tx x f, ty, pos, af, gg⟩ n l v := fun _ _ E => rn_field1 E rfl hu hf hdf hag hx hv
theorem r_fN {f : Nat} {cs vs : List Value} {fs : Array Field} {fl : Field} {df : TypeDesc} {zz : Value} {m b : Nat} (hu : P.underlying tx = some (.struct fs)) (hf : fs[f]? = some fl) (hdf : P.underlying fl.type = some df) (hag : aggD df = true) (hti : TI P fl.type zz m b) (hx : opv l x = some (.agg cs.toArray)) (hv : Seg cs fl.offset m vs) : RP P ⟨dd, .field tx x f, ty, pos, af, gg⟩ n l (.agg vs.toArray) := fun _ _ E => rn_fieldN E rfl hu hf hdf hag hti hx hv.eq.1
theorem r_fa {f g off : Nat} {fs : Array Field} {fl : Field} {zz : Value} {m b : Nat} (hu : P.underlying tx = some (.struct fs)) (hf : fs[f]? = some fl) (hti : TI P fl.type zz (m + 1) b) (hx : opv l x = some (.pointer (some ⟨g, off, none⟩))) {off' : Nat} (he : off + fl.offset = off') : RP P ⟨dd, .fieldAddr tx x f, ty, pos, af, gg⟩ n l (.pointer (some ⟨g, off', none⟩)) := fun _ _ E => rn_fieldAddr E rfl hu hf hti hx he
theorem r_bu {parts : Array (Nat × Operand)} {ps : List (Nat × Value)} {cs : List Value} (hps : parts.toList.map (fun p => (p.1, opv l p.2)) = ps.map (fun p => (p.1, some p.2))) (h : P.built ty ps = some cs.toArray) : RP P ⟨dd, .build ty parts, tx, pos, af, gg⟩ n l (.agg cs.toArray) := fun _ _ E => rn_build E rfl hps h
theorem r_eqs {xs ys : List Value} {r : Bool} (hg : P.eqGuardType P.depth tx = false) (he : ∀ w, (Op.equalIn 10000 tx (.agg xs.toArray) (.agg ys.toArray)).run P w = .ok r w) (hx : opv l x = some (.agg xs.toArray)) (hy : opv l y = some (.agg ys.toArray)) : RP P ⟨dd, .binOp .eql tx x y ty', ty, pos, af, gg⟩ n l (.bool r) := fun _ w E => rn_eqstruct E rfl hg hx hy (he w)
theorem r_nes {xs ys : List Value} {r : Bool} (hg : P.eqGuardType P.depth tx = false) (he : ∀ w, (Op.equalIn 10000 tx (.agg xs.toArray) (.agg ys.toArray)).run P w = .ok r w) (hx : opv l x = some (.agg xs.toArray)) (hy : opv l y = some (.agg ys.toArray)) : RP P ⟨dd, .binOp .neq tx x y ty', ty, pos, af, gg⟩ n l (.bool (!r)) := fun _ w E => rn_nestruct E rfl hg hx hy (he w)
theorem r_eqn {e : TypeId} {p : Option Addr} {i j : Nat} (hu : P.underlying tx = some (.slice e)) (hx : opv l x = some (.slice p i j)) (hy : opv l y = some (.slice none 0 0)) : RP P ⟨dd, .binOp .eql tx x y ty', ty, pos, af, gg⟩ n l (.bool p.isNone) := fun _ _ E => rn_eqnil E rfl hu hx hy
theorem r_nen {e : TypeId} {p : Option Addr} {i j : Nat} (hu : P.underlying tx = some (.slice e)) (hx : opv l x = some (.slice p i j)) (hy : opv l y = some (.slice none 0 0)) : RP P ⟨dd, .binOp .neq tx x y ty', ty, pos, af, gg⟩ n l (.bool (!p.isNone)) := fun _ _ E => rn_nenil E rfl hu hx hy
end
end
end Go.Gx
