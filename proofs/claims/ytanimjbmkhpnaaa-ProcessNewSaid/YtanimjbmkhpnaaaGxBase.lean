/- The worlds of a walk told by a list of items: each item is a set of blocks and what they hold; what a step does to that list. -/
import Derived.WalkKit
import Derived.KernelRfl
import Derived.OrdersHeld
import Derived.Laws.IdiomCopy
import Derived.RowKit3
namespace Go.Gx
open Go.RowKit

/-- A set of blocks. -/
abbrev FP := Nat → Prop
/-- On these blocks both worlds are alike. -/
def Agree (w w' : World) (S : FP) : Prop := ∀ b, S b → w'.heap[b]? = w.heap[b]?

/-- What a set of blocks of its own holds; the first set is what all share and nobody writes. -/
structure SP where
  holds : World → FP → FP → Prop
  mono : ∀ {w : World} {Z Z' S S' : FP}, (∀ b, Z b → Z' b) → (∀ b, S b → S' b) → holds w Z S → holds w Z' S'
  loc : ∀ {w w' : World} {Z S : FP}, Agree w w' Z → Agree w w' S → holds w Z S → holds w' Z S

/-- A block of its own, with these cells. -/
def blk (g : Nat) (cs : List Value) (T : TypeId) : SP where
  holds w _ S := S g ∧ w.heap[g]? = some (.cells cs.toArray T (0, 0))
  mono _ h := fun ⟨a, b⟩ => ⟨h _ a, b⟩
  loc _ h := fun ⟨a, b⟩ => ⟨a, (h _ a).trans b⟩

/-- How a Go value of one type lies in cells: 'O': it owns what it leads to; 'R': it can be read. -/
structure Kind (α : Type) where
  n : Nat
  O : World → FP → α → List Value → Prop
  R : World → FP → α → List Value → Prop
  monoO : ∀ {w : World} {S S' : FP} {x : α} {cs : List Value}, (∀ b, S b → S' b) → O w S x cs → O w S' x cs
  monoR : ∀ {w : World} {S S' : FP} {x : α} {cs : List Value}, (∀ b, S b → S' b) → R w S x cs → R w S' x cs
  locO : ∀ {w w' : World} {S : FP} {x : α} {cs : List Value}, Agree w w' S → O w S x cs → O w' S x cs
  locR : ∀ {w w' : World} {S : FP} {x : α} {cs : List Value}, Agree w w' S → R w S x cs → R w' S x cs
  OR : ∀ {w : World} {S : FP} {x : α} {cs : List Value}, O w S x cs → R w S x cs
  len : ∀ {w : World} {S : FP} {x : α} {cs : List Value}, R w S x cs → cs.length = n
  one : ∀ {w : World} {S : FP} {x : α} {cs : List Value}, R w S x cs → ∀ v, v ∈ cs → v.oneCell' = true

def kInt (k : IntKind) : Kind Int where
  n := 1
  O _ _ x cs := cs = [.int k x]
  R _ _ x cs := cs = [.int k x]
  monoO _ h := h
  monoR _ h := h
  locO _ h := h
  locR _ h := h
  OR h := h
  len h := by subst h; rfl
  one h := by subst h; intro v hv; simp at hv; subst hv; rfl
def kBool : Kind Bool where
  n := 1
  O _ _ x cs := cs = [.bool x]
  R _ _ x cs := cs = [.bool x]
  monoO _ h := h
  monoR _ h := h
  locO _ h := h
  locR _ h := h
  OR h := h
  len h := by subst h; rfl
  one h := by subst h; intro v hv; simp at hv; subst hv; rfl
def kStr : Kind ByteArray where
  n := 1
  O _ _ x cs := cs = [.string x]
  R _ _ x cs := cs = [.string x]
  monoO _ h := h
  monoR _ h := h
  locO _ h := h
  locR _ h := h
  OR h := h
  len h := by subst h; rfl
  one h := by subst h; intro v hv; simp at hv; subst hv; rfl

def kPair {α β : Type} (K : Kind α) (J : Kind β) : Kind (α × β) where
  n := K.n + J.n
  O w S x cs := ∃ c1 c2 S1 S2, cs = c1 ++ c2 ∧ (∀ b, S1 b → S b) ∧ (∀ b, S2 b → S b) ∧ (∀ b, S1 b → ¬ S2 b) ∧ K.O w S1 x.1 c1 ∧ J.O w S2 x.2 c2
  R w S x cs := ∃ c1 c2, cs = c1 ++ c2 ∧ K.R w S x.1 c1 ∧ J.R w S x.2 c2
  monoO hs h := by
    obtain ⟨c1, c2, S1, S2, e, h1, h2, hd, k1, k2⟩ := h
    exact ⟨c1, c2, S1, S2, e, fun b h => hs b (h1 b h), fun b h => hs b (h2 b h), hd, k1, k2⟩
  monoR hs := fun ⟨c1, c2, e, k1, k2⟩ => ⟨c1, c2, e, K.monoR hs k1, J.monoR hs k2⟩
  locO hs := fun ⟨c1, c2, S1, S2, e, h1, h2, hd, k1, k2⟩ => ⟨c1, c2, S1, S2, e, h1, h2, hd, K.locO (fun b h => hs b (h1 b h)) k1, J.locO (fun b h => hs b (h2 b h)) k2⟩
  locR hs := fun ⟨c1, c2, e, k1, k2⟩ => ⟨c1, c2, e, K.locR hs k1, J.locR hs k2⟩
  OR := fun ⟨c1, c2, S1, S2, e, h1, h2, _, k1, k2⟩ => ⟨c1, c2, e, K.monoR h1 (K.OR k1), J.monoR h2 (J.OR k2)⟩
  len := fun ⟨c1, c2, e, k1, k2⟩ => by subst e; rw [List.length_append, K.len k1, J.len k2]
  one := fun ⟨c1, c2, e, k1, k2⟩ => by
    subst e
    intro v hv
    rcases List.mem_append.1 hv with h | h
    · exact K.one k1 v h
    · exact J.one k2 v h

def kIso {α β : Type} (K : Kind α) (f : β → α) : Kind β where
  n := K.n
  O w S x cs := K.O w S (f x) cs
  R w S x cs := K.R w S (f x) cs
  monoO := K.monoO
  monoR := K.monoR
  locO := K.locO
  locR := K.locR
  OR := K.OR
  len := K.len
  one := K.one

/-! ### Rows of elements -/
section
variable {α : Type} (K : Kind α) (w : World)
def EO : List α → FP → List Value → Prop
  | [], _, cs => cs = []
  | x :: xs, S, cs => ∃ c1 c2 S1 S2, cs = c1 ++ c2 ∧ (∀ b, S1 b → S b) ∧ (∀ b, S2 b → S b) ∧ (∀ b, S1 b → ¬ S2 b) ∧ K.O w S1 x c1 ∧ EO xs S2 c2
def ER : List α → FP → List Value → Prop
  | [], _, cs => cs = []
  | x :: xs, S, cs => ∃ c1 c2, cs = c1 ++ c2 ∧ K.R w S x c1 ∧ ER xs S c2
end
section
variable {α : Type} {K : Kind α} {w w' : World} {S S' : FP}
theorem EO_mono (hs : ∀ b, S b → S' b) : ∀ {xs : List α} {cs : List Value}, EO K w xs S cs → EO K w xs S' cs
  | [], _, h => h
  | _ :: _, _, ⟨c1, c2, S1, S2, e, h1, h2, hd, k1, k2⟩ => ⟨c1, c2, S1, S2, e, fun b h => hs b (h1 b h), fun b h => hs b (h2 b h), hd, k1, k2⟩
theorem ER_mono (hs : ∀ b, S b → S' b) : ∀ {xs : List α} {cs : List Value}, ER K w xs S cs → ER K w xs S' cs
  | [], _, h => h
  | _ :: _, _, ⟨c1, c2, e, k1, k2⟩ => ⟨c1, c2, e, K.monoR hs k1, ER_mono hs k2⟩
theorem EO_loc : ∀ {xs : List α} {S : FP} {cs : List Value}, Agree w w' S → EO K w xs S cs → EO K w' xs S cs
  | [], _, _, _, h => h
  | _ :: _, _, _, hs, ⟨c1, c2, S1, S2, e, h1, h2, hd, k1, k2⟩ => ⟨c1, c2, S1, S2, e, h1, h2, hd, K.locO (fun b h => hs b (h1 b h)) k1, EO_loc (fun b h => hs b (h2 b h)) k2⟩
theorem ER_loc (hs : Agree w w' S) : ∀ {xs : List α} {cs : List Value}, ER K w xs S cs → ER K w' xs S cs
  | [], _, h => h
  | _ :: _, _, ⟨c1, c2, e, k1, k2⟩ => ⟨c1, c2, e, K.locR hs k1, ER_loc hs k2⟩
theorem EO_ER : ∀ {xs : List α} {S : FP} {cs : List Value}, EO K w xs S cs → ER K w xs S cs
  | [], _, _, h => h
  | _ :: _, _, _, ⟨c1, c2, _, _, e, h1, h2, _, k1, k2⟩ => ⟨c1, c2, e, K.monoR h1 (K.OR k1), ER_mono h2 (EO_ER k2)⟩
theorem ER_len : ∀ {xs : List α} {cs : List Value}, ER K w xs S cs → cs.length = xs.length * K.n
  | [], _, h => by subst h; simp
  | _ :: xs, _, ⟨c1, c2, e, k1, k2⟩ => by subst e; rw [List.length_append, K.len k1, ER_len k2, List.length_cons, Nat.succ_mul]; omega
theorem ER_one : ∀ {xs : List α} {cs : List Value}, ER K w xs S cs → ∀ v, v ∈ cs → v.oneCell' = true
  | [], _, h => by subst h; intro v hv; cases hv
  | _ :: xs, _, ⟨c1, c2, e, k1, k2⟩ => by
    subst e
    intro v hv
    rcases List.mem_append.1 hv with h | h
    · exact K.one k1 v h
    · exact ER_one k2 v h
/-- The element at i. -/
theorem ER_get : ∀ {xs : List α} {cs : List Value} (i : Nat) (x : α), ER K w xs S cs → xs[i]? = some x → K.R w S x ((cs.drop (i * K.n)).take K.n)
  | [], _, _, _, _, hi => by simp at hi
  | x :: xs, _, 0, y, ⟨c1, c2, e, k1, k2⟩, hi => by
    subst e
    obtain rfl : x = y := by simpa using hi
    have hl := K.len k1
    simp only [Nat.zero_mul, List.drop_zero]
    rw [List.take_append_of_le_length (by omega), List.take_of_length_le (by omega)]
    exact k1
  | x :: xs, _, i + 1, y, ⟨c1, c2, e, k1, k2⟩, hi => by
    subst e
    have hl := K.len k1
    have h := ER_get i y k2 (by simpa using hi)
    have e : (i + 1) * K.n = c1.length + i * K.n := by rw [Nat.succ_mul]; omega
    rw [e, List.drop_append, List.drop_of_length_le (by omega), List.nil_append, Nat.add_sub_cancel_left]
    exact h
theorem ER_append : ∀ {xs ys : List α} {c d : List Value}, ER K w xs S c → ER K w ys S d → ER K w (xs ++ ys) S (c ++ d)
  | [], _, _, _, h, k => by subst h; exact k
  | x :: xs, ys, _, d, ⟨c1, c2, e, k1, k2⟩, k => ⟨c1, c2 ++ d, by subst e; simp, k1, ER_append k2 k⟩
theorem ER_split : ∀ {xs ys : List α} {cs : List Value}, ER K w (xs ++ ys) S cs → ∃ c d, cs = c ++ d ∧ ER K w xs S c ∧ ER K w ys S d
  | [], _, cs, h => ⟨[], cs, rfl, rfl, h⟩
  | x :: xs, ys, _, ⟨c1, c2, e, k1, k2⟩ => by
    obtain ⟨c, d, e2, h1, h2⟩ := ER_split k2
    exact ⟨c1 ++ c, d, by subst e e2; simp, ⟨c1, c, rfl, k1, h1⟩, h2⟩
theorem EO_append : ∀ {xs ys : List α} {S T U : FP} {c d : List Value}, EO K w xs S c → EO K w ys T d → (∀ b, S b → ¬ T b) → (∀ b, S b → U b) → (∀ b, T b → U b) → EO K w (xs ++ ys) U (c ++ d)
  | [], _, _, _, _, _, _, h, k, _, _, hu => by subst h; exact EO_mono hu k
  | x :: xs, ys, S, T, U, _, d, ⟨c1, c2, S1, S2, e, h1, h2, hd, k1, k2⟩, k, hdis, hsu, htu =>
    ⟨c1, c2 ++ d, S1, fun b => S2 b ∨ T b, by subst e; simp, fun b h => hsu b (h1 b h), fun b h => h.elim (fun h => hsu b (h2 b h)) (htu b), fun b h => fun hh => hh.elim (hd b h) (hdis b (h1 b h)), k1,
      EO_append k2 k (fun b h => hdis b (h2 b h)) (fun b h => .inl h) (fun b h => .inr h)⟩
theorem EO_split : ∀ {xs ys : List α} {S : FP} {cs : List Value}, EO K w (xs ++ ys) S cs → ∃ c d S1 S2, cs = c ++ d ∧ (∀ b, S1 b → S b) ∧ (∀ b, S2 b → S b) ∧ (∀ b, S1 b → ¬ S2 b) ∧ EO K w xs S1 c ∧ EO K w ys S2 d
  | [], _, S, cs, h => ⟨[], cs, fun _ => False, S, rfl, fun _ h => h.elim, fun _ h => h, fun _ h => h.elim, rfl, h⟩
  | x :: xs, ys, S, _, ⟨c1, c2, S1, S2, e, h1, h2, hd, k1, k2⟩ => by
    obtain ⟨c, d, T1, T2, e2, g1, g2, gd, l1, l2⟩ := EO_split k2
    exact ⟨c1 ++ c, d, fun b => S1 b ∨ T1 b, T2, by subst e e2; simp, fun b h => h.elim (h1 b) (fun h => h2 b (g1 b h)), fun b h => h2 b (g2 b h),
      fun b h hh => h.elim (fun h => hd b h (g2 b hh)) (fun h => gd b h hh), ⟨c1, c, S1, T1, rfl, fun b h => .inl h, fun b h => .inr h, fun b h hh => hd b h (g1 b hh), k1, l1⟩, l2⟩
end

/-! ### Slices -/
/-- A slice that can be read. -/
def sliceR {α : Type} (K : Kind α) (w : World) (S : FP) (xs : List α) (cs : List Value) : Prop :=
  ∃ a cap, cs = [.slice a xs.length cap] ∧ xs.length ≤ cap ∧ cap ≤ maxLen ∧ (a = none → cap = 0) ∧
    (xs ≠ [] → ∃ g off pre el post T fr, a = some ⟨g, off, none⟩ ∧ S g ∧ w.heap[g]? = some (.cells (pre ++ el ++ post).toArray T fr) ∧ pre.length = off ∧ ER K w xs S el)
/-- A slice that owns its array. -/
def sliceO {α : Type} (E : TypeId) (K : Kind α) (w : World) (S : FP) (xs : List α) (cs : List Value) : Prop :=
  (cs = [.slice none 0 0] ∧ xs = []) ∨
  ∃ g off cap pre el post, cs = [.slice (some ⟨g, off, none⟩) xs.length cap] ∧ S g ∧ w.heap[g]? = some (.cells (pre ++ el ++ post).toArray E (0, 0)) ∧ pre.length = off ∧
    xs.length ≤ cap ∧ (cap - xs.length) * K.n ≤ post.length ∧ cap ≤ maxLen ∧ ∃ S', (∀ b, S' b → S b) ∧ ¬ S' g ∧ EO K w xs S' el
def kSlice {α : Type} (E : TypeId) (K : Kind α) : Kind (List α) where
  n := 1
  O := sliceO E K
  R := sliceR K
  monoO hs := fun h => h.imp id fun ⟨g, off, cap, pre, el, post, e, hg, hh, ho, hl, hp, hm, S', h1, h2, h3⟩ => ⟨g, off, cap, pre, el, post, e, hs _ hg, hh, ho, hl, hp, hm, S', fun b h => hs b (h1 b h), h2, h3⟩
  monoR hs := fun ⟨a, cap, e, hl, hm, hn, h⟩ => ⟨a, cap, e, hl, hm, hn, fun hx => by
    obtain ⟨g, off, pre, el, post, T, fr, h1, h2, h3, h4, h5⟩ := h hx
    exact ⟨g, off, pre, el, post, T, fr, h1, hs _ h2, h3, h4, ER_mono hs h5⟩⟩
  locO hs := fun h => h.imp id fun ⟨g, off, cap, pre, el, post, e, hg, hh, ho, hl, hp, hm, S', h1, h2, h3⟩ => ⟨g, off, cap, pre, el, post, e, hg, (hs _ hg).trans hh, ho, hl, hp, hm, S', h1, h2, EO_loc (fun b h => hs b (h1 b h)) h3⟩
  locR hs := fun ⟨a, cap, e, hl, hm, hn, h⟩ => ⟨a, cap, e, hl, hm, hn, fun hx => by
    obtain ⟨g, off, pre, el, post, T, fr, h1, h2, h3, h4, h5⟩ := h hx
    exact ⟨g, off, pre, el, post, T, fr, h1, h2, (hs _ h2).trans h3, h4, ER_loc hs h5⟩⟩
  OR h := by
    rcases h with ⟨rfl, rfl⟩ | ⟨g, off, cap, pre, el, post, e, hg, hh, ho, hl, _, hm, S', h1, _, h3⟩
    · exact ⟨none, 0, rfl, Nat.le_refl _, Nat.zero_le _, fun _ => rfl, fun h => absurd rfl h⟩
    · exact ⟨_, cap, e, hl, hm, fun h => by simp at h, fun _ => ⟨g, off, pre, el, post, E, (0, 0), rfl, hg, hh, ho, ER_mono h1 (EO_ER h3)⟩⟩
  len := fun ⟨_, _, e, _⟩ => by subst e; rfl
  one := fun ⟨_, _, e, _⟩ => by subst e; intro v hv; simp at hv; subst hv; rfl

/-- A shared value: a fact on what nobody writes. -/
structure VP where
  holds : World → FP → Prop
  mono : ∀ {w : World} {Z Z' : FP}, (∀ b, Z b → Z' b) → holds w Z → holds w Z'
  loc : ∀ {w w' : World} {Z : FP}, Agree w w' Z → holds w Z → holds w' Z
def vw {α : Type} (K : Kind α) (x : α) (cs : List Value) : VP := ⟨fun w Z => K.R w Z x cs, K.monoR, K.locR⟩

/-- A slice whose array is its own; what its elements lead to is shared. -/
def rowH {α : Type} (E : TypeId) (K : Kind α) (xs : List α) (v : Value) (w : World) (Z S : FP) : Prop :=
  (v = .slice none 0 0 ∧ xs = []) ∨
  ∃ g off cap pre el post, v = .slice (some ⟨g, off, none⟩) xs.length cap ∧ S g ∧ w.heap[g]? = some (.cells (pre ++ el ++ post).toArray E (0, 0)) ∧ pre.length = off ∧
    xs.length ≤ cap ∧ (cap - xs.length) * K.n ≤ post.length ∧ cap ≤ maxLen ∧ ER K w xs Z el
def row {α : Type} (E : TypeId) (K : Kind α) (xs : List α) (v : Value) : SP where
  holds := rowH E K xs v
  mono hz hs := fun h => h.imp id fun ⟨g, off, cap, pre, el, post, e, hg, hh, ho, hl, hp, hm, hE⟩ => ⟨g, off, cap, pre, el, post, e, hs _ hg, hh, ho, hl, hp, hm, ER_mono hz hE⟩
  loc hz hs := fun h => h.imp id fun ⟨g, off, cap, pre, el, post, e, hg, hh, ho, hl, hp, hm, hE⟩ => ⟨g, off, cap, pre, el, post, e, hg, (hs _ hg).trans hh, ho, hl, hp, hm, ER_loc hz hE⟩
/-- It can be read, too. -/
theorem rowH.read {α : Type} {E : TypeId} {K : Kind α} {xs : List α} {v : Value} {w : World} {Z S : FP} (h : rowH E K xs v w Z S) : sliceR K w (fun b => Z b ∨ S b) xs [v] := by
  rcases h with ⟨rfl, rfl⟩ | ⟨g, off, cap, pre, el, post, e, hg, hh, ho, hl, _, hm, hE⟩
  · exact ⟨none, 0, rfl, Nat.le_refl _, Nat.zero_le _, fun _ => rfl, fun h => absurd rfl h⟩
  · exact ⟨_, cap, by rw [e], hl, hm, fun h => by simp at h, fun _ => ⟨g, off, pre, el, post, E, (0, 0), rfl, .inr hg, hh, ho, ER_mono (fun b h => .inl h) hE⟩⟩
/-- Its shape. -/
theorem rowH.shape {α : Type} {E : TypeId} {K : Kind α} {xs : List α} {v : Value} {w : World} {Z S : FP} (h : rowH E K xs v w Z S) : ∃ a c, v = .slice a xs.length c := by
  rcases h with ⟨rfl, rfl⟩ | ⟨g, off, cap, pre, el, post, e, _⟩
  · exact ⟨none, 0, rfl⟩
  · exact ⟨_, _, e⟩
theorem sliceR.shape {α : Type} {K : Kind α} {w : World} {S : FP} {xs : List α} {cs : List Value} (h : sliceR K w S xs cs) : ∃ a c, cs = [.slice a xs.length c] := by
  obtain ⟨a, c, e, _⟩ := h
  exact ⟨a, c, e⟩

end Go.Gx
