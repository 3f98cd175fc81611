/- The state of a walk: what the world holds, item by item; and what an operation does to it. -/
import Derived.Test.YtgcigcbhilcgoaaDoorHBase
namespace Go.Gx
open Go.RowKit

def itemHolds (w : World) (Z : FP) : List SP → FP → Prop
  | [], _ => True
  | P :: I, S => P.holds w Z S ∧ itemHolds w Z I S
theorem itemHolds_mono {w : World} {Z Z' S S' : FP} (hz : ∀ b, Z b → Z' b) (hs : ∀ b, S b → S' b) : ∀ {I : List SP}, itemHolds w Z I S → itemHolds w Z' I S'
  | [], _ => trivial
  | P :: _, ⟨h, k⟩ => ⟨P.mono hz hs h, itemHolds_mono hz hs k⟩
theorem itemHolds_loc {w w' : World} {Z S : FP} (hz : Agree w w' Z) (hs : Agree w w' S) : ∀ {I : List SP}, itemHolds w Z I S → itemHolds w' Z I S
  | [], _ => trivial
  | P :: _, ⟨h, k⟩ => ⟨P.loc hz hs h, itemHolds_loc hz hs k⟩
theorem itemHolds_get {w : World} {Z S : FP} {P : SP} : ∀ {I : List SP} {k : Nat}, itemHolds w Z I S → I[k]? = some P → P.holds w Z S
  | [], _, _, h => by simp at h
  | Q :: _, 0, ⟨h, _⟩, e => by
    obtain rfl : Q = P := by simpa using e
    exact h
  | _ :: _, k + 1, ⟨_, h⟩, e => itemHolds_get h (by simpa using e)

/-- What is shared. -/
def argHolds (w : World) : List VP → FP → Prop
  | [], _ => True
  | P :: A, Z => P.holds w Z ∧ argHolds w A Z
theorem argHolds_mono {w : World} {Z Z' : FP} (hz : ∀ b, Z b → Z' b) : ∀ {A : List VP}, argHolds w A Z → argHolds w A Z'
  | [], _ => trivial
  | P :: _, ⟨h, k⟩ => ⟨P.mono hz h, argHolds_mono hz k⟩
theorem argHolds_loc {w w' : World} {Z : FP} (hz : Agree w w' Z) : ∀ {A : List VP}, argHolds w A Z → argHolds w' A Z
  | [], _ => trivial
  | P :: _, ⟨h, k⟩ => ⟨P.loc hz h, argHolds_loc hz k⟩
theorem argHolds_get {w : World} {Z : FP} {P : VP} : ∀ {A : List VP} {k : Nat}, argHolds w A Z → A[k]? = some P → P.holds w Z
  | [], _, _, h => by simp at h
  | Q :: _, 0, ⟨h, _⟩, e => by
    obtain rfl : Q = P := by simpa using e
    exact h
  | _ :: _, k + 1, ⟨_, h⟩, e => argHolds_get h (by simpa using e)
theorem argHolds_append {w : World} {Z : FP} : ∀ {A B : List VP}, argHolds w A Z → argHolds w B Z → argHolds w (A ++ B) Z
  | [], _, _, k => k
  | _ :: _, _, ⟨h, h'⟩, k => ⟨h, argHolds_append h' k⟩

/-- Each item on blocks of its own. -/
def Holds (w : World) (Z : FP) : List (List SP) → FP → Prop
  | [], _ => True
  | I :: L, S => ∃ S1 S2, (∀ b, S1 b → S b) ∧ (∀ b, S2 b → S b) ∧ (∀ b, S1 b → ¬ S2 b) ∧ itemHolds w Z I S1 ∧ Holds w Z L S2
theorem Holds_mono {w : World} {Z Z' : FP} (hz : ∀ b, Z b → Z' b) : ∀ {L : List (List SP)} {S S' : FP}, (∀ b, S b → S' b) → Holds w Z L S → Holds w Z' L S'
  | [], _, _, _, _ => trivial
  | _ :: _, _, _, hs, ⟨S1, S2, h1, h2, hd, k1, k2⟩ => ⟨S1, S2, fun b h => hs b (h1 b h), fun b h => hs b (h2 b h), hd, itemHolds_mono hz (fun _ h => h) k1, Holds_mono hz (fun _ h => h) k2⟩
theorem Holds_loc {w w' : World} {Z : FP} (hz : Agree w w' Z) : ∀ {L : List (List SP)} {S : FP}, Agree w w' S → Holds w Z L S → Holds w' Z L S
  | [], _, _, _ => trivial
  | _ :: _, _, hs, ⟨S1, S2, h1, h2, hd, k1, k2⟩ => ⟨S1, S2, h1, h2, hd, itemHolds_loc hz (fun b h => hs b (h1 b h)) k1, Holds_loc hz (fun b h => hs b (h2 b h)) k2⟩
theorem Holds_get {w : World} {Z : FP} : ∀ {L : List (List SP)} {S : FP} {i : Nat} {I : List SP}, Holds w Z L S → L[i]? = some I →
    ∃ S1 S2, (∀ b, S1 b → S b) ∧ (∀ b, S2 b → S b) ∧ (∀ b, S1 b → ¬ S2 b) ∧ itemHolds w Z I S1 ∧ Holds w Z (L.eraseIdx i) S2
  | [], _, _, _, _, h => by simp at h
  | J :: L, S, 0, I, ⟨S1, S2, h1, h2, hd, k1, k2⟩, e => by
    obtain rfl : J = I := by simpa using e
    exact ⟨S1, S2, h1, h2, hd, k1, k2⟩
  | J :: L, S, i + 1, I, ⟨S1, S2, h1, h2, hd, k1, k2⟩, e => by
    obtain ⟨T1, T2, g1, g2, gd, l1, l2⟩ := Holds_get k2 (by simpa using e : L[i]? = some I)
    refine ⟨T1, fun b => S1 b ∨ T2 b, fun b h => h2 b (g1 b h), fun b h => h.elim (h1 b) (fun h => h2 b (g2 b h)), fun b h hh => hh.elim (fun hh => hd b hh (g1 b h)) (gd b h), l1, ?_⟩
    exact ⟨S1, T2, fun b h => .inl h, fun b h => .inr h, fun b h hh => hd b h (g2 b hh), k1, l2⟩
theorem Holds_put {w : World} {Z : FP} : ∀ {L : List (List SP)} {i : Nat} {I : List SP} {S1 S2 : FP}, i < L.length → itemHolds w Z I S1 → Holds w Z (L.eraseIdx i) S2 → (∀ b, S1 b → ¬ S2 b) →
    Holds w Z (L.set i I) (fun b => S1 b ∨ S2 b)
  | [], _, _, _, _, h, _, _, _ => by simp at h
  | J :: L, 0, I, S1, S2, _, h, k, hd => ⟨S1, S2, fun b h => .inl h, fun b h => .inr h, hd, h, k⟩
  | J :: L, i + 1, I, S1, S2, hi, h, ⟨T1, T2, g1, g2, gd, l1, l2⟩, hd => by
    have := Holds_put (i := i) (by simpa using hi) h l2 (fun b hb hh => hd b hb (g2 b hh))
    exact ⟨T1, fun b => S1 b ∨ T2 b, fun b h => .inr (g1 b h), fun b h => h.elim .inl (fun h => .inr (g2 b h)), fun b h hh => hh.elim (fun hh => hd b hh (g1 b h)) (gd b h), l1, this⟩
theorem Holds_append {w : World} {Z : FP} : ∀ {L N : List (List SP)} {S T : FP}, Holds w Z L S → Holds w Z N T → (∀ b, S b → ¬ T b) → Holds w Z (L ++ N) (fun b => S b ∨ T b)
  | [], N, S, T, _, h, _ => Holds_mono (fun _ h => h) (fun b h => .inr h) h
  | J :: L, N, S, T, ⟨S1, S2, h1, h2, hd, k1, k2⟩, h, hdis => by
    have := Holds_append k2 h (fun b hb => hdis b (h2 b hb))
    exact ⟨S1, fun b => S2 b ∨ T b, fun b h => .inl (h1 b h), fun b h => h.elim (fun h => .inl (h2 b h)) .inr, fun b h hh => hh.elim (hd b h) (hdis b (h1 b h)), k1, this⟩
theorem Holds_sub {w : World} {Z : FP} {N L : List (List SP)} (hs : N.Sublist L) : ∀ {S : FP}, Holds w Z L S → Holds w Z N S := by
  induction hs with
  | slnil => exact fun h => h
  | cons _ _ ih => exact fun ⟨_, _, _, h2, _, _, k⟩ => Holds_mono (fun _ h => h) h2 (ih k)
  | cons_cons _ _ ih => exact fun ⟨S1, S2, h1, h2, hd, k1, k2⟩ => ⟨S1, S2, h1, h2, hd, k1, ih k2⟩
theorem Holds_erase {w : World} {Z : FP} {L : List (List SP)} {S : FP} {i : Nat} (h : Holds w Z L S) : Holds w Z (L.eraseIdx i) S := by
  rcases Nat.lt_or_ge i L.length with hi | hi
  · obtain ⟨S1, S2, _, h2, _, _, k⟩ := Holds_get h (List.getElem?_eq_getElem hi)
    exact Holds_mono (fun _ h => h) h2 k
  · rw [List.eraseIdx_of_length_le hi]; exact h

/-- What a step may have changed: of the old blocks those in T alone. -/
structure Chg (w w' : World) (T : FP) : Prop where
  os : w'.os = w.os
  tape : w'.tape = w.tape
  output : w'.output = w.output
  size : w.heap.size ≤ w'.heap.size
  keep : ∀ b, b < w.heap.size → ¬ T b → w'.heap[b]? = w.heap[b]?
theorem Chg.refl (w : World) (T : FP) : Chg w w T := ⟨rfl, rfl, rfl, Nat.le_refl _, fun _ _ _ => rfl⟩
theorem Chg.mono {w w' : World} {T T' : FP} (h : Chg w w' T) (ht : ∀ b, T b → T' b) : Chg w w' T' := ⟨h.os, h.tape, h.output, h.size, fun b hb hn => h.keep b hb (fun h => hn (ht b h))⟩
/-- A second step, which changes what T says, of what was new in the first one whatever it likes. -/
theorem Chg.trans {w w1 w2 : World} {T U : FP} (h : Chg w w1 T) (k : Chg w1 w2 U) (hu : ∀ b, U b → b < w.heap.size → T b) : Chg w w2 T :=
  ⟨k.os.trans h.os, k.tape.trans h.tape, k.output.trans h.output, Nat.le_trans h.size k.size,
    fun b hb hn => (k.keep b (Nat.lt_of_lt_of_le hb h.size) (fun h => hn (hu b h hb))).trans (h.keep b hb hn)⟩
theorem Chg.below {w w' : World} (h : Chg w w' Nil) : Below w.heap.size w w' := ⟨h.os, h.tape, h.output, h.size, fun b hb => h.keep b hb (fun h => h)⟩
theorem Chg.drew (w : World) (T : FP) : Chg w w.drew T := ⟨rfl, rfl, rfl, Nat.le_refl _, fun _ _ _ => rfl⟩
theorem Chg.alloc (w : World) (o : Obj) (T : FP) : Chg w (w.alloc o) T :=
  ⟨rfl, rfl, rfl, by simp, fun b hb _ => Below.heap_alloc w o b hb⟩

/-- The state: since w0 of the old blocks only those in M have changed; w holds what is shared, A, and L, each item on blocks of its own. -/
structure St (w0 : World) (M Y : FP) (w : World) (A : List VP) (L : List (List SP)) : Prop where
  chg : Chg w0 w M
  own : ∃ (Z S : FP), argHolds w A Z ∧ Holds w Z L S ∧ (∀ b, Z b → ¬ S b) ∧ (∀ b, Z b → b < w.heap.size) ∧ (∀ b, S b → b < w.heap.size ∧ (w0.heap.size ≤ b ∨ M b)) ∧ (∀ b, Z b → Y b ∨ w0.heap.size ≤ b ∨ M b)
/-- What a call hands back: what is shared leads to Z, to new blocks or to what was lent; what it owns is new or was lent. -/
structure PostG (w w' : World) (M Z : FP) (A : List VP) (N : List (List SP)) : Prop where
  chg : Chg w w' M
  own : ∃ (Z' S : FP), argHolds w' A (fun b => Z b ∨ Z' b) ∧ Holds w' (fun b => Z b ∨ Z' b) N S ∧ (∀ b, Z' b → ¬ S b) ∧ (∀ b, Z' b → b < w'.heap.size ∧ (w.heap.size ≤ b ∨ M b)) ∧ (∀ b, S b → b < w'.heap.size ∧ (w.heap.size ≤ b ∨ M b))
/-- Out of L the items Lc are taken, one after the other; Lr is left. -/
inductive Ext {X : Type _} : List X → X → List X → Prop
  | z {x : X} {L : List X} : Ext (x :: L) x L
  | s {x y : X} {L L' : List X} : Ext L x L' → Ext (y :: L) x (y :: L')
inductive Pick {X : Type _} : List X → List X → List X → Prop
  | nil {L : List X} : Pick L [] L
  | cons {x : X} {L L1 Lc Lr : List X} : Ext L x L1 → Pick L1 Lc Lr → Pick L (x :: Lc) Lr
theorem Holds_ext {w : World} {Z : FP} {L L' : List (List SP)} {I : List SP} (h : Ext L I L') : ∀ {S : FP}, Holds w Z L S →
    ∃ S1 S2, (∀ b, S1 b → S b) ∧ (∀ b, S2 b → S b) ∧ (∀ b, S1 b → ¬ S2 b) ∧ itemHolds w Z I S1 ∧ Holds w Z L' S2 := by
  induction h with
  | z => exact fun h => h
  | s _ ih =>
    rintro S ⟨S1, S2, h1, h2, hd, k1, k2⟩
    obtain ⟨T1, T2, g1, g2, gd, l1, l2⟩ := ih k2
    exact ⟨T1, fun b => S1 b ∨ T2 b, fun b h => h2 b (g1 b h), fun b h => h.elim (h1 b) (fun h => h2 b (g2 b h)), fun b h hh => hh.elim (fun hh => hd b hh (g1 b h)) (gd b h), l1, S1, T2, fun b h => .inl h, fun b h => .inr h, fun b h hh => hd b h (g2 b hh), k1, l2⟩
theorem Holds_pick {w : World} {Z : FP} {L Lc Lr : List (List SP)} (h : Pick L Lc Lr) : ∀ {S : FP}, Holds w Z L S →
    ∃ S1 S2, (∀ b, S1 b → S b) ∧ (∀ b, S2 b → S b) ∧ (∀ b, S1 b → ¬ S2 b) ∧ Holds w Z Lc S1 ∧ Holds w Z Lr S2 := by
  induction h with
  | nil => exact fun {S} h => ⟨fun _ => False, S, fun _ h => h.elim, fun _ h => h, fun _ h => h.elim, trivial, h⟩
  | cons e _ ih =>
    intro S h
    obtain ⟨S1, S2, h1, h2, hd, k1, k2⟩ := Holds_ext e h
    obtain ⟨T1, T2, g1, g2, gd, l1, l2⟩ := ih k2
    exact ⟨fun b => S1 b ∨ T1 b, T2, fun b h => h.elim (h1 b) (fun h => h2 b (g1 b h)), fun b h => h2 b (g2 b h), fun b h hh => h.elim (fun h => hd b h (g2 b hh)) (fun h => gd b h hh), ⟨S1, T1, fun b h => .inl h, fun b h => .inr h, fun b h hh => hd b h (g1 b hh), k1, l1⟩, l2⟩
section
variable {w0 w w' : World} {M Y : FP} {A A' : List VP} {L N : List (List SP)} {I I' : List SP} {i k : Nat} {P : SP}
theorem St.arg {V : VP} (H : St w0 M Y w A L) (hk : A[k]? = some V) : ∃ Z, V.holds w Z :=
  let ⟨Z, _, h, _⟩ := H.own
  ⟨Z, argHolds_get h hk⟩
theorem St.item (H : St w0 M Y w A L) (hi : L[i]? = some I) : ∃ Z S, itemHolds w Z I S :=
  let ⟨Z, _, _, h, _⟩ := H.own
  let ⟨S1, _, _, _, _, k, _⟩ := Holds_get h hi
  ⟨Z, S1, k⟩
theorem St.get (H : St w0 M Y w A L) (hi : L[i]? = some I) (hk : I[k]? = some P) : ∃ Z S, P.holds w Z S :=
  let ⟨Z, S, h⟩ := H.item hi
  ⟨Z, S, itemHolds_get h hk⟩
/-- Behind a call that was lent Lc. -/
theorem St.callG {Z S Sc Sr : FP} {Lr : List (List SP)} (hc : Chg w0 w M) (h1 : argHolds w A Z) (h3 : ∀ b, Z b → ¬ S b) (h4 : ∀ b, Z b → b < w.heap.size) (h5 : ∀ b, S b → b < w.heap.size ∧ (w0.heap.size ≤ b ∨ M b)) (h6 : ∀ b, Z b → Y b ∨ w0.heap.size ≤ b ∨ M b)
    (e1 : ∀ b, Sc b → S b) (e2 : ∀ b, Sr b → S b) (ed : ∀ b, Sc b → ¬ Sr b) (k2 : Holds w Z Lr Sr) (p : PostG w w' Sc Z A' N) : St w0 M Y w' (A' ++ A) (N ++ Lr) := by
  obtain ⟨c, Z', T, hA, hN, hzt, hz', ht⟩ := p
  have agZ : Agree w w' Z := fun b hb => c.keep b (h4 b hb) (fun h => h3 b hb (e1 b h))
  have agS : Agree w w' Sr := fun b hb => c.keep b (h5 b (e2 b hb)).1 (fun h => ed b h hb)
  have hnew : ∀ b, (w.heap.size ≤ b ∨ Sc b) → (w0.heap.size ≤ b ∨ M b) := fun b h => h.elim (fun h => .inl (Nat.le_trans hc.size h)) (fun h => (h5 b (e1 b h)).2)
  refine ⟨hc.trans c (fun b hb hlt => (h5 b (e1 b hb)).2.elim (fun h => by omega) id), fun b => Z b ∨ Z' b, fun b => T b ∨ Sr b, ?_, ?_, ?_, ?_, ?_, ?_⟩
  · exact argHolds_append hA (argHolds_mono (fun b h => .inl h) (argHolds_loc agZ h1))
  · exact Holds_append hN (Holds_mono (fun b h => .inl h) (fun _ h => h) (Holds_loc agZ agS k2)) (fun b hb hh => (ht b hb).2.elim (fun h => by have := (h5 b (e2 b hh)).1; omega) (fun h => ed b h hh))
  · intro b hb hh
    rcases hb with hb | hb <;> rcases hh with hh | hh
    · rcases (ht b hh).2 with h | h
      · have := h4 b hb; omega
      · exact h3 b hb (e1 b h)
    · exact h3 b hb (e2 b hh)
    · exact hzt b hb hh
    · rcases (hz' b hb).2 with h | h
      · have := (h5 b (e2 b hh)).1; omega
      · exact ed b h hh
  · intro b hb
    rcases hb with hb | hb
    · exact Nat.lt_of_lt_of_le (h4 b hb) c.size
    · exact (hz' b hb).1
  · intro b hb
    rcases hb with hb | hb
    · exact ⟨(ht b hb).1, hnew b (ht b hb).2⟩
    · exact ⟨Nat.lt_of_lt_of_le (h5 b (e2 b hb)).1 c.size, (h5 b (e2 b hb)).2⟩
  · intro b hb
    rcases hb with hb | hb
    · exact h6 b hb
    · exact .inr (hnew b (hz' b hb).2)
/-- What is new. -/
theorem St.postN (H : St w0 M Y w A L) (p : PostG w w' Nil Nil A' N) : St w0 M Y w' (A' ++ A) (N ++ L) := by
  obtain ⟨hc, Z, S, h1, h2, h3, h4, h5, h6⟩ := H
  refine St.callG (Sc := Nil) (Sr := S) hc h1 h3 h4 h5 h6 (fun _ h => h.elim) (fun _ h => h) (fun _ h => h.elim) h2 ?_
  obtain ⟨c, Z', T, hA, hN, h⟩ := p
  exact ⟨c, Z', T, argHolds_mono (fun b h => h.elim (fun h => h.elim) .inr) hA, Holds_mono (fun b h => h.elim (fun h => h.elim) .inr) (fun _ h => h) hN, h⟩
/-- Nothing old has changed. -/
theorem St.frame (H : St w0 M Y w A L) (c : Chg w w' Nil) : St w0 M Y w' A L := by
  exact H.postN (A' := []) (N := []) ⟨c, Nil, Nil, trivial, trivial, fun _ h => h.elim, fun _ h => h.elim, fun _ h => h.elim⟩
/-- What is new: items, each on new blocks. -/
def News (w w' : World) (N : List (List SP)) : Prop := ∃ S, (∀ b, S b → w.heap.size ≤ b ∧ b < w'.heap.size) ∧ Holds w' Nil N S
theorem News.nil (w w' : World) : News w w' [] := ⟨Nil, fun _ h => h.elim, trivial⟩
theorem News.one {S : FP} (hs : ∀ b, S b → w.heap.size ≤ b ∧ b < w'.heap.size) (h : itemHolds w' Nil I S) : News w w' [I] :=
  ⟨S, hs, S, Nil, fun _ h => h, fun _ h => h.elim, fun _ _ h => h.elim, h, trivial⟩
theorem St.news (H : St w0 M Y w A L) (c : Chg w w' Nil) (hn : News w w' N) : St w0 M Y w' A (N ++ L) := by
  obtain ⟨T, ht, hN⟩ := hn
  exact H.postN (A' := []) (N := N) ⟨c, Nil, T, trivial, Holds_mono (fun _ h => h.elim) (fun _ h => h) hN, fun _ h => h.elim, fun _ h => h.elim, fun b h => ⟨(ht b h).2, .inl (ht b h).1⟩⟩
/-- A step that turns the item i, and nothing else. -/
theorem St.updE {ρ : Sort _} {Wr : ρ → World} {Ir : ρ → List SP} {Φ : ρ → Prop} (H : St w0 M Y w A L) (hi : L[i]? = some I)
    (f : ∀ (Z S1 : FP), (∀ b, Z b → b < w.heap.size) → (∀ b, S1 b → b < w.heap.size) → (∀ b, Z b → ¬ S1 b) → argHolds w A Z → (∃ S, Holds w Z L S) → itemHolds w Z I S1 →
      ∃ r, Φ r ∧ ∃ S1', itemHolds (Wr r) Z (Ir r) S1' ∧ (∀ b, S1' b → S1 b ∨ (w.heap.size ≤ b ∧ b < (Wr r).heap.size)) ∧ Chg w (Wr r) S1) : ∃ r, Φ r ∧ St w0 M Y (Wr r) A (L.set i (Ir r)) := by
  obtain ⟨hc, S0, S, h1, h2, h3, h4, h5, h6⟩ := H
  obtain ⟨S1, S2, g1, g2, gd, k1, k2⟩ := Holds_get h2 hi
  obtain ⟨r, hr, S1', l1, l2, c⟩ := f S0 S1 h4 (fun b hb => (h5 b (g1 b hb)).1) (fun b hb hh => h3 b hb (g1 b hh)) h1 ⟨S, h2⟩ k1
  refine ⟨r, hr, ?_⟩
  have hil : i < L.length := by
    rcases Nat.lt_or_ge i L.length with h | h
    · exact h
    · rw [List.getElem?_eq_none h] at hi; cases hi
  have ag2 : Agree w (Wr r) S2 := fun b hb => c.keep b (h5 b (g2 b hb)).1 (fun h => gd b h hb)
  have ag0 : Agree w (Wr r) S0 := fun b hb => c.keep b (h4 b hb) (fun h => h3 b hb (g1 b h))
  refine ⟨hc.trans c ?_, S0, fun b => S1' b ∨ S2 b, argHolds_loc ag0 h1, Holds_put hil l1 (Holds_loc ag0 ag2 k2) ?_, ?_, ?_, ?_, h6⟩
  · intro b hb hlt
    rcases (h5 b (g1 b hb)).2 with h | h
    · omega
    · exact h
  · intro b hb hh
    rcases l2 b hb with h | h
    · exact gd b h hh
    · have := (h5 b (g2 b hh)).1; omega
  · intro b hb hh
    rcases hh with hh | hh
    · rcases l2 b hh with h | h
      · exact h3 b hb (g1 b h)
      · have := h4 b hb; omega
    · exact h3 b hb (g2 b hh)
  · intro b hb; exact Nat.lt_of_lt_of_le (h4 b hb) c.size
  · intro b hb
    rcases hb with hb | hb
    · rcases l2 b hb with h | h
      · exact ⟨Nat.lt_of_lt_of_le (h5 b (g1 b h)).1 c.size, (h5 b (g1 b h)).2⟩
      · exact ⟨h.2, .inl (Nat.le_trans hc.size h.1)⟩
    · exact ⟨Nat.lt_of_lt_of_le (h5 b (g2 b hb)).1 c.size, (h5 b (g2 b hb)).2⟩
theorem St.upd (H : St w0 M Y w A L) (hi : L[i]? = some I)
    (f : ∀ (Z S1 : FP), (∀ b, Z b → b < w.heap.size) → (∀ b, S1 b → b < w.heap.size) → (∀ b, Z b → ¬ S1 b) → argHolds w A Z → itemHolds w Z I S1 → ∃ S1', itemHolds w' Z I' S1' ∧ (∀ b, S1' b → S1 b ∨ (w.heap.size ≤ b ∧ b < w'.heap.size)) ∧ Chg w w' S1) : St w0 M Y w' A (L.set i I') :=
  let ⟨_, _, h⟩ := H.updE (ρ := Unit) (Wr := fun _ => w') (Ir := fun _ => I') (Φ := fun _ => True) hi fun Z S1 h1 h2 h3 h4 _ h6 => ⟨(), trivial, f Z S1 h1 h2 h3 h4 h6⟩
  h
/-- Items that are no longer wanted. -/
theorem St.drop (H : St w0 M Y w A L) (i : Nat) : St w0 M Y w A (L.eraseIdx i) := by
  obtain ⟨hc, S0, S, h1, h2, h3⟩ := H
  exact ⟨hc, S0, S, h1, Holds_erase h2, h3⟩
/-- An item is shared from now on: what can be read of it. -/
theorem St.share {L' : List (List SP)} (H : St w0 M Y w A L) (hi : Ext L I L') (f : ∀ Z S1, itemHolds w Z I S1 → argHolds w A' (fun b => Z b ∨ S1 b)) : St w0 M Y w (A' ++ A) L' := by
  obtain ⟨hc, S0, S, h1, h2, h3, h4, h5, h6⟩ := H
  obtain ⟨S1, S2, g1, g2, gd, k1, k2⟩ := Holds_ext hi h2
  refine ⟨hc, fun b => S0 b ∨ S1 b, S2, argHolds_append (f _ _ k1) (argHolds_mono (fun b h => .inl h) h1), Holds_mono (fun b h => .inl h) (fun b h => h) k2, ?_, ?_, ?_, ?_⟩
  · intro b hb hh
    rcases hb with hb | hb
    · exact h3 b hb (g2 b hh)
    · exact gd b hb hh
  · intro b hb
    rcases hb with hb | hb
    · exact h4 b hb
    · exact (h5 b (g1 b hb)).1
  · intro b hb; exact h5 b (g2 b hb)
  · intro b hb
    rcases hb with hb | hb
    · exact h6 b hb
    · exact .inr (h5 b (g1 b hb)).2
theorem St.front1 {L' : List (List SP)} (H : St w0 M Y w A L) (hi : Ext L I L') : St w0 M Y w A (I :: L') := by
  obtain ⟨hc, Z, S, h1, h2, h3, h4, h5, h6⟩ := H
  obtain ⟨S1, S2, e1, e2, ed, k1, k2⟩ := Holds_ext hi h2
  exact ⟨hc, Z, S, h1, ⟨S1, S2, e1, e2, ed, k1, k2⟩, h3, h4, h5, h6⟩
/-- More facts of what is shared. -/
theorem St.more (H : St w0 M Y w A L) (f : ∀ Z, argHolds w A Z → argHolds w A' Z) : St w0 M Y w (A' ++ A) L := by
  obtain ⟨hc, S0, S, h1, h2⟩ := H
  exact ⟨hc, S0, S, argHolds_append (f _ h1) h1, h2⟩
theorem St.subA (H : St w0 M Y w A L) (h : ∀ P, P ∈ A' → P ∈ A) : St w0 M Y w A' L := by
  obtain ⟨hc, S0, S, h1, h2⟩ := H
  refine ⟨hc, S0, S, ?_, h2⟩
  have : ∀ B : List VP, (∀ P, P ∈ B → P ∈ A) → argHolds w B S0 := by
    intro B
    induction B with
    | nil => intro _; trivial
    | cons P B ih =>
      intro hB
      obtain ⟨k, hk⟩ := List.mem_iff_getElem?.1 (hB P (by simp))
      exact ⟨argHolds_get h1 hk, ih fun Q hQ => hB Q (by simp [hQ])⟩
  exact this A' h
/-- The end of a call: of what is shared A', of what is its own N. -/
theorem St.leave {N : List (List SP)} (H : St w0 M Y w A L) (hA : ∀ Z, argHolds w A Z → argHolds w A' Z) (hN : ∀ Z S, Holds w Z L S → Holds w Z N S) : PostG w0 w M Y A' N := by
  obtain ⟨hc, Z, S, h1, h2, h3, h4, h5, h6⟩ := H
  have hz : ∀ b, Z b → (Y b ∨ (Z b ∧ (w0.heap.size ≤ b ∨ M b))) := fun b hb => (h6 b hb).imp id (fun h => ⟨hb, h⟩)
  exact ⟨hc, fun b => Z b ∧ (w0.heap.size ≤ b ∨ M b), S, argHolds_mono hz (hA Z h1), Holds_mono hz (fun _ h => h) (hN Z S h2), fun b hb => h3 b hb.1, fun b hb => ⟨h4 b hb.1, hb.2⟩, h5⟩
/-- The begin of a call. -/
theorem St.init {Z : FP} (hz : ∀ b, Z b → b < w.heap.size ∧ ¬ M b) (hA : argHolds w A Z) (hL : ∃ S, (∀ b, S b → M b ∧ b < w.heap.size) ∧ Holds w Z L S) : St w M Z w A L := by
  obtain ⟨S, hs, hL⟩ := hL
  exact ⟨Chg.refl _ _, Z, S, hA, hL, fun b hb hh => (hz b hb).2 (hs b hh).1, fun b hb => (hz b hb).1, fun b hb => ⟨(hs b hb).2, .inr (hs b hb).1⟩, fun b h => .inl h⟩
end

/-- What stands in a list; and what the list is when another thing stands there. -/
inductive At {X : Type _} : List X → X → Prop
  | z {x : X} {L : List X} : At (x :: L) x
  | s {x y : X} {L : List X} : At L x → At (y :: L) x
inductive Upd {X : Type _} : List X → X → X → List X → Prop
  | z {x y : X} {L : List X} : Upd (x :: L) x y (y :: L)
  | s {x y u : X} {L L' : List X} : Upd L x y L' → Upd (u :: L) x y (u :: L')
theorem Ext.get {X : Type _} {L Lr : List X} {x : X} (h : Ext L x Lr) : ∃ i : Nat, L[i]? = some x ∧ ∀ y, Ext (L.set i y) y Lr := by
  induction h with
  | z => exact ⟨0, rfl, fun y => .z⟩
  | s _ ih => obtain ⟨i, hi, hs⟩ := ih; exact ⟨i + 1, by simpa using hi, fun y => .s (hs y)⟩
theorem At.get {X : Type _} {L : List X} {x : X} (h : At L x) : ∃ i : Nat, L[i]? = some x := by
  induction h with
  | z => exact ⟨0, rfl⟩
  | s _ ih => obtain ⟨i, hi⟩ := ih; exact ⟨i + 1, by simpa using hi⟩
theorem Upd.get {X : Type _} {L L' : List X} {x y : X} (h : Upd L x y L') : ∃ i : Nat, L[i]? = some x ∧ L.set i y = L' := by
  induction h with
  | z => exact ⟨0, rfl, rfl⟩
  | s _ ih => obtain ⟨i, hi, hs⟩ := ih; exact ⟨i + 1, by simpa using hi, by simp [hs]⟩
theorem a0 {X : Type _} {x : X} {L : List X} : At (x :: L) x := .z
theorem a1 {X : Type _} {x0 x : X} {L : List X} : At (x0 :: x :: L) x := .s .z
theorem a2 {X : Type _} {x0 x1 x : X} {L : List X} : At (x0 :: x1 :: x :: L) x := .s (.s .z)
theorem a3 {X : Type _} {x0 x1 x2 x : X} {L : List X} : At (x0 :: x1 :: x2 :: x :: L) x := .s (.s (.s .z))
theorem a4 {X : Type _} {x0 x1 x2 x3 x : X} {L : List X} : At (x0 :: x1 :: x2 :: x3 :: x :: L) x := .s (.s (.s (.s .z)))
theorem a5 {X : Type _} {x0 x1 x2 x3 x4 x : X} {L : List X} : At (x0 :: x1 :: x2 :: x3 :: x4 :: x :: L) x := .s (.s (.s (.s (.s .z))))
theorem a6 {X : Type _} {x0 x1 x2 x3 x4 x5 x : X} {L : List X} : At (x0 :: x1 :: x2 :: x3 :: x4 :: x5 :: x :: L) x := .s (.s (.s (.s (.s (.s .z)))))
theorem a7 {X : Type _} {x0 x1 x2 x3 x4 x5 x6 x : X} {L : List X} : At (x0 :: x1 :: x2 :: x3 :: x4 :: x5 :: x6 :: x :: L) x := .s (.s (.s (.s (.s (.s (.s .z))))))
theorem a8 {X : Type _} {x0 x1 x2 x3 x4 x5 x6 x7 x : X} {L : List X} : At (x0 :: x1 :: x2 :: x3 :: x4 :: x5 :: x6 :: x7 :: x :: L) x := .s (.s (.s (.s (.s (.s (.s (.s .z)))))))
theorem a9 {X : Type _} {x0 x1 x2 x3 x4 x5 x6 x7 x8 x : X} {L : List X} : At (x0 :: x1 :: x2 :: x3 :: x4 :: x5 :: x6 :: x7 :: x8 :: x :: L) x := .s (.s (.s (.s (.s (.s (.s (.s (.s .z))))))))
theorem a10 {X : Type _} {x0 x1 x2 x3 x4 x5 x6 x7 x8 x9 x : X} {L : List X} : At (x0 :: x1 :: x2 :: x3 :: x4 :: x5 :: x6 :: x7 :: x8 :: x9 :: x :: L) x := .s (.s (.s (.s (.s (.s (.s (.s (.s (.s .z)))))))))
theorem a11 {X : Type _} {x0 x1 x2 x3 x4 x5 x6 x7 x8 x9 x10 x : X} {L : List X} : At (x0 :: x1 :: x2 :: x3 :: x4 :: x5 :: x6 :: x7 :: x8 :: x9 :: x10 :: x :: L) x := .s (.s (.s (.s (.s (.s (.s (.s (.s (.s (.s .z))))))))))
theorem a12 {X : Type _} {x0 x1 x2 x3 x4 x5 x6 x7 x8 x9 x10 x11 x : X} {L : List X} : At (x0 :: x1 :: x2 :: x3 :: x4 :: x5 :: x6 :: x7 :: x8 :: x9 :: x10 :: x11 :: x :: L) x := .s (.s (.s (.s (.s (.s (.s (.s (.s (.s (.s (.s .z)))))))))))
theorem a13 {X : Type _} {x0 x1 x2 x3 x4 x5 x6 x7 x8 x9 x10 x11 x12 x : X} {L : List X} : At (x0 :: x1 :: x2 :: x3 :: x4 :: x5 :: x6 :: x7 :: x8 :: x9 :: x10 :: x11 :: x12 :: x :: L) x := .s (.s (.s (.s (.s (.s (.s (.s (.s (.s (.s (.s (.s .z))))))))))))
theorem a14 {X : Type _} {x0 x1 x2 x3 x4 x5 x6 x7 x8 x9 x10 x11 x12 x13 x : X} {L : List X} : At (x0 :: x1 :: x2 :: x3 :: x4 :: x5 :: x6 :: x7 :: x8 :: x9 :: x10 :: x11 :: x12 :: x13 :: x :: L) x := .s (.s (.s (.s (.s (.s (.s (.s (.s (.s (.s (.s (.s (.s .z)))))))))))))
theorem a15 {X : Type _} {x0 x1 x2 x3 x4 x5 x6 x7 x8 x9 x10 x11 x12 x13 x14 x : X} {L : List X} : At (x0 :: x1 :: x2 :: x3 :: x4 :: x5 :: x6 :: x7 :: x8 :: x9 :: x10 :: x11 :: x12 :: x13 :: x14 :: x :: L) x := .s (.s (.s (.s (.s (.s (.s (.s (.s (.s (.s (.s (.s (.s (.s .z))))))))))))))
theorem a16 {X : Type _} {x0 x1 x2 x3 x4 x5 x6 x7 x8 x9 x10 x11 x12 x13 x14 x15 x : X} {L : List X} : At (x0 :: x1 :: x2 :: x3 :: x4 :: x5 :: x6 :: x7 :: x8 :: x9 :: x10 :: x11 :: x12 :: x13 :: x14 :: x15 :: x :: L) x := .s (.s (.s (.s (.s (.s (.s (.s (.s (.s (.s (.s (.s (.s (.s (.s .z)))))))))))))))
theorem a17 {X : Type _} {x0 x1 x2 x3 x4 x5 x6 x7 x8 x9 x10 x11 x12 x13 x14 x15 x16 x : X} {L : List X} : At (x0 :: x1 :: x2 :: x3 :: x4 :: x5 :: x6 :: x7 :: x8 :: x9 :: x10 :: x11 :: x12 :: x13 :: x14 :: x15 :: x16 :: x :: L) x := .s (.s (.s (.s (.s (.s (.s (.s (.s (.s (.s (.s (.s (.s (.s (.s (.s .z))))))))))))))))
theorem a18 {X : Type _} {x0 x1 x2 x3 x4 x5 x6 x7 x8 x9 x10 x11 x12 x13 x14 x15 x16 x17 x : X} {L : List X} : At (x0 :: x1 :: x2 :: x3 :: x4 :: x5 :: x6 :: x7 :: x8 :: x9 :: x10 :: x11 :: x12 :: x13 :: x14 :: x15 :: x16 :: x17 :: x :: L) x := .s (.s (.s (.s (.s (.s (.s (.s (.s (.s (.s (.s (.s (.s (.s (.s (.s (.s .z)))))))))))))))))
theorem a19 {X : Type _} {x0 x1 x2 x3 x4 x5 x6 x7 x8 x9 x10 x11 x12 x13 x14 x15 x16 x17 x18 x : X} {L : List X} : At (x0 :: x1 :: x2 :: x3 :: x4 :: x5 :: x6 :: x7 :: x8 :: x9 :: x10 :: x11 :: x12 :: x13 :: x14 :: x15 :: x16 :: x17 :: x18 :: x :: L) x := .s (.s (.s (.s (.s (.s (.s (.s (.s (.s (.s (.s (.s (.s (.s (.s (.s (.s (.s .z))))))))))))))))))
theorem a20 {X : Type _} {x0 x1 x2 x3 x4 x5 x6 x7 x8 x9 x10 x11 x12 x13 x14 x15 x16 x17 x18 x19 x : X} {L : List X} : At (x0 :: x1 :: x2 :: x3 :: x4 :: x5 :: x6 :: x7 :: x8 :: x9 :: x10 :: x11 :: x12 :: x13 :: x14 :: x15 :: x16 :: x17 :: x18 :: x19 :: x :: L) x := .s (.s (.s (.s (.s (.s (.s (.s (.s (.s (.s (.s (.s (.s (.s (.s (.s (.s (.s (.s .z)))))))))))))))))))
theorem a21 {X : Type _} {x0 x1 x2 x3 x4 x5 x6 x7 x8 x9 x10 x11 x12 x13 x14 x15 x16 x17 x18 x19 x20 x : X} {L : List X} : At (x0 :: x1 :: x2 :: x3 :: x4 :: x5 :: x6 :: x7 :: x8 :: x9 :: x10 :: x11 :: x12 :: x13 :: x14 :: x15 :: x16 :: x17 :: x18 :: x19 :: x20 :: x :: L) x := .s (.s (.s (.s (.s (.s (.s (.s (.s (.s (.s (.s (.s (.s (.s (.s (.s (.s (.s (.s (.s .z))))))))))))))))))))
theorem a22 {X : Type _} {x0 x1 x2 x3 x4 x5 x6 x7 x8 x9 x10 x11 x12 x13 x14 x15 x16 x17 x18 x19 x20 x21 x : X} {L : List X} : At (x0 :: x1 :: x2 :: x3 :: x4 :: x5 :: x6 :: x7 :: x8 :: x9 :: x10 :: x11 :: x12 :: x13 :: x14 :: x15 :: x16 :: x17 :: x18 :: x19 :: x20 :: x21 :: x :: L) x := .s (.s (.s (.s (.s (.s (.s (.s (.s (.s (.s (.s (.s (.s (.s (.s (.s (.s (.s (.s (.s (.s .z)))))))))))))))))))))
theorem a23 {X : Type _} {x0 x1 x2 x3 x4 x5 x6 x7 x8 x9 x10 x11 x12 x13 x14 x15 x16 x17 x18 x19 x20 x21 x22 x : X} {L : List X} : At (x0 :: x1 :: x2 :: x3 :: x4 :: x5 :: x6 :: x7 :: x8 :: x9 :: x10 :: x11 :: x12 :: x13 :: x14 :: x15 :: x16 :: x17 :: x18 :: x19 :: x20 :: x21 :: x22 :: x :: L) x := .s (.s (.s (.s (.s (.s (.s (.s (.s (.s (.s (.s (.s (.s (.s (.s (.s (.s (.s (.s (.s (.s (.s .z))))))))))))))))))))))
theorem e0 {X : Type _} {x : X} {L : List X} : Ext (x :: L) x (L) := .z
theorem e1 {X : Type _} {x0 x : X} {L : List X} : Ext (x0 :: x :: L) x (x0 :: L) := .s .z
theorem e2 {X : Type _} {x0 x1 x : X} {L : List X} : Ext (x0 :: x1 :: x :: L) x (x0 :: x1 :: L) := .s (.s .z)
theorem e3 {X : Type _} {x0 x1 x2 x : X} {L : List X} : Ext (x0 :: x1 :: x2 :: x :: L) x (x0 :: x1 :: x2 :: L) := .s (.s (.s .z))
theorem e4 {X : Type _} {x0 x1 x2 x3 x : X} {L : List X} : Ext (x0 :: x1 :: x2 :: x3 :: x :: L) x (x0 :: x1 :: x2 :: x3 :: L) := .s (.s (.s (.s .z)))
theorem e5 {X : Type _} {x0 x1 x2 x3 x4 x : X} {L : List X} : Ext (x0 :: x1 :: x2 :: x3 :: x4 :: x :: L) x (x0 :: x1 :: x2 :: x3 :: x4 :: L) := .s (.s (.s (.s (.s .z))))
theorem e6 {X : Type _} {x0 x1 x2 x3 x4 x5 x : X} {L : List X} : Ext (x0 :: x1 :: x2 :: x3 :: x4 :: x5 :: x :: L) x (x0 :: x1 :: x2 :: x3 :: x4 :: x5 :: L) := .s (.s (.s (.s (.s (.s .z)))))
theorem e7 {X : Type _} {x0 x1 x2 x3 x4 x5 x6 x : X} {L : List X} : Ext (x0 :: x1 :: x2 :: x3 :: x4 :: x5 :: x6 :: x :: L) x (x0 :: x1 :: x2 :: x3 :: x4 :: x5 :: x6 :: L) := .s (.s (.s (.s (.s (.s (.s .z))))))
theorem e8 {X : Type _} {x0 x1 x2 x3 x4 x5 x6 x7 x : X} {L : List X} : Ext (x0 :: x1 :: x2 :: x3 :: x4 :: x5 :: x6 :: x7 :: x :: L) x (x0 :: x1 :: x2 :: x3 :: x4 :: x5 :: x6 :: x7 :: L) := .s (.s (.s (.s (.s (.s (.s (.s .z)))))))
theorem e9 {X : Type _} {x0 x1 x2 x3 x4 x5 x6 x7 x8 x : X} {L : List X} : Ext (x0 :: x1 :: x2 :: x3 :: x4 :: x5 :: x6 :: x7 :: x8 :: x :: L) x (x0 :: x1 :: x2 :: x3 :: x4 :: x5 :: x6 :: x7 :: x8 :: L) := .s (.s (.s (.s (.s (.s (.s (.s (.s .z))))))))
theorem e10 {X : Type _} {x0 x1 x2 x3 x4 x5 x6 x7 x8 x9 x : X} {L : List X} : Ext (x0 :: x1 :: x2 :: x3 :: x4 :: x5 :: x6 :: x7 :: x8 :: x9 :: x :: L) x (x0 :: x1 :: x2 :: x3 :: x4 :: x5 :: x6 :: x7 :: x8 :: x9 :: L) := .s (.s (.s (.s (.s (.s (.s (.s (.s (.s .z)))))))))
theorem e11 {X : Type _} {x0 x1 x2 x3 x4 x5 x6 x7 x8 x9 x10 x : X} {L : List X} : Ext (x0 :: x1 :: x2 :: x3 :: x4 :: x5 :: x6 :: x7 :: x8 :: x9 :: x10 :: x :: L) x (x0 :: x1 :: x2 :: x3 :: x4 :: x5 :: x6 :: x7 :: x8 :: x9 :: x10 :: L) := .s (.s (.s (.s (.s (.s (.s (.s (.s (.s (.s .z))))))))))
theorem e12 {X : Type _} {x0 x1 x2 x3 x4 x5 x6 x7 x8 x9 x10 x11 x : X} {L : List X} : Ext (x0 :: x1 :: x2 :: x3 :: x4 :: x5 :: x6 :: x7 :: x8 :: x9 :: x10 :: x11 :: x :: L) x (x0 :: x1 :: x2 :: x3 :: x4 :: x5 :: x6 :: x7 :: x8 :: x9 :: x10 :: x11 :: L) := .s (.s (.s (.s (.s (.s (.s (.s (.s (.s (.s (.s .z)))))))))))
theorem e13 {X : Type _} {x0 x1 x2 x3 x4 x5 x6 x7 x8 x9 x10 x11 x12 x : X} {L : List X} : Ext (x0 :: x1 :: x2 :: x3 :: x4 :: x5 :: x6 :: x7 :: x8 :: x9 :: x10 :: x11 :: x12 :: x :: L) x (x0 :: x1 :: x2 :: x3 :: x4 :: x5 :: x6 :: x7 :: x8 :: x9 :: x10 :: x11 :: x12 :: L) := .s (.s (.s (.s (.s (.s (.s (.s (.s (.s (.s (.s (.s .z))))))))))))
theorem e14 {X : Type _} {x0 x1 x2 x3 x4 x5 x6 x7 x8 x9 x10 x11 x12 x13 x : X} {L : List X} : Ext (x0 :: x1 :: x2 :: x3 :: x4 :: x5 :: x6 :: x7 :: x8 :: x9 :: x10 :: x11 :: x12 :: x13 :: x :: L) x (x0 :: x1 :: x2 :: x3 :: x4 :: x5 :: x6 :: x7 :: x8 :: x9 :: x10 :: x11 :: x12 :: x13 :: L) := .s (.s (.s (.s (.s (.s (.s (.s (.s (.s (.s (.s (.s (.s .z)))))))))))))
theorem e15 {X : Type _} {x0 x1 x2 x3 x4 x5 x6 x7 x8 x9 x10 x11 x12 x13 x14 x : X} {L : List X} : Ext (x0 :: x1 :: x2 :: x3 :: x4 :: x5 :: x6 :: x7 :: x8 :: x9 :: x10 :: x11 :: x12 :: x13 :: x14 :: x :: L) x (x0 :: x1 :: x2 :: x3 :: x4 :: x5 :: x6 :: x7 :: x8 :: x9 :: x10 :: x11 :: x12 :: x13 :: x14 :: L) := .s (.s (.s (.s (.s (.s (.s (.s (.s (.s (.s (.s (.s (.s (.s .z))))))))))))))
theorem e16 {X : Type _} {x0 x1 x2 x3 x4 x5 x6 x7 x8 x9 x10 x11 x12 x13 x14 x15 x : X} {L : List X} : Ext (x0 :: x1 :: x2 :: x3 :: x4 :: x5 :: x6 :: x7 :: x8 :: x9 :: x10 :: x11 :: x12 :: x13 :: x14 :: x15 :: x :: L) x (x0 :: x1 :: x2 :: x3 :: x4 :: x5 :: x6 :: x7 :: x8 :: x9 :: x10 :: x11 :: x12 :: x13 :: x14 :: x15 :: L) := .s (.s (.s (.s (.s (.s (.s (.s (.s (.s (.s (.s (.s (.s (.s (.s .z)))))))))))))))
theorem e17 {X : Type _} {x0 x1 x2 x3 x4 x5 x6 x7 x8 x9 x10 x11 x12 x13 x14 x15 x16 x : X} {L : List X} : Ext (x0 :: x1 :: x2 :: x3 :: x4 :: x5 :: x6 :: x7 :: x8 :: x9 :: x10 :: x11 :: x12 :: x13 :: x14 :: x15 :: x16 :: x :: L) x (x0 :: x1 :: x2 :: x3 :: x4 :: x5 :: x6 :: x7 :: x8 :: x9 :: x10 :: x11 :: x12 :: x13 :: x14 :: x15 :: x16 :: L) := .s (.s (.s (.s (.s (.s (.s (.s (.s (.s (.s (.s (.s (.s (.s (.s (.s .z))))))))))))))))
theorem e18 {X : Type _} {x0 x1 x2 x3 x4 x5 x6 x7 x8 x9 x10 x11 x12 x13 x14 x15 x16 x17 x : X} {L : List X} : Ext (x0 :: x1 :: x2 :: x3 :: x4 :: x5 :: x6 :: x7 :: x8 :: x9 :: x10 :: x11 :: x12 :: x13 :: x14 :: x15 :: x16 :: x17 :: x :: L) x (x0 :: x1 :: x2 :: x3 :: x4 :: x5 :: x6 :: x7 :: x8 :: x9 :: x10 :: x11 :: x12 :: x13 :: x14 :: x15 :: x16 :: x17 :: L) := .s (.s (.s (.s (.s (.s (.s (.s (.s (.s (.s (.s (.s (.s (.s (.s (.s (.s .z)))))))))))))))))
theorem e19 {X : Type _} {x0 x1 x2 x3 x4 x5 x6 x7 x8 x9 x10 x11 x12 x13 x14 x15 x16 x17 x18 x : X} {L : List X} : Ext (x0 :: x1 :: x2 :: x3 :: x4 :: x5 :: x6 :: x7 :: x8 :: x9 :: x10 :: x11 :: x12 :: x13 :: x14 :: x15 :: x16 :: x17 :: x18 :: x :: L) x (x0 :: x1 :: x2 :: x3 :: x4 :: x5 :: x6 :: x7 :: x8 :: x9 :: x10 :: x11 :: x12 :: x13 :: x14 :: x15 :: x16 :: x17 :: x18 :: L) := .s (.s (.s (.s (.s (.s (.s (.s (.s (.s (.s (.s (.s (.s (.s (.s (.s (.s (.s .z))))))))))))))))))
theorem e20 {X : Type _} {x0 x1 x2 x3 x4 x5 x6 x7 x8 x9 x10 x11 x12 x13 x14 x15 x16 x17 x18 x19 x : X} {L : List X} : Ext (x0 :: x1 :: x2 :: x3 :: x4 :: x5 :: x6 :: x7 :: x8 :: x9 :: x10 :: x11 :: x12 :: x13 :: x14 :: x15 :: x16 :: x17 :: x18 :: x19 :: x :: L) x (x0 :: x1 :: x2 :: x3 :: x4 :: x5 :: x6 :: x7 :: x8 :: x9 :: x10 :: x11 :: x12 :: x13 :: x14 :: x15 :: x16 :: x17 :: x18 :: x19 :: L) := .s (.s (.s (.s (.s (.s (.s (.s (.s (.s (.s (.s (.s (.s (.s (.s (.s (.s (.s (.s .z)))))))))))))))))))
theorem e21 {X : Type _} {x0 x1 x2 x3 x4 x5 x6 x7 x8 x9 x10 x11 x12 x13 x14 x15 x16 x17 x18 x19 x20 x : X} {L : List X} : Ext (x0 :: x1 :: x2 :: x3 :: x4 :: x5 :: x6 :: x7 :: x8 :: x9 :: x10 :: x11 :: x12 :: x13 :: x14 :: x15 :: x16 :: x17 :: x18 :: x19 :: x20 :: x :: L) x (x0 :: x1 :: x2 :: x3 :: x4 :: x5 :: x6 :: x7 :: x8 :: x9 :: x10 :: x11 :: x12 :: x13 :: x14 :: x15 :: x16 :: x17 :: x18 :: x19 :: x20 :: L) := .s (.s (.s (.s (.s (.s (.s (.s (.s (.s (.s (.s (.s (.s (.s (.s (.s (.s (.s (.s (.s .z))))))))))))))))))))
theorem e22 {X : Type _} {x0 x1 x2 x3 x4 x5 x6 x7 x8 x9 x10 x11 x12 x13 x14 x15 x16 x17 x18 x19 x20 x21 x : X} {L : List X} : Ext (x0 :: x1 :: x2 :: x3 :: x4 :: x5 :: x6 :: x7 :: x8 :: x9 :: x10 :: x11 :: x12 :: x13 :: x14 :: x15 :: x16 :: x17 :: x18 :: x19 :: x20 :: x21 :: x :: L) x (x0 :: x1 :: x2 :: x3 :: x4 :: x5 :: x6 :: x7 :: x8 :: x9 :: x10 :: x11 :: x12 :: x13 :: x14 :: x15 :: x16 :: x17 :: x18 :: x19 :: x20 :: x21 :: L) := .s (.s (.s (.s (.s (.s (.s (.s (.s (.s (.s (.s (.s (.s (.s (.s (.s (.s (.s (.s (.s (.s .z)))))))))))))))))))))
theorem e23 {X : Type _} {x0 x1 x2 x3 x4 x5 x6 x7 x8 x9 x10 x11 x12 x13 x14 x15 x16 x17 x18 x19 x20 x21 x22 x : X} {L : List X} : Ext (x0 :: x1 :: x2 :: x3 :: x4 :: x5 :: x6 :: x7 :: x8 :: x9 :: x10 :: x11 :: x12 :: x13 :: x14 :: x15 :: x16 :: x17 :: x18 :: x19 :: x20 :: x21 :: x22 :: x :: L) x (x0 :: x1 :: x2 :: x3 :: x4 :: x5 :: x6 :: x7 :: x8 :: x9 :: x10 :: x11 :: x12 :: x13 :: x14 :: x15 :: x16 :: x17 :: x18 :: x19 :: x20 :: x21 :: x22 :: L) := .s (.s (.s (.s (.s (.s (.s (.s (.s (.s (.s (.s (.s (.s (.s (.s (.s (.s (.s (.s (.s (.s (.s .z))))))))))))))))))))))
theorem u0 {X : Type _} {x y : X} {L : List X} : Upd (x :: L) x y (y :: L) := .z
theorem u1 {X : Type _} {x0 x y : X} {L : List X} : Upd (x0 :: x :: L) x y (x0 :: y :: L) := .s .z
theorem u2 {X : Type _} {x0 x1 x y : X} {L : List X} : Upd (x0 :: x1 :: x :: L) x y (x0 :: x1 :: y :: L) := .s (.s .z)
theorem u3 {X : Type _} {x0 x1 x2 x y : X} {L : List X} : Upd (x0 :: x1 :: x2 :: x :: L) x y (x0 :: x1 :: x2 :: y :: L) := .s (.s (.s .z))
theorem u4 {X : Type _} {x0 x1 x2 x3 x y : X} {L : List X} : Upd (x0 :: x1 :: x2 :: x3 :: x :: L) x y (x0 :: x1 :: x2 :: x3 :: y :: L) := .s (.s (.s (.s .z)))
theorem u5 {X : Type _} {x0 x1 x2 x3 x4 x y : X} {L : List X} : Upd (x0 :: x1 :: x2 :: x3 :: x4 :: x :: L) x y (x0 :: x1 :: x2 :: x3 :: x4 :: y :: L) := .s (.s (.s (.s (.s .z))))
theorem u6 {X : Type _} {x0 x1 x2 x3 x4 x5 x y : X} {L : List X} : Upd (x0 :: x1 :: x2 :: x3 :: x4 :: x5 :: x :: L) x y (x0 :: x1 :: x2 :: x3 :: x4 :: x5 :: y :: L) := .s (.s (.s (.s (.s (.s .z)))))
theorem u7 {X : Type _} {x0 x1 x2 x3 x4 x5 x6 x y : X} {L : List X} : Upd (x0 :: x1 :: x2 :: x3 :: x4 :: x5 :: x6 :: x :: L) x y (x0 :: x1 :: x2 :: x3 :: x4 :: x5 :: x6 :: y :: L) := .s (.s (.s (.s (.s (.s (.s .z))))))
theorem u8 {X : Type _} {x0 x1 x2 x3 x4 x5 x6 x7 x y : X} {L : List X} : Upd (x0 :: x1 :: x2 :: x3 :: x4 :: x5 :: x6 :: x7 :: x :: L) x y (x0 :: x1 :: x2 :: x3 :: x4 :: x5 :: x6 :: x7 :: y :: L) := .s (.s (.s (.s (.s (.s (.s (.s .z)))))))
theorem u9 {X : Type _} {x0 x1 x2 x3 x4 x5 x6 x7 x8 x y : X} {L : List X} : Upd (x0 :: x1 :: x2 :: x3 :: x4 :: x5 :: x6 :: x7 :: x8 :: x :: L) x y (x0 :: x1 :: x2 :: x3 :: x4 :: x5 :: x6 :: x7 :: x8 :: y :: L) := .s (.s (.s (.s (.s (.s (.s (.s (.s .z))))))))
theorem u10 {X : Type _} {x0 x1 x2 x3 x4 x5 x6 x7 x8 x9 x y : X} {L : List X} : Upd (x0 :: x1 :: x2 :: x3 :: x4 :: x5 :: x6 :: x7 :: x8 :: x9 :: x :: L) x y (x0 :: x1 :: x2 :: x3 :: x4 :: x5 :: x6 :: x7 :: x8 :: x9 :: y :: L) := .s (.s (.s (.s (.s (.s (.s (.s (.s (.s .z)))))))))
theorem u11 {X : Type _} {x0 x1 x2 x3 x4 x5 x6 x7 x8 x9 x10 x y : X} {L : List X} : Upd (x0 :: x1 :: x2 :: x3 :: x4 :: x5 :: x6 :: x7 :: x8 :: x9 :: x10 :: x :: L) x y (x0 :: x1 :: x2 :: x3 :: x4 :: x5 :: x6 :: x7 :: x8 :: x9 :: x10 :: y :: L) := .s (.s (.s (.s (.s (.s (.s (.s (.s (.s (.s .z))))))))))
theorem u12 {X : Type _} {x0 x1 x2 x3 x4 x5 x6 x7 x8 x9 x10 x11 x y : X} {L : List X} : Upd (x0 :: x1 :: x2 :: x3 :: x4 :: x5 :: x6 :: x7 :: x8 :: x9 :: x10 :: x11 :: x :: L) x y (x0 :: x1 :: x2 :: x3 :: x4 :: x5 :: x6 :: x7 :: x8 :: x9 :: x10 :: x11 :: y :: L) := .s (.s (.s (.s (.s (.s (.s (.s (.s (.s (.s (.s .z)))))))))))
theorem u13 {X : Type _} {x0 x1 x2 x3 x4 x5 x6 x7 x8 x9 x10 x11 x12 x y : X} {L : List X} : Upd (x0 :: x1 :: x2 :: x3 :: x4 :: x5 :: x6 :: x7 :: x8 :: x9 :: x10 :: x11 :: x12 :: x :: L) x y (x0 :: x1 :: x2 :: x3 :: x4 :: x5 :: x6 :: x7 :: x8 :: x9 :: x10 :: x11 :: x12 :: y :: L) := .s (.s (.s (.s (.s (.s (.s (.s (.s (.s (.s (.s (.s .z))))))))))))
theorem u14 {X : Type _} {x0 x1 x2 x3 x4 x5 x6 x7 x8 x9 x10 x11 x12 x13 x y : X} {L : List X} : Upd (x0 :: x1 :: x2 :: x3 :: x4 :: x5 :: x6 :: x7 :: x8 :: x9 :: x10 :: x11 :: x12 :: x13 :: x :: L) x y (x0 :: x1 :: x2 :: x3 :: x4 :: x5 :: x6 :: x7 :: x8 :: x9 :: x10 :: x11 :: x12 :: x13 :: y :: L) := .s (.s (.s (.s (.s (.s (.s (.s (.s (.s (.s (.s (.s (.s .z)))))))))))))
theorem u15 {X : Type _} {x0 x1 x2 x3 x4 x5 x6 x7 x8 x9 x10 x11 x12 x13 x14 x y : X} {L : List X} : Upd (x0 :: x1 :: x2 :: x3 :: x4 :: x5 :: x6 :: x7 :: x8 :: x9 :: x10 :: x11 :: x12 :: x13 :: x14 :: x :: L) x y (x0 :: x1 :: x2 :: x3 :: x4 :: x5 :: x6 :: x7 :: x8 :: x9 :: x10 :: x11 :: x12 :: x13 :: x14 :: y :: L) := .s (.s (.s (.s (.s (.s (.s (.s (.s (.s (.s (.s (.s (.s (.s .z))))))))))))))
theorem u16 {X : Type _} {x0 x1 x2 x3 x4 x5 x6 x7 x8 x9 x10 x11 x12 x13 x14 x15 x y : X} {L : List X} : Upd (x0 :: x1 :: x2 :: x3 :: x4 :: x5 :: x6 :: x7 :: x8 :: x9 :: x10 :: x11 :: x12 :: x13 :: x14 :: x15 :: x :: L) x y (x0 :: x1 :: x2 :: x3 :: x4 :: x5 :: x6 :: x7 :: x8 :: x9 :: x10 :: x11 :: x12 :: x13 :: x14 :: x15 :: y :: L) := .s (.s (.s (.s (.s (.s (.s (.s (.s (.s (.s (.s (.s (.s (.s (.s .z)))))))))))))))
theorem u17 {X : Type _} {x0 x1 x2 x3 x4 x5 x6 x7 x8 x9 x10 x11 x12 x13 x14 x15 x16 x y : X} {L : List X} : Upd (x0 :: x1 :: x2 :: x3 :: x4 :: x5 :: x6 :: x7 :: x8 :: x9 :: x10 :: x11 :: x12 :: x13 :: x14 :: x15 :: x16 :: x :: L) x y (x0 :: x1 :: x2 :: x3 :: x4 :: x5 :: x6 :: x7 :: x8 :: x9 :: x10 :: x11 :: x12 :: x13 :: x14 :: x15 :: x16 :: y :: L) := .s (.s (.s (.s (.s (.s (.s (.s (.s (.s (.s (.s (.s (.s (.s (.s (.s .z))))))))))))))))
theorem u18 {X : Type _} {x0 x1 x2 x3 x4 x5 x6 x7 x8 x9 x10 x11 x12 x13 x14 x15 x16 x17 x y : X} {L : List X} : Upd (x0 :: x1 :: x2 :: x3 :: x4 :: x5 :: x6 :: x7 :: x8 :: x9 :: x10 :: x11 :: x12 :: x13 :: x14 :: x15 :: x16 :: x17 :: x :: L) x y (x0 :: x1 :: x2 :: x3 :: x4 :: x5 :: x6 :: x7 :: x8 :: x9 :: x10 :: x11 :: x12 :: x13 :: x14 :: x15 :: x16 :: x17 :: y :: L) := .s (.s (.s (.s (.s (.s (.s (.s (.s (.s (.s (.s (.s (.s (.s (.s (.s (.s .z)))))))))))))))))
theorem u19 {X : Type _} {x0 x1 x2 x3 x4 x5 x6 x7 x8 x9 x10 x11 x12 x13 x14 x15 x16 x17 x18 x y : X} {L : List X} : Upd (x0 :: x1 :: x2 :: x3 :: x4 :: x5 :: x6 :: x7 :: x8 :: x9 :: x10 :: x11 :: x12 :: x13 :: x14 :: x15 :: x16 :: x17 :: x18 :: x :: L) x y (x0 :: x1 :: x2 :: x3 :: x4 :: x5 :: x6 :: x7 :: x8 :: x9 :: x10 :: x11 :: x12 :: x13 :: x14 :: x15 :: x16 :: x17 :: x18 :: y :: L) := .s (.s (.s (.s (.s (.s (.s (.s (.s (.s (.s (.s (.s (.s (.s (.s (.s (.s (.s .z))))))))))))))))))
theorem u20 {X : Type _} {x0 x1 x2 x3 x4 x5 x6 x7 x8 x9 x10 x11 x12 x13 x14 x15 x16 x17 x18 x19 x y : X} {L : List X} : Upd (x0 :: x1 :: x2 :: x3 :: x4 :: x5 :: x6 :: x7 :: x8 :: x9 :: x10 :: x11 :: x12 :: x13 :: x14 :: x15 :: x16 :: x17 :: x18 :: x19 :: x :: L) x y (x0 :: x1 :: x2 :: x3 :: x4 :: x5 :: x6 :: x7 :: x8 :: x9 :: x10 :: x11 :: x12 :: x13 :: x14 :: x15 :: x16 :: x17 :: x18 :: x19 :: y :: L) := .s (.s (.s (.s (.s (.s (.s (.s (.s (.s (.s (.s (.s (.s (.s (.s (.s (.s (.s (.s .z)))))))))))))))))))
theorem u21 {X : Type _} {x0 x1 x2 x3 x4 x5 x6 x7 x8 x9 x10 x11 x12 x13 x14 x15 x16 x17 x18 x19 x20 x y : X} {L : List X} : Upd (x0 :: x1 :: x2 :: x3 :: x4 :: x5 :: x6 :: x7 :: x8 :: x9 :: x10 :: x11 :: x12 :: x13 :: x14 :: x15 :: x16 :: x17 :: x18 :: x19 :: x20 :: x :: L) x y (x0 :: x1 :: x2 :: x3 :: x4 :: x5 :: x6 :: x7 :: x8 :: x9 :: x10 :: x11 :: x12 :: x13 :: x14 :: x15 :: x16 :: x17 :: x18 :: x19 :: x20 :: y :: L) := .s (.s (.s (.s (.s (.s (.s (.s (.s (.s (.s (.s (.s (.s (.s (.s (.s (.s (.s (.s (.s .z))))))))))))))))))))
theorem u22 {X : Type _} {x0 x1 x2 x3 x4 x5 x6 x7 x8 x9 x10 x11 x12 x13 x14 x15 x16 x17 x18 x19 x20 x21 x y : X} {L : List X} : Upd (x0 :: x1 :: x2 :: x3 :: x4 :: x5 :: x6 :: x7 :: x8 :: x9 :: x10 :: x11 :: x12 :: x13 :: x14 :: x15 :: x16 :: x17 :: x18 :: x19 :: x20 :: x21 :: x :: L) x y (x0 :: x1 :: x2 :: x3 :: x4 :: x5 :: x6 :: x7 :: x8 :: x9 :: x10 :: x11 :: x12 :: x13 :: x14 :: x15 :: x16 :: x17 :: x18 :: x19 :: x20 :: x21 :: y :: L) := .s (.s (.s (.s (.s (.s (.s (.s (.s (.s (.s (.s (.s (.s (.s (.s (.s (.s (.s (.s (.s (.s .z)))))))))))))))))))))
theorem u23 {X : Type _} {x0 x1 x2 x3 x4 x5 x6 x7 x8 x9 x10 x11 x12 x13 x14 x15 x16 x17 x18 x19 x20 x21 x22 x y : X} {L : List X} : Upd (x0 :: x1 :: x2 :: x3 :: x4 :: x5 :: x6 :: x7 :: x8 :: x9 :: x10 :: x11 :: x12 :: x13 :: x14 :: x15 :: x16 :: x17 :: x18 :: x19 :: x20 :: x21 :: x22 :: x :: L) x y (x0 :: x1 :: x2 :: x3 :: x4 :: x5 :: x6 :: x7 :: x8 :: x9 :: x10 :: x11 :: x12 :: x13 :: x14 :: x15 :: x16 :: x17 :: x18 :: x19 :: x20 :: x21 :: x22 :: y :: L) := .s (.s (.s (.s (.s (.s (.s (.s (.s (.s (.s (.s (.s (.s (.s (.s (.s (.s (.s (.s (.s (.s (.s .z))))))))))))))))))))))

/-! ### The frame: what its slots hold -/
def lk : List (Nat × Value) → Nat → Option Value
  | [], _ => none
  | (j, v) :: l, i => bif Nat.beq j i then some v else lk l i
structure Env (n : Nat) (a : Act) (l : List (Nat × Value)) : Prop where
  size : a.tmps.size = n
  defers : a.defers = []
  get : ∀ i v, lk l i = some v → a.tmps[i]? = some v
/-- What an operand is. -/
def opv (l : List (Nat × Value)) : Operand → Option Value
  | .tmp i => lk l i
  | .const v => some v
  | .func f => some (.func (.func f) #[] #[])
  | .global g => some (.pointer (some ⟨g, 0, none⟩))
theorem Env.eval {n : Nat} {a : Act} {l : List (Nat × Value)} (E : Env n a l) {x : Operand} {v : Value} (h : opv l x = some v) : a.eval x = v := by
  cases x with
  | tmp i =>
    have := E.get i v h
    simp [Act.eval, this]
  | const u => simpa [Act.eval, opv] using h
  | func f => simpa [Act.eval, opv] using h
  | global g => simpa [Act.eval, opv] using h
theorem Env.put {n : Nat} {a : Act} {l : List (Nat × Value)} (E : Env n a l) {d : Nat} (hd : Nat.blt d n = true) (v : Value) : Env n (a.put (some d) v) ((d, v) :: l) := by
  have hdn : d < n := by simpa [Nat.blt_eq] using hd
  refine ⟨by simp [Act.put, E.size], E.defers, fun i u h => ?_⟩
  simp only [lk] at h
  by_cases e : d = i
  · subst e
    have : Nat.beq d d = true := by simp
    rw [this] at h
    obtain rfl : v = u := by simpa using h
    simp [Act.put, E.size, hdn]
  · have : Nat.beq d i = false := by
      cases hb : Nat.beq d i with
      | false => rfl
      | true => exact absurd (Nat.eq_of_beq_eq_true hb) e
    rw [this] at h
    have := E.get i u (by simpa using h)
    simp [Act.put, Array.getElem?_setIfInBounds_ne e, this]
theorem Env.none {n : Nat} {a : Act} {l : List (Nat × Value)} (E : Env n a l) (v : Value) : Env n (a.put none v) l := E
/-- Slots that are no longer wanted, or in another order. -/
theorem Env.sub {n : Nat} {a : Act} {l l' : List (Nat × Value)} (E : Env n a l) (h : ∀ p, p ∈ l' → lk l p.1 = some p.2) : Env n a l' := by
  refine ⟨E.size, E.defers, fun i v hv => E.get i v ?_⟩
  induction l' with
  | nil => simp [lk] at hv
  | cons p r ih =>
    obtain ⟨j, u⟩ := p
    simp only [lk] at hv
    cases hb : Nat.beq j i with
    | true =>
      rw [hb] at hv
      obtain rfl : u = v := by simpa using hv
      obtain rfl := Nat.eq_of_beq_eq_true hb
      exact h (j, u) (by simp)
    | false =>
      rw [hb] at hv
      exact ih (fun p hp => h p (by simp [hp])) (by simpa using hv)

end Go.Gx
