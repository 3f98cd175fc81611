/- More steps of a walk: what elements own is shared; views of a row; '==' of what is the same. -/
import Derived.Test.YtgcigcbhilcgoaaDoorHTri2
set_option linter.unusedVariables false
namespace Go.Gx
open Go.RowKit
theorem EO_sub {α : Type} {K : Kind α} {w : World} {Z : FP} : ∀ {xs : List α} {S : FP} {cs : List Value}, EO K w Z xs S cs → ER K w xs (fun b => Z b ∨ S b) cs := EO_ER
theorem ER_unshare {α : Type} {K : Kind α} {w : World} {S : FP} : ∀ {xs : List α} {cs : List Value}, ER (kShare K) w xs S cs → ER K w xs S cs
  | [], _, h => h
  | _ :: _, _, ⟨c1, c2, e, k1, k2⟩ => ⟨c1, c2, e, k1, ER_unshare k2⟩
theorem sliceR_unshare {α : Type} {K : Kind α} {w : World} {S : FP} {xs : List α} {cs : List Value} (h : sliceR (kShare K) w S xs cs) : sliceR K w S xs cs := by
  obtain ⟨a, cap, e, hl, hm, hn, hh⟩ := h
  refine ⟨a, cap, e, hl, hm, hn, fun hx => ?_⟩
  obtain ⟨g, off, pre, el, post, T, fr, h1, h2, h3, h4, h5⟩ := hh hx
  exact ⟨g, off, pre, el, post, T, fr, h1, h2, h3, h4, ER_unshare h5⟩
section
variable {P : Program} {ops : Array Oper} {rest : List Oper} {Q Q' : Exit → Act → World → Prop} {K κ κ' : Act → World → Prop} {n : Nat} {c : Cx} {A A' B Ac : List VP} {L L' Lc Lr N : List (List SP)} {l l' : List (Nat × Value)}
  {d : Nat} {op : Op} {ty : TypeId} {pos : String} {af : Array Edge} {v u : Value} {dd : Option Nat} {gg : Option (Nat × Bool)} {x y z : Operand} {tx ty' : TypeId}
/-- A row that shares what its elements lead to: shared whole. -/
theorem t_shS {α : Type} {E : TypeId} {Kd : Kind α} {xs : List α} (hL : Ext L [row E (kShare Kd) xs v] Lr) (h : T n c (vw (kSlice E Kd) xs [v] :: A) Lr l κ) : T n c A L l κ := fun a w Ev H => h a w Ev (H.share (A' := [vw (kSlice E Kd) xs [v]]) hL fun Z S1 h => ⟨sliceR_unshare (rowH.read h.1), trivial⟩)
theorem FLs {w : World} {Z S : FP} {α : Type} {E : TypeId} {Kd : Kind α} {xs : List α} {B : List VP} (hk : At L [row E (kShare Kd) xs v]) (hL : Holds w Z L S) (h : argHolds w B (fun b => Z b ∨ S b)) : argHolds w (vw (kSlice E Kd) xs [v] :: B) (fun b => Z b ∨ S b) := ⟨let ⟨_, hk⟩ := hk.get; sliceR_unshare (Holds_row hL hk), h⟩
/-- What the elements own is shared from now on; the row itself stays the walk's own. -/
theorem t_fe {α : Type} {E : TypeId} {Kd : Kind α} {xs : List α} (hL : Ext L [row E Kd xs v] Lr) (h : T n c A ([row E (kShare Kd) xs v] :: Lr) l κ) : T n c A L l κ := fun a w Ev H => by
  obtain ⟨hc, S0, S, h1, h2, h3, h4, h5, h6⟩ := H
  obtain ⟨S1, S2, g1, g2, gd, ⟨hR, _⟩, k2⟩ := Holds_ext hL h2
  rcases hR with ⟨⟨p, e⟩, rfl⟩ | ⟨g, off, cap, pre, el, post, e, hg, hh, ho, hl, hp, hm, S', hs1, hs2, hE⟩
  · exact h a w Ev ⟨hc, S0, S, h1, ⟨S1, S2, g1, g2, gd, ⟨.inl ⟨⟨p, e⟩, rfl⟩, trivial⟩, k2⟩, h3, h4, h5, h6⟩
  · refine h a w Ev ⟨hc, fun b => S0 b ∨ S' b, fun b => b = g ∨ S2 b, argHolds_mono (fun b h => .inl h) h1, ⟨fun b => b = g, S2, fun b h => .inl h, fun b h => .inr h, fun b hb => by subst hb; exact gd _ hg, ⟨.inr ⟨g, off, cap, pre, el, post, e, rfl, hh, ho, hl, hp, hm, Nil, fun _ h => h.elim, fun h => h, ER_EO_share (EO_ER hE)⟩, trivial⟩, Holds_mono (fun b h => .inl h) (fun _ h => h) k2⟩, ?_, ?_, ?_, ?_⟩
    · rintro b (hb | hb) (rfl | hh)
      · exact h3 _ hb (g1 _ hg)
      · exact h3 b hb (g2 b hh)
      · exact hs2 hb
      · exact gd b (hs1 b hb) hh
    · rintro b (hb | hb)
      · exact h4 b hb
      · exact (h5 b (g1 b (hs1 b hb))).1
    · rintro b (rfl | hb)
      · exact h5 _ (g1 _ hg)
      · exact h5 b (g2 b hb)
    · rintro b (hb | hb)
      · exact h6 b hb
      · exact .inr (h5 b (g1 b (hs1 b hb))).2
theorem t_fold {κ : Act → World → Prop} (h : T n c A L l (Exit.then κ (fun _ _ _ => True) .normal)) : T n c A L l κ := h
theorem r_max {k : IntKind} {i j : Int} {ts : Array TypeId} (hx : opv l x = some (.int k i)) (hy : opv l y = some (.int k j)) : RP P ⟨dd, .call ⟨.builtin .max, #[x, y], ts⟩, ty, pos, af, gg⟩ n l (.int k (max i j)) := fun a w E => by
  have e : max i j = if j > i then j else i := by split <;> omega
  simp [execOp, resolve, E.eval hx, E.eval hy, invoke, builtin, Builtin.max_, Builtin.max2, e]
theorem r_min {k : IntKind} {i j : Int} {ts : Array TypeId} (hx : opv l x = some (.int k i)) (hy : opv l y = some (.int k j)) : RP P ⟨dd, .call ⟨.builtin .min, #[x, y], ts⟩, ty, pos, af, gg⟩ n l (.int k (min i j)) := fun a w E => by
  have e : min i j = if j < i then j else i := by split <;> omega
  simp [execOp, resolve, E.eval hx, E.eval hy, invoke, builtin, Builtin.min_, Builtin.min2, e]

/-! ### Views of a row of the walk's own -/
def VW (sz : Nat) (s : Option Addr × Nat × Nat) (i j : Int) (t : Option Addr × Nat × Nat) : Prop := t = (if s.2.2 = i.toNat then s.1 else s.1.map (·.add (i.toNat * sz)), j.toNat - i.toNat, s.2.2 - i.toNat)
theorem t_vw {α : Type} {t e : TypeId} {lo hi : Option Operand} {Kd : Kind α} {xs : List α} {Et : TypeId} {p : Option Addr} {m k : Nat} {zz : Value} {b : Nat} {i j : Int} (hL : At L [row Et Kd xs (.slice p m k)]) (hu : P.underlying t = some (.slice e)) (hti : TI P e zz Kd.n b) (hx : opv l x = some (.slice p m k))
    (hlo : (lo = none ∧ i = 0) ∨ ∃ y k, lo = some y ∧ opv l y = some (.int k i)) (hhi : (hi = none ∧ j = xs.length) ∨ ∃ y k, hi = some y ∧ opv l y = some (.int k j)) (hc : cutOk xs i j) (hd : Nat.blt d n = true)
    (h : ∀ t : Option Addr × Nat × Nat, VW Kd.n (p, m, k) i j t → T n c A L ((d, .slice t.1 t.2.1 t.2.2) :: l) K) : T n c A L l (Step P ops Q ⟨some d, .slice t x lo hi none, ty, pos, af, none⟩ K) := fun a w E H => by
  obtain ⟨_, hq⟩ := hL.get
  obtain ⟨Z0, S0, hrow, _⟩ := H.item hq
  obtain ⟨p', cap, e0, hl, _⟩ := rowH.read hrow
  simp only [List.cons.injEq, Value.slice.injEq, and_true] at e0
  obtain ⟨rfl, rfl, rfl⟩ := e0
  have hr := rn_cut (P := P) (w := w) (o := ⟨some d, .slice t x lo hi none, ty, pos, af, none⟩) E rfl hu hti hx hlo hhi hc.1 hc.2.1 hc.2.2 hl
  exact wl_val E rfl hr hd fun a' E' => h _ rfl a' w E' H
theorem t_vm {α : Type} {Kd : Kind α} {xs : List α} {Et : TypeId} {p : Option Addr} {m k : Nat} {i j : Int} {t : Option Addr × Nat × Nat} (hL : Ext L [row Et Kd xs (.slice p m k)] Lr) (hv : VW Kd.n (p, m, k) i j t) (hc : cutOk xs i j) (hi0 : i = 0 ∨ i < j) (h : T n c A ([row Et Kd (cut xs i j) (.slice t.1 t.2.1 t.2.2)] :: Lr) l κ) : T n c A L l κ := fun a w E H => by
  subst hv
  refine h a w E (H.melt (N := [_]) (.cons hL .nil) fun Z S _ _ ⟨S1, S2, e1, e2, ed, ⟨hR, _⟩, _⟩ => ⟨S1, S2, e1, e2, ed, ⟨?_, trivial⟩, trivial⟩)
  obtain ⟨p', cap, e0, hl, _⟩ := rowH.read hR
  simp only [List.cons.injEq, Value.slice.injEq, and_true] at e0
  obtain ⟨_, hm, rfl⟩ := e0
  refine rowH_cut (c := k) hR hc ?_
  rcases hi0 with h0 | h0
  · exact .inl h0
  · right
    have := hc.2.2
    omega
theorem r_lnV {e : TypeId} {Kd : Nat} {α : Type} {xs : List α} {s t : Option Addr × Nat × Nat} {i j : Int} (hv : VW Kd s i j t) (hc : cutOk xs i j) (hu : P.underlying tx = some (.slice e)) (hx : opv l x = some (.slice t.1 t.2.1 t.2.2)) : RP P ⟨dd, .call ⟨.builtin .len, #[x], #[tx]⟩, ty, pos, af, gg⟩ n l (.int .i64 (cut xs i j).length) := fun a w E => by
  rw [cut_length hc]
  subst hv
  exact rn_len E rfl hu hx
/-- What is cleared: zeros from i on, to j. -/
def zeroed {α : Type} (z : α) (xs : List α) (i j : Int) : List α := xs.take i.toNat ++ (List.replicate (j.toNat - i.toNat) z ++ xs.drop j.toNat)
theorem row_clear {α : Type} {E : TypeId} {K : Kind α} {xs : List α} {p : Option Addr} {m k : Nat} {w : World} {Z S : FP} {i j : Int} {t : Option Addr × Nat × Nat} {z0 : α} {zc : List Value} {Pr : Program} {tt : TypeId} {zz : Value} {b : Nat} {ty : TypeId} (h : rowH E K xs (.slice p m k) w Z S) (hZS : ∀ b, Z b → ¬ S b) (hu : Pr.underlying tt = some (.slice E)) (hti : TI Pr E zz K.n b) (hz : zz.cells = zc.toArray) (hzl : zc.length = K.n) (hK : ∀ w Z, K.O w Z Nil z0 zc)
    (hv : VW K.n (p, m, k) i j t) (hc : cutOk xs i j) : ∃ w', (Builtin.clear_ #[tt] ty #[.slice t.1 t.2.1 t.2.2]).run Pr w = .ok (.tuple #[]) w' ∧ Chg w w' S ∧ rowH E K (zeroed z0 xs i j) (.slice p m k) w' Z S := by
  subst hv
  obtain ⟨h0, h1, h2⟩ := hc
  rcases h with ⟨⟨q, e⟩, rfl⟩ | ⟨g, off, cap, pre, el, post, e, hg, hh, ho, hl, hp, hm, S', hs1, hs2, hE⟩
  · simp only [List.cons.injEq, Value.slice.injEq, and_true] at e
    obtain ⟨rfl, rfl, rfl⟩ := e
    simp only [List.length_nil] at h2
    have hj : j = 0 := by omega
    have hi : i = 0 := by omega
    subst hj hi
    refine ⟨w, ?_, Chg.refl _ _, .inl ⟨⟨p, rfl⟩, by simp [zeroed]⟩⟩
    cases p <;> simp [Builtin.clear_, run_underlying hu]
  · simp only [List.cons.injEq, Value.slice.injEq, and_true] at e
    obtain ⟨rfl, rfl, rfl⟩ := e
    have hsp : xs = xs.take i.toNat ++ (cut xs i j ++ xs.drop j.toNat) := by
      have e1 : cut xs i j ++ xs.drop j.toNat = xs.drop i.toNat := by
        unfold cut
        have : xs.drop i.toNat = (xs.take j.toNat ++ xs.drop j.toNat).drop i.toNat := by rw [List.take_append_drop]
        rw [this, List.drop_append_of_le_length (by rw [List.length_take]; omega)]
      rw [e1, List.take_append_drop]
    have hlen := cut_length (xs := xs) ⟨h0, h1, h2⟩
    have hE0 := hE
    rw [hsp] at hE
    obtain ⟨c1, c2, T1, T2, rfl, g1, g2, gd, k1, k2⟩ := EO_split hE
    obtain ⟨c3, c4, T3, T4, rfl, g3, g4, gd2, k3, k4⟩ := EO_split k2
    have hl1 := EO_len k1
    have hl3 := EO_len k3
    have htl : (xs.take i.toNat).length = i.toNat := by rw [List.length_take]; omega
    rw [htl] at hl1
    rw [hlen] at hl3
    have hxl : (zeroed z0 xs i j).length = xs.length := by simp [zeroed]; omega
    by_cases hn : j.toNat - i.toNat = 0
    · have hz0 : zeroed z0 xs i j = xs := by
        unfold zeroed
        rw [hn, List.replicate_zero, List.nil_append, show j.toNat = i.toNat by omega, List.take_append_drop]
      rw [hz0]
      refine ⟨w, ?_, Chg.refl _ _, .inr ⟨g, off, k, pre, c1 ++ (c3 ++ c4), post, rfl, hg, hh, ho, hl, hp, hm, S', hs1, hs2, hE0⟩⟩
      simp only [hn]
      split <;> simp [Builtin.clear_, run_underlying hu]
    · have hki : k ≠ i.toNat := by omega
      have hzc : (Builtin.zeroCells zz.cells (j.toNat - i.toNat)).toList = (List.replicate (j.toNat - i.toNat) zc).flatten := by
        have := madeCells_flat zc (j.toNat - i.toNat)
        rw [← this]
        simp [Builtin.zeroCells, hz, madeCells]
      have hzl2 : ((List.replicate (j.toNat - i.toNat) zc).flatten).length = (j.toNat - i.toNat) * K.n := by simp [hzl]
      have hone : ∀ u ∈ (List.replicate (j.toNat - i.toNat) zc).flatten, u.oneCell' = true := by
        intro u hu'
        exact ER_one (EO_ER (EO_replicate (K := K) (w := w) (Z := Z) (hK w Z) (j.toNat - i.toNat))) u hu'
      have hst := run_storeCells_at Pr g (off + i.toNat * K.n) E (List.replicate (j.toNat - i.toNat) zc).flatten 0 (pre ++ (c1 ++ (c3 ++ c4)) ++ post).toArray w hh (by simp only [List.size_toArray, List.length_append]; rw [hzl2]; omega) hone
      simp only [Nat.add_zero] at hst
      have hX : (pre ++ (c1 ++ (c3 ++ c4)) ++ post).toArray.toList.take (off + i.toNat * K.n) ++ (List.replicate (j.toNat - i.toNat) zc).flatten ++ (pre ++ (c1 ++ (c3 ++ c4)) ++ post).toArray.toList.drop (off + i.toNat * K.n + ((List.replicate (j.toNat - i.toNat) zc).flatten).length) = pre ++ (c1 ++ ((List.replicate (j.toNat - i.toNat) zc).flatten ++ c4)) ++ post := by
        have e3 : pre ++ (c1 ++ (c3 ++ c4)) ++ post = (pre ++ c1) ++ (c3 ++ (c4 ++ post)) := by simp [List.append_assoc]
        have hpl : (pre ++ c1).length = off + i.toNat * K.n := by simp; omega
        simp only []
        rw [e3, hzl2, ← hl3, ← hpl, List.take_append, List.take_of_length_le (Nat.le_refl _), Nat.sub_self, List.take_zero, List.append_nil, List.drop_append, List.drop_of_length_le (by omega), Nat.add_sub_cancel_left, List.nil_append, List.drop_append, List.drop_of_length_le (Nat.le_refl _), Nat.sub_self, List.drop_zero]
        simp [List.append_assoc]
      rw [hX] at hst
      refine ⟨_, ?_, Chg.setRow _ hg, .inr ⟨g, off, k, pre, c1 ++ ((List.replicate (j.toNat - i.toNat) zc).flatten ++ c4), post, by rw [hxl], hg, setRow_heap w g _ _ E (0, 0) hh, ho, by rw [hxl]; exact hl, by rw [hxl]; exact hp, hm, S', hs1, hs2, ?_⟩⟩
      · rw [if_neg hki]
        obtain ⟨q, hq⟩ : ∃ q, j.toNat - i.toNat = q + 1 := ⟨j.toNat - i.toNat - 1, by omega⟩
        simp only [Option.map_some, addr_add, hq]
        rw [← hq]
        have hz1 : (zeroValue E).run Pr w = .ok zz w := hti.zeroValue w
        simp [Builtin.clear_, run_underlying hu, hz1]
        rw [hzc, hst]
        simp
      · have ag : ∀ {T : FP}, (∀ b, T b → S' b) → Agree w (w.setRow g (pre ++ (c1 ++ ((List.replicate (j.toNat - i.toNat) zc).flatten ++ c4)) ++ post).toArray) T := fun hT b hb => setRow_other w g b _ (fun e => hs2 (e ▸ hT b hb))
        have agZ : Agree w (w.setRow g (pre ++ (c1 ++ ((List.replicate (j.toNat - i.toNat) zc).flatten ++ c4)) ++ post).toArray) Z := fun b hb => setRow_other w g b _ (fun e => hZS b hb (e ▸ hg))
        exact EO_append (EO_loc agZ (ag g1) k1) (EO_append (EO_replicate (hK _ _) _) (EO_loc agZ (ag fun b h => g2 b (g4 b h)) k4) (fun _ h => h.elim) (fun b h => h.elim) (fun b h => h)) (fun b h hh => gd b h (g4 b hh)) (fun b h => g1 b h) (fun b h => g2 b (g4 b h))
theorem t_clv {α : Type} {E : TypeId} {Kd : Kind α} {xs : List α} {p : Option Addr} {m k : Nat} {i j : Int} {t : Option Addr × Nat × Nat} {z0 : α} {zc : List Value} {tt : TypeId} {zz : Value} {b : Nat} (hL : Upd L [row E Kd xs (.slice p m k)] [row E Kd (zeroed z0 xs i j) (.slice p m k)] L') (hv : VW Kd.n (p, m, k) i j t) (hc : cutOk xs i j) (hu : P.underlying tt = some (.slice E)) (hti : TI P E zz Kd.n b) (hz : zz.cells = zc.toArray) (hzl : zc.length = Kd.n) (hK : ∀ w Z, Kd.O w Z Nil z0 zc) (hx : opv l x = some (.slice t.1 t.2.1 t.2.2)) (h : T n c A L' l K) : T n c A L l (Step P ops Q ⟨none, .call ⟨.builtin .clear, #[x], #[tt]⟩, ty, pos, af, none⟩ K) := fun a w Ev H => by
  obtain ⟨q, hk, rfl⟩ := hL.get
  obtain ⟨w', hr, H'⟩ := H.updE (ρ := World) (Wr := id) (Ir := fun _ => [row E Kd (zeroed z0 xs i j) (.slice p m k)]) (Φ := fun w' => (Builtin.clear_ #[tt] ty #[.slice t.1 t.2.1 t.2.2]).run P w = .ok (.tuple #[]) w') hk fun Z S1 _ _ hzs _ _ ⟨hh, _⟩ => by
    obtain ⟨w', hr, hch, hh'⟩ := row_clear (ty := ty) hh hzs hu hti hz hzl hK hv hc
    exact ⟨w', hr, S1, ⟨hh', trivial⟩, fun b hb => .inl hb, hch⟩
  unfold Step
  rw [if_pos (show Region.wanted _ _ = true from rfl)]
  refine .inl ?_
  unfold Oper.wp
  have e : (execOp a.eval ⟨none, .call ⟨.builtin .clear, #[x], #[tt]⟩, ty, pos, af, none⟩).run P w = .ok (.value (.tuple #[])) w' := by
    simp [execOp, resolve, Ev.eval hx, invoke, builtin, hr]
  rw [e]
  exact h _ _ (Ev.none _) H'
end
end Go.Gx
