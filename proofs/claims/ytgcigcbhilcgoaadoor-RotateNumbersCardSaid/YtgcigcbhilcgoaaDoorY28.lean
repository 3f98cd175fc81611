/- Function 28, kaudit/kauditref26.Numbers: what it answers as a plain function, and that the Go code comes to exactly that (where the plain function gives an answer). -/
import Derived.Test.YtgcigcbhilcgoaaDoorYT
import Derived.Test.YtgcigcbhilcgoaaDoorY17
import Derived.Test.YtgcigcbhilcgoaaDoorY22
set_option linter.unusedVariables false
set_option linter.unusedSimpArgs false
namespace Go.Proofs.YtgcigcbhilcgoaaDoor.Gx
open Go.Gx Go.RowKit
/-! ### kaudit/kauditref26.Numbers: function 28 -/
def f_kauditref26_Numbers_l1 (z0 : (List ByteArray)) : Nat → List Int → Int → Option ((List Int))
  | 0, _, _ => none
  | k77 + 1, x73, x74 => if (decide (x74 < (z0.length : Int))) = true then ((at_ z0 x74).bind fun el91 => (f_kauditref26_Number el91).bind fun y95 => if y95.2.1 = true then ((f_kauditref26_Add x73 y95.1).bind fun y100 => f_kauditref26_Numbers_l1 z0 k77 y100 (IntKind.wrap .i64 (x74 + 1))) else (f_kauditref26_Numbers_l1 z0 k77 x73 (IntKind.wrap .i64 (x74 + 1)))) else (some x73)
def f_kauditref26_Numbers (z0 : (List ByteArray)) : Option ((List Int)) := f_kauditref26_Numbers_l1 z0 ((((z0.length : Int) : Int) - (0)).toNat + 1) ([] : List Int) 0
set_option maxHeartbeats 4000000 in
set_option maxRecDepth 100000 in
theorem C28 (z0 : (List ByteArray)) (p1 : Option Addr) (m2 : Nat) (c3 : Nat) (r : (List Int)) (h : f_kauditref26_Numbers z0 = some r) : FunG Tryd.prog 28 #[.slice p1 m2 c3] [vw (kSlice 9 kStr) z0 [.slice p1 m2 c3], g_pow10, g_errs] [] (fun t : (Option Addr × Nat × Nat) => .slice t.1 t.2.1 t.2.2) (fun t => []) (fun t => [[row 3 (kInt .i64) r (.slice t.1 t.2.1 t.2.2)]]) := by
  unfold f_kauditref26_Numbers at h
  refine t_begin (args := [.slice p1 m2 c3]) Tryd.func28 rfl Tryd.ntmps28 rfl fun c R hR => ?_
  have hQ : ∀ X, X = r → ∀ w2 (t : (Option Addr × Nat × Nat)), PostG c.w0 w2 c.M c.Y [] [[row 3 (kInt .i64) X (.slice t.1 t.2.1 t.2.2)]] → R (.returned (.slice t.1 t.2.1 t.2.2)) w2 := fun X e => by subst e; exact hR
  refine t_seq fun K4 hK5 => ?_
  refine t_region ?_
  refine c_p (r_as rfl) rfl ?_
  refine t_nil ?_
  refine t_then hK5 ?_
  refine t_seq fun K6 hK7 => ?_
  refine t_region ?_
  refine c_p (r_as rfl) rfl ?_
  refine t_nil ?_
  refine t_then hK7 ?_
  refine t_seq fun K8 hK9 => ?_
  refine t_seq fun K10 hK11 => ?_
  refine t_region ?_
  refine c_p (r_mv rfl) rfl ?_
  refine c_s (r_lnA a0 Tryd.underlying43 rfl) rfl ?_
  refine c_p (r_mv rfl) rfl ?_
  refine t_nil ?_
  refine t_then hK11 ?_
  refine t_block ?_
  refine t_nr 3 (kInt .i64) ?_
  refine t_lp fun k68 hk69 => ?_
  have LP75 : ∀ (k77 : Nat) (p70 : Option Addr) (m71 : Nat) (c72 : Nat) (x73 : List Int) (x74 : Int), f_kauditref26_Numbers_l1 z0 k77 x73 x74 = some r → T 27 c [vw (kSlice 9 kStr) z0 [.slice p1 m2 c3], g_pow10, g_errs] [[row 3 (kInt .i64) x73 (.slice p70 m71 c72)]] [(3, .slice p70 m71 c72), (9, .slice p1 m2 c3), (10, .int .i64 (z0.length : Int)), (11, .int .i64 x74)] k68 := by
    intro k77
    induction k77 with
    | zero => intro p70 m71 c72 x73 x74 h76; rewrite [f_kauditref26_Numbers_l1] at h76; cases h76
    | succ k77 ih78 =>
      intro p70 m71 c72 x73 x74 h76
      rewrite [f_kauditref26_Numbers_l1] at h76
      refine ti hk69 ?_
      refine t_seq fun K79 hK80 => ?_
      refine t_region ?_
      refine c_p (r_i rfl rfl rfl) rfl ?_
      refine t_nil ?_
      refine t_then hK80 ?_
      refine t_seq fun K81 hK82 => ?_
      rcases Bool.eq_false_or_eq_true (decide (x74 < (z0.length : Int))) with hb83 | hb83
      · replace h76 := itT hb83 h76
        refine t_T rfl hb83 ?_
        refine t_skip ?_
        refine t_then hK82 ?_
        refine t_seq fun K84 hK85 => ?_
        refine t_block ?_
        refine t_seq fun K86 hK87 => ?_
        refine t_region ?_
        obtain ⟨el91, hel91, h76⟩ := bs h76
        refine t_q a0 hel91 fun q88 hq89 hm90 => ?_
        refine c_p (r_idx hq89 hm90 hel91 Tryd.underlying43 ti9 rfl rfl) rfl ?_
        refine t_op opens_str a0 hel91 fun t92 => ?_
        refine c_s (r_e1 a0 hq89 Tryd.underlying9 rfl rfl rfl) rfl ?_
        refine c_p (r_as rfl) rfl ?_
        refine t_nil ?_
        refine t_then hK87 ?_
        refine t_seq fun K93 hK94 => ?_
        refine t_region ?_
        refine c_p (r_mv rfl) rfl ?_
        obtain ⟨y95, hy95, h76⟩ := bs h76
        refine nx (t_ca (C22 _ _ hy95) Tryd.func22 nm22 rfl rfl rfl .nil (fun w Z hA => (V1 a2 hA (V1 a3 hA V0))) rfl fun t96 => ?_)
        refine c_p (r_mv rfl) rfl ?_
        refine c_p (r_ex rfl rfl) rfl ?_
        refine c_p (r_ex rfl rfl) rfl ?_
        refine c_p (r_ex rfl rfl) rfl ?_
        refine c_p (r_as rfl) rfl ?_
        refine c_p (r_as rfl) rfl ?_
        refine c_p (r_as rfl) rfl ?_
        refine t_nil ?_
        refine t_then hK94 ?_
        refine t_seq fun K97 hK98 => ?_
        refine t_region ?_
        refine c_p (r_mv rfl) rfl ?_
        refine t_nil ?_
        refine t_then hK98 ?_
        rcases Bool.eq_false_or_eq_true y95.2.1 with hb99 | hb99
        · replace h76 := itT hb99 h76
          refine t_T rfl hb99 ?_
          refine t_region ?_
          refine c_p (r_mv rfl) rfl ?_
          refine c_p (r_mv rfl) rfl ?_
          obtain ⟨y100, hy100, h76⟩ := bs h76
          refine nx (t_cf (C17 _ _ _ _ _ _ hy100) (fun _ => (flat_cons (indK_slice 3 (indK_int .i64)) flat_nil)) Tryd.func17 nm17 rfl rfl rfl .nil (fun w Z S hA hL => (FL a0 hL (F1 a2 hA (F1 a3 hA F0)))) rfl fun t101 => ?_)
          refine c_p (r_as rfl) rfl ?_
          refine t_nil ?_
          refine t_blockN ?_
          refine t_then hK85 ?_
          refine t_region ?_
          refine c_p (r_i rfl rfl rfl) rfl ?_
          refine c_p (r_mv rfl) rfl ?_
          refine t_nil ?_
          exact t_norm (t_go (ih78 t101.1 t101.2.1 t101.2.2 y100 (IntKind.wrap .i64 (x74 + 1)) h76) ⟨rfl, rfl, rfl, rfl, trivial⟩ (.cons e0 .nil) (fun w Z hA => V1 a1 hA (V1 a2 hA (V1 a3 hA (V0)))))
        · replace h76 := itF hb99 h76
          refine t_F rfl hb99 ?_
          refine t_skip ?_
          refine t_blockN ?_
          refine t_then hK85 ?_
          refine t_region ?_
          refine c_p (r_i rfl rfl rfl) rfl ?_
          refine c_p (r_mv rfl) rfl ?_
          refine t_nil ?_
          exact t_norm (t_go (ih78 p70 m71 c72 x73 (IntKind.wrap .i64 (x74 + 1)) h76) ⟨rfl, rfl, rfl, rfl, trivial⟩ (.cons e0 .nil) (fun w Z hA => V1 a1 hA (V1 a2 hA (V1 a3 hA (V0)))))
      · replace h76 := itF hb83 h76
        refine t_F rfl hb83 ?_
        refine t_exit ?_
        refine te (te (bx ?_))
        refine t_then hK9 ?_
        refine t_seq fun K102 hK103 => ?_
        refine t_region ?_
        refine c_p (r_mv rfl) rfl ?_
        refine c_p (r_as rfl) rfl ?_
        refine t_nil ?_
        refine t_then hK103 ?_
        refine t_ret ?_
        exact ret1 rfl (v_t rfl) (t_leave (hQ _ (Option.some.inj h76)) (p70, m71, c72) rfl (fun w Z hA => V0) (.cons e0 .nil))
  exact t_go (LP75 ((((z0.length : Int) : Int) - (0)).toNat + 1) none 0 0 ([] : List Int) 0 h) ⟨rfl, rfl, rfl, rfl, trivial⟩ (.cons e0 .nil) (fun w Z hA => V1 a0 hA (V1 a1 hA (V1 a2 hA (V0))))
end Go.Proofs.YtgcigcbhilcgoaaDoor.Gx
