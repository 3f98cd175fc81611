/- Function 26, kaudit/kauditref26.SameInts: what it answers as a plain function, and that the Go code comes to exactly that (where the plain function gives an answer). -/
import Derived.Test.YtgcigcbhilcgoaaDoorYT
set_option linter.unusedVariables false
set_option linter.unusedSimpArgs false
namespace Go.Proofs.YtgcigcbhilcgoaaDoor.Gx
open Go.Gx Go.RowKit
/-! ### kaudit/kauditref26.SameInts: function 26 -/
def f_kauditref26_SameInts_l1 (z0 : (List Int)) (z1 : (List Int)) : Nat → Int → Option (Bool)
  | 0, _ => none
  | k75 + 1, x72 => if (decide (x72 < (z0.length : Int))) = true then ((at_ z0 x72).bind fun el91 => (at_ z1 x72).bind fun el96 => if (el91 != el96) = true then (some false) else (f_kauditref26_SameInts_l1 z0 z1 k75 (IntKind.wrap .i64 (x72 + 1)))) else (some true)
def f_kauditref26_SameInts (z0 : (List Int)) (z1 : (List Int)) : Option (Bool) := if ((z0.length : Int) != (z1.length : Int)) = true then (some false) else (f_kauditref26_SameInts_l1 z0 z1 ((((z0.length : Int) : Int) - (0)).toNat + 1) 0)
set_option maxHeartbeats 4000000 in
set_option maxRecDepth 100000 in
theorem C26 (z0 : (List Int)) (z1 : (List Int)) (p1 : Option Addr) (m2 : Nat) (c3 : Nat) (p4 : Option Addr) (m5 : Nat) (c6 : Nat) (r : Bool) (h : f_kauditref26_SameInts z0 z1 = some r) : FunG Tryd.prog 26 #[.slice p1 m2 c3, .slice p4 m5 c6] [vw (kSlice 3 (kInt .i64)) z0 [.slice p1 m2 c3], vw (kSlice 3 (kInt .i64)) z1 [.slice p4 m5 c6], g_pow10, g_errs] [] (fun (_ : Unit) => .bool r) (fun _ => []) (fun _ => []) := by
  unfold f_kauditref26_SameInts at h
  refine t_begin (args := [.slice p1 m2 c3, .slice p4 m5 c6]) Tryd.func26 rfl Tryd.ntmps26 rfl fun c R hR => ?_
  have hQ : ∀ X, X = r → ∀ w2 (_ : Unit), PostG c.w0 w2 c.M c.Y [] [] → R (.returned (.bool X)) w2 := fun X e => by subst e; exact hR
  refine t_seq fun K7 hK8 => ?_
  refine t_region ?_
  refine c_p (r_as rfl) rfl ?_
  refine t_nil ?_
  refine t_then hK8 ?_
  refine t_seq fun K9 hK10 => ?_
  refine t_seq fun K11 hK12 => ?_
  refine t_region ?_
  refine c_p (r_mv rfl) rfl ?_
  refine c_s (r_lnA a0 Tryd.underlying36 rfl) rfl ?_
  refine c_p (r_mv rfl) rfl ?_
  refine c_s (r_lnA a1 Tryd.underlying36 rfl) rfl ?_
  refine c_p (r_i rfl rfl rfl) rfl ?_
  refine t_nil ?_
  refine t_then hK12 ?_
  rcases Bool.eq_false_or_eq_true ((z0.length : Int) != (z1.length : Int)) with hb13 | hb13
  · replace h := itT hb13 h
    refine t_T rfl hb13 ?_
    refine t_seq fun K14 hK15 => ?_
    refine t_region ?_
    refine c_p (r_as rfl) rfl ?_
    refine t_nil ?_
    refine t_then hK15 ?_
    refine t_ret ?_
    exact tr (ret1 rfl (v_t rfl) (t_leave (hQ _ (Option.some.inj h)) () rfl (fun w Z hA => V0) .nil))
  · replace h := itF hb13 h
    refine t_F rfl hb13 ?_
    refine t_skip ?_
    refine t_then hK10 ?_
    refine t_seq fun K16 hK17 => ?_
    refine t_seq fun K18 hK19 => ?_
    refine t_region ?_
    refine c_p (r_mv rfl) rfl ?_
    refine c_s (r_lnA a0 Tryd.underlying36 rfl) rfl ?_
    refine c_p (r_mv rfl) rfl ?_
    refine t_nil ?_
    refine t_then hK19 ?_
    refine t_block ?_
    refine t_lp fun k70 hk71 => ?_
    have LP73 : ∀ (k75 : Nat) (x72 : Int), f_kauditref26_SameInts_l1 z0 z1 k75 x72 = some r → T 26 c [vw (kSlice 3 (kInt .i64)) z0 [.slice p1 m2 c3], vw (kSlice 3 (kInt .i64)) z1 [.slice p4 m5 c6], g_pow10, g_errs] [] [(0, .slice p1 m2 c3), (1, .slice p4 m5 c6), (12, .int .i64 (z0.length : Int)), (13, .int .i64 x72)] k70 := by
      intro k75
      induction k75 with
      | zero => intro x72 h74; rewrite [f_kauditref26_SameInts_l1] at h74; cases h74
      | succ k75 ih76 =>
        intro x72 h74
        rewrite [f_kauditref26_SameInts_l1] at h74
        refine ti hk71 ?_
        refine t_seq fun K77 hK78 => ?_
        refine t_region ?_
        refine c_p (r_i rfl rfl rfl) rfl ?_
        refine t_nil ?_
        refine t_then hK78 ?_
        refine t_seq fun K79 hK80 => ?_
        rcases Bool.eq_false_or_eq_true (decide (x72 < (z0.length : Int))) with hb81 | hb81
        · replace h74 := itT hb81 h74
          refine t_T rfl hb81 ?_
          refine t_skip ?_
          refine t_then hK80 ?_
          refine t_seq fun K82 hK83 => ?_
          refine t_block ?_
          refine t_seq fun K84 hK85 => ?_
          refine t_region ?_
          refine c_p (r_mv rfl) rfl ?_
          refine c_p (r_as rfl) rfl ?_
          refine t_nil ?_
          refine t_then hK85 ?_
          refine t_seq fun K86 hK87 => ?_
          refine t_quiet mixed (by kernel_rfl) (panic_then (panic_block (panic_then (panic_then (panic_block (panic_then panic_body)))))) ?_
          refine k_p (r_mv rfl) rfl ?_
          refine k_p (r_mv rfl) rfl ?_
          obtain ⟨el91, hel91, h74⟩ := bs h74
          refine t_q a0 hel91 fun q88 hq89 hm90 => ?_
          refine k_p (r_idx hq89 hm90 hel91 Tryd.underlying36 ti3 rfl rfl) rfl ?_
          refine t_op (opens_int .i64) a0 hel91 fun t92 => ?_
          refine k_s (r_e1 a0 hq89 Tryd.underlying3 rfl rfl rfl) rfl ?_
          refine k_p (r_mv rfl) rfl ?_
          refine k_p (r_mv rfl) rfl ?_
          obtain ⟨el96, hel96, h74⟩ := bs h74
          refine t_q a2 hel96 fun q93 hq94 hm95 => ?_
          refine k_p (r_idx hq94 hm95 hel96 Tryd.underlying36 ti3 rfl rfl) rfl ?_
          refine t_op (opens_int .i64) a2 hel96 fun t97 => ?_
          refine k_s (r_e1 a0 hq94 Tryd.underlying3 rfl rfl rfl) rfl ?_
          refine k_p (r_i rfl rfl rfl) rfl ?_
          refine k_z ?_
          refine t_then hK87 ?_
          rcases Bool.eq_false_or_eq_true (el91 != el96) with hb98 | hb98
          · replace h74 := itT hb98 h74
            refine t_T rfl hb98 ?_
            refine t_seq fun K99 hK100 => ?_
            refine t_region ?_
            refine c_p (r_as rfl) rfl ?_
            refine t_nil ?_
            refine t_then hK100 ?_
            refine t_ret ?_
            exact br (tr (tr (br (tr (ret1 rfl (v_t rfl) (t_leave (hQ _ (Option.some.inj h74)) () rfl (fun w Z hA => V0) .nil))))))
          · replace h74 := itF hb98 h74
            refine t_F rfl hb98 ?_
            refine t_skip ?_
            refine t_blockN ?_
            refine t_then hK83 ?_
            refine t_region ?_
            refine c_p (r_i rfl rfl rfl) rfl ?_
            refine c_p (r_mv rfl) rfl ?_
            refine t_nil ?_
            exact t_norm (t_go (ih76 (IntKind.wrap .i64 (x72 + 1)) h74) ⟨rfl, rfl, rfl, rfl, trivial⟩ .nil (fun w Z hA => V1 a2 hA (V1 a3 hA (V1 a4 hA (V1 a5 hA (V0))))))
        · replace h74 := itF hb81 h74
          refine t_F rfl hb81 ?_
          refine t_exit ?_
          refine te (te (bx ?_))
          refine t_then hK17 ?_
          refine t_seq fun K101 hK102 => ?_
          refine t_region ?_
          refine c_p (r_as rfl) rfl ?_
          refine t_nil ?_
          refine t_then hK102 ?_
          refine t_ret ?_
          exact ret1 rfl (v_t rfl) (t_leave (hQ _ (Option.some.inj h74)) () rfl (fun w Z hA => V0) .nil)
    exact t_go (LP73 ((((z0.length : Int) : Int) - (0)).toNat + 1) 0 h) ⟨rfl, rfl, rfl, rfl, trivial⟩ .nil (fun w Z hA => V1 a0 hA (V1 a1 hA (V1 a2 hA (V1 a3 hA (V0)))))
end Go.Proofs.YtgcigcbhilcgoaaDoor.Gx
