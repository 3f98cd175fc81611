/- Function 16, (*kaudit/kauditmill.Case).Int: what it answers as a plain function, and that the Go code comes to exactly that (where the plain function gives an answer). -/
import Derived.Test.YtgcigcbhilcgoaaDoorYT
set_option linter.unusedVariables false
set_option linter.unusedSimpArgs false
namespace Go.Proofs.YtgcigcbhilcgoaaDoor.Gx
open Go.Gx Go.RowKit
/-! ### (*kaudit/kauditmill.Case).Int: function 16 -/
def f_kauditmill_Case_Int (z0 : kauditmill_Case) (z1 : Int) : Option (Int × Int) := if (decide (z1 < 2)) = true then (some (0, z0.at_)) else (if (decide (z0.at_ ≥ (z0.codes.length : Int))) = true then (some (0, z0.at_)) else ((at_ z0.codes (IntKind.wrap .i64 ((IntKind.wrap .i64 (z0.at_ + 1)) - 1))).bind fun el23 => ck (z1 ≠ 0) <| some ((((IntKind.wrap .i64 el23) : Int).tmod z1), (IntKind.wrap .i64 (z0.at_ + 1)))))
set_option maxHeartbeats 4000000 in
set_option maxRecDepth 100000 in
theorem C16 (z0 : kauditmill_Case) (z1 : Int) (g_ : Nat) (p1 : Option Addr) (m2 : Nat) (c3 : Nat) (r : Int × Int) (h : f_kauditmill_Case_Int z0 z1 = some r) : FunG Tryd.prog 16 #[.pointer (some ⟨g_, 0, none⟩), .int .i64 z1] [vw (kSlice 5 (kInt .u8)) z0.codes [.slice p1 m2 c3], g_pow10, g_errs] [[blk g_ [.slice p1 m2 c3, .int .i64 z0.at_] 53]] (fun (_ : Unit) => .int .i64 r.1) (fun _ => []) (fun _ => [[blk g_ [.slice p1 m2 c3, .int .i64 r.2] 53]]) := by
  unfold f_kauditmill_Case_Int at h
  refine t_begin (args := [.pointer (some ⟨g_, 0, none⟩), .int .i64 z1]) Tryd.func16 rfl Tryd.ntmps16 rfl fun c R hR => ?_
  have hQ : ∀ X, X = r → ∀ w2 (_ : Unit), PostG c.w0 w2 c.M c.Y [] [[blk g_ [.slice p1 m2 c3, .int .i64 X.2] 53]] → R (.returned (.int .i64 X.1)) w2 := fun X e => by subst e; exact hR
  refine t_seq fun K4 hK5 => ?_
  refine t_region ?_
  refine c_p (r_as rfl) rfl ?_
  refine t_nil ?_
  refine t_then hK5 ?_
  refine t_seq fun K6 hK7 => ?_
  refine t_seq fun K8 hK9 => ?_
  refine t_quiet mixed (by kernel_rfl) (panic_then (panic_then panic_body)) ?_
  refine k_p (r_mv rfl) rfl ?_
  refine k_p (r_i rfl rfl rfl) rfl ?_
  refine k_p (r_mv rfl) rfl ?_
  rcases Bool.eq_false_or_eq_true (decide (z1 < 2)) with hb10 | hb10
  · replace h := itT hb10 h
    refine k_x rfl rfl hb10 rfl ?_
    refine k_x rfl rfl hb10 rfl ?_
    refine k_x rfl rfl hb10 rfl ?_
    refine k_x rfl rfl hb10 rfl ?_
    refine k_x rfl rfl hb10 rfl ?_
    refine k_x rfl rfl hb10 rfl ?_
    refine k_x rfl rfl hb10 rfl ?_
    refine k_x rfl rfl hb10 rfl ?_
    refine k_x rfl rfl hb10 rfl ?_
    refine k_x rfl rfl hb10 rfl ?_
    refine k_p (r_pT rfl hb10 rfl) rfl ?_
    refine k_z ?_
    refine t_then hK9 ?_
    refine t_T rfl rfl ?_
    refine t_seq fun K11 hK12 => ?_
    refine t_region ?_
    refine c_p (r_as rfl) rfl ?_
    refine t_nil ?_
    refine t_then hK12 ?_
    refine t_ret ?_
    exact tr (ret1 rfl (v_t rfl) (t_leave (hQ _ (Option.some.inj h)) () rfl (fun w Z hA => V0) (.cons e0 .nil)))
  · replace h := itF hb10 h
    refine kg_p rfl rfl hb10 (r_mv rfl) rfl ?_
    refine kg_p rfl rfl hb10 (r_nc rfl) rfl ?_
    refine kg_p rfl rfl hb10 (r_fa (off' := 1) Tryd.underlying53 rfl ti3 rfl rfl) rfl ?_
    refine kg_s rfl rfl hb10 (r_ld a0 Tryd.underlying3 rfl rfl rfl) rfl ?_
    refine kg_p rfl rfl hb10 (r_mv rfl) rfl ?_
    refine kg_p rfl rfl hb10 (r_nc rfl) rfl ?_
    refine kg_p rfl rfl hb10 (r_fa (off' := 0) Tryd.underlying53 rfl ti24 rfl rfl) rfl ?_
    refine kg_s rfl rfl hb10 (r_ld a0 Tryd.underlying24 rfl rfl rfl) rfl ?_
    refine kg_s rfl rfl hb10 (r_lnA a0 Tryd.underlying24 rfl) rfl ?_
    refine kg_p rfl rfl hb10 (r_i rfl rfl rfl) rfl ?_
    refine k_p (r_pF rfl hb10 rfl) rfl ?_
    refine k_z ?_
    refine t_then hK9 ?_
    rcases Bool.eq_false_or_eq_true (decide (z0.at_ ≥ (z0.codes.length : Int))) with hb13 | hb13
    · replace h := itT hb13 h
      refine t_T rfl hb13 ?_
      refine t_seq fun K14 hK15 => ?_
      refine t_region ?_
      refine c_p (r_as rfl) rfl ?_
      refine t_nil ?_
      refine t_then hK15 ?_
      refine t_ret ?_
      exact tr (ret1 rfl (v_t rfl) (t_leave (hQ _ (Option.some.inj h)) () rfl (fun w Z hA => V0) (.cons e0 .nil)))
    · replace h := itF hb13 h
      refine t_F rfl hb13 ?_
      refine t_skip ?_
      refine t_then hK7 ?_
      refine t_seq fun K16 hK17 => ?_
      refine t_region ?_
      refine c_p (r_mv rfl) rfl ?_
      refine c_p (r_nc rfl) rfl ?_
      refine c_p (r_fa (off' := 1) Tryd.underlying53 rfl ti3 rfl rfl) rfl ?_
      refine c_s (r_ld a0 Tryd.underlying3 rfl rfl rfl) rfl ?_
      refine c_p (r_i rfl rfl rfl) rfl ?_
      refine c_p (r_nc rfl) rfl ?_
      refine c_p (r_fa (off' := 1) Tryd.underlying53 rfl ti3 rfl rfl) rfl ?_
      refine nx (t_st u0 ti3 rfl rfl rfl rfl rfl (.s (.t (.s .z))) ?_)
      refine t_nil ?_
      refine t_then hK17 ?_
      refine t_seq fun K18 hK19 => ?_
      refine t_quiet mixed (by kernel_rfl) (panic_then panic_body) ?_
      refine k_p (r_mv rfl) rfl ?_
      refine k_p (r_nc rfl) rfl ?_
      refine k_p (r_fa (off' := 0) Tryd.underlying53 rfl ti24 rfl rfl) rfl ?_
      refine k_s (r_ld a0 Tryd.underlying24 rfl rfl rfl) rfl ?_
      refine k_p (r_mv rfl) rfl ?_
      refine k_p (r_nc rfl) rfl ?_
      refine k_p (r_fa (off' := 1) Tryd.underlying53 rfl ti3 rfl rfl) rfl ?_
      refine k_s (r_ld a0 Tryd.underlying3 rfl rfl rfl) rfl ?_
      refine k_p (r_i rfl rfl rfl) rfl ?_
      obtain ⟨el23, hel23, h⟩ := bs h
      refine t_q a0 hel23 fun q20 hq21 hm22 => ?_
      refine k_p (r_idx hq21 hm22 hel23 Tryd.underlying24 ti5 rfl rfl) rfl ?_
      refine t_op (opens_int .u8) a0 hel23 fun t24 => ?_
      refine k_s (r_e1 a0 hq21 Tryd.underlying5 rfl rfl rfl) rfl ?_
      refine k_p (r_ci Tryd.underlying5 Tryd.underlying3 rfl) rfl ?_
      refine k_p (r_mv rfl) rfl ?_
      obtain ⟨hc25, h⟩ := ck_out h
      refine k_p (r_rem rfl rfl hc25) rfl ?_
      refine k_p (r_as rfl) rfl ?_
      refine k_z ?_
      refine t_then hK19 ?_
      refine t_ret ?_
      exact ret1 rfl (v_t rfl) (t_leave (hQ _ (Option.some.inj h)) () rfl (fun w Z hA => V0) (.cons e0 .nil))
end Go.Proofs.YtgcigcbhilcgoaaDoor.Gx
