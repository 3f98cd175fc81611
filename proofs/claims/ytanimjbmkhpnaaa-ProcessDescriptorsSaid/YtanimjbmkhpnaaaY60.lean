/- Function 60, cmp.Compare[int]: what it answers as a plain function, and that the Go code comes to exactly that (where the plain function gives an answer). -/
import Derived.Test.YtanimjbmkhpnaaaYT
import Derived.Test.YtanimjbmkhpnaaaY71
set_option linter.unusedVariables false
set_option linter.unusedSimpArgs false
namespace Go.Proofs.Ytanimjbmkhpnaaa.Gx
open Go.Gx Go.RowKit
/-! ### cmp.Compare[int]: function 60 -/
def f_cmp_Compare_int (z0 : Int) (z1 : Int) : Option (Int) := (f_cmp_isNaN_int z0).bind fun y5 => (f_cmp_isNaN_int z1).bind fun y9 => if y5 = true then (if y9 = true then (some 0) else (some (-1))) else (if y9 = true then (some 1) else (if (decide (z0 < z1)) = true then (some (-1)) else (if (decide (z0 > z1)) = true then (some 1) else (some 0))))
set_option maxHeartbeats 4000000 in
set_option maxRecDepth 100000 in
theorem C60 (z0 : Int) (z1 : Int) (r : Int) (h : f_cmp_Compare_int z0 z1 = some r) : FunG Try.prog 60 #[.int .i64 z0, .int .i64 z1] [] [] (fun (_ : Unit) => .int .i64 r) (fun _ => []) (fun _ => []) := by
  unfold f_cmp_Compare_int at h
  refine t_begin (args := [.int .i64 z0, .int .i64 z1]) Try.func60 rfl Try.ntmps60 rfl fun c R hR => ?_
  have hQ : ∀ X, X = r → ∀ w2 (_ : Unit), PostG c.w0 w2 c.M c.Y [] [] → R (.returned (.int .i64 X)) w2 := fun X e => by subst e; exact hR
  refine t_seq fun K1 hK2 => ?_
  refine t_region ?_
  refine c_p (r_as rfl) rfl ?_
  refine t_nil ?_
  refine t_then hK2 ?_
  refine t_seq fun K3 hK4 => ?_
  refine t_region ?_
  refine c_p (r_mv rfl) rfl ?_
  obtain ⟨y5, hy5, h⟩ := bs h
  refine nx (t_ca (C71 _ _ hy5) Try.func71 nm71 rfl rfl rfl .nil (fun w Z hA => V0) rfl fun t6 => ?_)
  refine c_p (r_as rfl) rfl ?_
  refine t_nil ?_
  refine t_then hK4 ?_
  refine t_seq fun K7 hK8 => ?_
  refine t_region ?_
  refine c_p (r_mv rfl) rfl ?_
  obtain ⟨y9, hy9, h⟩ := bs h
  refine nx (t_ca (C71 _ _ hy9) Try.func71 nm71 rfl rfl rfl .nil (fun w Z hA => V0) rfl fun t10 => ?_)
  refine c_p (r_as rfl) rfl ?_
  refine t_nil ?_
  refine t_then hK8 ?_
  refine t_seq fun K11 hK12 => ?_
  refine t_seq fun K13 hK14 => ?_
  refine t_region ?_
  refine c_p (r_mv rfl) rfl ?_
  refine t_nil ?_
  refine t_then hK14 ?_
  rcases Bool.eq_false_or_eq_true y5 with hb15 | hb15
  · replace h := itT hb15 h
    refine t_T rfl hb15 ?_
    refine t_seq fun K16 hK17 => ?_
    refine t_seq fun K18 hK19 => ?_
    refine t_region ?_
    refine c_p (r_mv rfl) rfl ?_
    refine t_nil ?_
    refine t_then hK19 ?_
    rcases Bool.eq_false_or_eq_true y9 with hb20 | hb20
    · replace h := itT hb20 h
      refine t_T rfl hb20 ?_
      refine t_seq fun K21 hK22 => ?_
      refine t_region ?_
      refine c_p (r_as rfl) rfl ?_
      refine t_nil ?_
      refine t_then hK22 ?_
      refine t_ret ?_
      exact tr (tr (ret1 rfl (v_t rfl) (t_leave (hQ _ (Option.some.inj h)) () rfl (fun w Z hA => V0) .nil)))
    · replace h := itF hb20 h
      refine t_F rfl hb20 ?_
      refine t_skip ?_
      refine t_then hK17 ?_
      refine t_seq fun K23 hK24 => ?_
      refine t_region ?_
      refine c_p (r_as rfl) rfl ?_
      refine t_nil ?_
      refine t_then hK24 ?_
      refine t_ret ?_
      exact tr (ret1 rfl (v_t rfl) (t_leave (hQ _ (Option.some.inj h)) () rfl (fun w Z hA => V0) .nil))
  · replace h := itF hb15 h
    refine t_F rfl hb15 ?_
    refine t_skip ?_
    refine t_then hK12 ?_
    refine t_seq fun K25 hK26 => ?_
    refine t_seq fun K27 hK28 => ?_
    refine t_region ?_
    refine c_p (r_mv rfl) rfl ?_
    refine t_nil ?_
    refine t_then hK28 ?_
    rcases Bool.eq_false_or_eq_true y9 with hb29 | hb29
    · replace h := itT hb29 h
      refine t_T rfl hb29 ?_
      refine t_seq fun K30 hK31 => ?_
      refine t_region ?_
      refine c_p (r_as rfl) rfl ?_
      refine t_nil ?_
      refine t_then hK31 ?_
      refine t_ret ?_
      exact tr (ret1 rfl (v_t rfl) (t_leave (hQ _ (Option.some.inj h)) () rfl (fun w Z hA => V0) .nil))
    · replace h := itF hb29 h
      refine t_F rfl hb29 ?_
      refine t_skip ?_
      refine t_then hK26 ?_
      refine t_seq fun K32 hK33 => ?_
      refine t_seq fun K34 hK35 => ?_
      refine t_region ?_
      refine c_p (r_mv rfl) rfl ?_
      refine c_p (r_mv rfl) rfl ?_
      refine c_p (r_i rfl rfl rfl) rfl ?_
      refine t_nil ?_
      refine t_then hK35 ?_
      rcases Bool.eq_false_or_eq_true (decide (z0 < z1)) with hb36 | hb36
      · replace h := itT hb36 h
        refine t_T rfl hb36 ?_
        refine t_seq fun K37 hK38 => ?_
        refine t_region ?_
        refine c_p (r_as rfl) rfl ?_
        refine t_nil ?_
        refine t_then hK38 ?_
        refine t_ret ?_
        exact tr (ret1 rfl (v_t rfl) (t_leave (hQ _ (Option.some.inj h)) () rfl (fun w Z hA => V0) .nil))
      · replace h := itF hb36 h
        refine t_F rfl hb36 ?_
        refine t_skip ?_
        refine t_then hK33 ?_
        refine t_seq fun K39 hK40 => ?_
        refine t_seq fun K41 hK42 => ?_
        refine t_region ?_
        refine c_p (r_mv rfl) rfl ?_
        refine c_p (r_mv rfl) rfl ?_
        refine c_p (r_i rfl rfl rfl) rfl ?_
        refine t_nil ?_
        refine t_then hK42 ?_
        rcases Bool.eq_false_or_eq_true (decide (z0 > z1)) with hb43 | hb43
        · replace h := itT hb43 h
          refine t_T rfl hb43 ?_
          refine t_seq fun K44 hK45 => ?_
          refine t_region ?_
          refine c_p (r_as rfl) rfl ?_
          refine t_nil ?_
          refine t_then hK45 ?_
          refine t_ret ?_
          exact tr (ret1 rfl (v_t rfl) (t_leave (hQ _ (Option.some.inj h)) () rfl (fun w Z hA => V0) .nil))
        · replace h := itF hb43 h
          refine t_F rfl hb43 ?_
          refine t_skip ?_
          refine t_then hK40 ?_
          refine t_seq fun K46 hK47 => ?_
          refine t_region ?_
          refine c_p (r_as rfl) rfl ?_
          refine t_nil ?_
          refine t_then hK47 ?_
          refine t_ret ?_
          exact ret1 rfl (v_t rfl) (t_leave (hQ _ (Option.some.inj h)) () rfl (fun w Z hA => V0) .nil)
end Go.Proofs.Ytanimjbmkhpnaaa.Gx
