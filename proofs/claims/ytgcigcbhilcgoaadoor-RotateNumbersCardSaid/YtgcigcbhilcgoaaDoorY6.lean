/- Function 6, kaudit/kauditlaw26.RotateBack: what it answers as a plain function, and that the Go code comes to exactly that (where the plain function gives an answer). -/
import Derived.Test.YtgcigcbhilcgoaaDoorYT
import Derived.Test.YtgcigcbhilcgoaaDoorY15
import Derived.Test.YtgcigcbhilcgoaaDoorY19
import Derived.Test.YtgcigcbhilcgoaaDoorY20
import Derived.Test.YtgcigcbhilcgoaaDoorY21
set_option linter.unusedVariables false
set_option linter.unusedSimpArgs false
namespace Go.Proofs.YtgcigcbhilcgoaaDoor.Gx
open Go.Gx Go.RowKit
/-! ### kaudit/kauditlaw26.RotateBack: function 6 -/
def f_kauditlaw26_RotateBack (z0 : Int) (z1 : Int) : Option (Bool) := (f_rotate_Name (IntKind.wrap .i64 (1 + (((IntKind.wrap .i64 z0) : Int).tmod 1000)))).bind fun y7 => (f_rotate_Number y7).bind fun y9 => (f_rotate_Packed (IntKind.wrap .i64 (1 + (((IntKind.wrap .i64 z0) : Int).tmod 1000)))).bind fun y13 => (f_rotate_Number y13).bind fun y15 => if y9.2.1 = true then (if y9.2.2 = true then (some false) else (if (y9.1 == (IntKind.wrap .i64 (1 + (((IntKind.wrap .i64 z0) : Int).tmod 1000)))) = true then (if y15.2.1 = true then (if y15.2.2 = true then (if (y15.1 == (IntKind.wrap .i64 (1 + (((IntKind.wrap .i64 z0) : Int).tmod 1000)))) = true then ((f_rotate_Name (IntKind.wrap .i64 (1 + (((IntKind.wrap .i64 z0) : Int).tmod 1000)))).bind fun y25 => (f_rotate_Name (IntKind.wrap .i64 (1 + (((IntKind.wrap .i64 z1) : Int).tmod 1000)))).bind fun y27 => if ((y25.toList == y27.toList) == ((IntKind.wrap .i64 (1 + (((IntKind.wrap .i64 z0) : Int).tmod 1000))) == (IntKind.wrap .i64 (1 + (((IntKind.wrap .i64 z1) : Int).tmod 1000))))) = true then ((f_kauditlaw26_begun).bind fun y30 => some y30) else (some false)) else (some false)) else (some false)) else (some false)) else (some false))) else (some false)
set_option maxHeartbeats 4000000 in
set_option maxRecDepth 100000 in
theorem C6 (z0 : Int) (z1 : Int) (r : Bool) (h : f_kauditlaw26_RotateBack z0 z1 = some r) : FunG Tryd.prog 6 #[.int .u16 z0, .int .u16 z1] [g_pow10, g_errs] [] (fun (_ : Unit) => .bool r) (fun _ => []) (fun _ => []) := by
  unfold f_kauditlaw26_RotateBack at h
  refine t_begin (args := [.int .u16 z0, .int .u16 z1]) Tryd.func6 rfl Tryd.ntmps6 rfl fun c R hR => ?_
  have hQ : ∀ X, X = r → ∀ w2 (_ : Unit), PostG c.w0 w2 c.M c.Y [] [] → R (.returned (.bool X)) w2 := fun X e => by subst e; exact hR
  refine t_seq fun K1 hK2 => ?_
  refine t_region ?_
  refine c_p (r_as rfl) rfl ?_
  refine t_nil ?_
  refine t_then hK2 ?_
  refine t_seq fun K3 hK4 => ?_
  refine t_region ?_
  refine c_p (r_mv rfl) rfl ?_
  refine c_p (r_ci Tryd.underlying41 Tryd.underlying3 rfl) rfl ?_
  refine c_p (r_rem rfl rfl (by decide)) rfl ?_
  refine c_p (r_i rfl rfl rfl) rfl ?_
  refine c_p (r_mv rfl) rfl ?_
  refine c_p (r_ci Tryd.underlying41 Tryd.underlying3 rfl) rfl ?_
  refine c_p (r_rem rfl rfl (by decide)) rfl ?_
  refine c_p (r_i rfl rfl rfl) rfl ?_
  refine c_p (r_as rfl) rfl ?_
  refine c_p (r_as rfl) rfl ?_
  refine t_nil ?_
  refine t_then hK4 ?_
  refine t_seq fun K5 hK6 => ?_
  refine t_region ?_
  refine c_p (r_mv rfl) rfl ?_
  obtain ⟨y7, hy7, h⟩ := bs h
  refine nx (t_ca (C19 _ _ hy7) Tryd.func19 nm19 rfl rfl rfl .nil (fun w Z hA => (V1 a0 hA (V1 a1 hA V0))) rfl fun t8 => ?_)
  obtain ⟨y9, hy9, h⟩ := bs h
  refine nx (t_ca (C21 _ _ hy9) Tryd.func21 nm21 rfl rfl rfl .nil (fun w Z hA => (V1 a0 hA (V1 a1 hA V0))) rfl fun t10 => ?_)
  refine c_p (r_mv rfl) rfl ?_
  refine c_p (r_ex rfl rfl) rfl ?_
  refine c_p (r_ex rfl rfl) rfl ?_
  refine c_p (r_ex rfl rfl) rfl ?_
  refine c_p (r_as rfl) rfl ?_
  refine c_p (r_as rfl) rfl ?_
  refine c_p (r_as rfl) rfl ?_
  refine t_nil ?_
  refine t_then hK6 ?_
  refine t_seq fun K11 hK12 => ?_
  refine t_region ?_
  refine c_p (r_mv rfl) rfl ?_
  obtain ⟨y13, hy13, h⟩ := bs h
  refine nx (t_ca (C20 _ _ hy13) Tryd.func20 nm20 rfl rfl rfl .nil (fun w Z hA => (V1 a0 hA (V1 a1 hA V0))) rfl fun t14 => ?_)
  obtain ⟨y15, hy15, h⟩ := bs h
  refine nx (t_ca (C21 _ _ hy15) Tryd.func21 nm21 rfl rfl rfl .nil (fun w Z hA => (V1 a0 hA (V1 a1 hA V0))) rfl fun t16 => ?_)
  refine c_p (r_mv rfl) rfl ?_
  refine c_p (r_ex rfl rfl) rfl ?_
  refine c_p (r_ex rfl rfl) rfl ?_
  refine c_p (r_ex rfl rfl) rfl ?_
  refine c_p (r_as rfl) rfl ?_
  refine c_p (r_as rfl) rfl ?_
  refine c_p (r_as rfl) rfl ?_
  refine t_nil ?_
  refine t_then hK12 ?_
  refine t_seq fun K17 hK18 => ?_
  refine t_region ?_
  refine c_p (r_mv rfl) rfl ?_
  refine c_p (r_mv rfl) rfl ?_
  rcases Bool.eq_false_or_eq_true y9.2.1 with hb19 | hb19
  · replace h := itT hb19 h
    refine nx (gd rfl rfl hb19 (sp (r_mv rfl) rfl ?_))
    refine nx (gd rfl rfl hb19 (sp (r_not rfl) rfl ?_))
    refine c_p (r_pT rfl hb19 rfl) rfl ?_
    refine c_p (r_mv rfl) rfl ?_
    rcases Bool.eq_false_or_eq_true y9.2.2 with hb20 | hb20
    · replace h := itT hb20 h
      refine nx (pass rfl rfl (congrArg Bool.not hb20) rfl ?_)
      refine nx (pass rfl rfl (congrArg Bool.not hb20) rfl ?_)
      refine nx (pass rfl rfl (congrArg Bool.not hb20) rfl ?_)
      refine c_p (r_pF rfl (congrArg Bool.not hb20) rfl) rfl ?_
      refine c_p (r_mv rfl) rfl ?_
      refine nx (pass rfl rfl rfl rfl ?_)
      refine c_p (r_pF rfl rfl rfl) rfl ?_
      refine c_p (r_mv rfl) rfl ?_
      refine nx (pass rfl rfl rfl rfl ?_)
      refine c_p (r_pF rfl rfl rfl) rfl ?_
      refine c_p (r_mv rfl) rfl ?_
      refine nx (pass rfl rfl rfl rfl ?_)
      refine nx (pass rfl rfl rfl rfl ?_)
      refine nx (pass rfl rfl rfl rfl ?_)
      refine c_p (r_pF rfl rfl rfl) rfl ?_
      refine c_p (r_mv rfl) rfl ?_
      refine nx (pass rfl rfl rfl rfl ?_)
      refine nx (pass rfl rfl rfl rfl ?_)
      refine nx (pass rfl rfl rfl rfl ?_)
      refine nx (pass rfl rfl rfl rfl ?_)
      refine nx (pass rfl rfl rfl rfl ?_)
      refine nx (pass rfl rfl rfl rfl ?_)
      refine nx (pass rfl rfl rfl rfl ?_)
      refine nx (pass rfl rfl rfl rfl ?_)
      refine nx (pass rfl rfl rfl rfl ?_)
      refine c_p (r_pF rfl rfl rfl) rfl ?_
      refine c_p (r_mv rfl) rfl ?_
      refine nx (pass rfl rfl rfl rfl ?_)
      refine c_p (r_pF rfl rfl rfl) rfl ?_
      refine c_p (r_as rfl) rfl ?_
      refine t_nil ?_
      refine t_then hK18 ?_
      refine t_ret ?_
      exact ret1 rfl (v_t rfl) (t_leave (hQ _ (Option.some.inj h)) () rfl (fun w Z hA => V0) .nil)
    · replace h := itF hb20 h
      refine nx (gd rfl rfl (congrArg Bool.not hb20) (sp (r_mv rfl) rfl ?_))
      refine nx (gd rfl rfl (congrArg Bool.not hb20) (sp (r_mv rfl) rfl ?_))
      refine nx (gd rfl rfl (congrArg Bool.not hb20) (sp (r_i rfl rfl rfl) rfl ?_))
      refine c_p (r_pT rfl (congrArg Bool.not hb20) rfl) rfl ?_
      refine c_p (r_mv rfl) rfl ?_
      rcases Bool.eq_false_or_eq_true (y9.1 == (IntKind.wrap .i64 (1 + (((IntKind.wrap .i64 z0) : Int).tmod 1000)))) with hb21 | hb21
      · replace h := itT hb21 h
        refine nx (gd rfl rfl hb21 (sp (r_mv rfl) rfl ?_))
        refine c_p (r_pT rfl hb21 rfl) rfl ?_
        refine c_p (r_mv rfl) rfl ?_
        rcases Bool.eq_false_or_eq_true y15.2.1 with hb22 | hb22
        · replace h := itT hb22 h
          refine nx (gd rfl rfl hb22 (sp (r_mv rfl) rfl ?_))
          refine c_p (r_pT rfl hb22 rfl) rfl ?_
          refine c_p (r_mv rfl) rfl ?_
          rcases Bool.eq_false_or_eq_true y15.2.2 with hb23 | hb23
          · replace h := itT hb23 h
            refine nx (gd rfl rfl hb23 (sp (r_mv rfl) rfl ?_))
            refine nx (gd rfl rfl hb23 (sp (r_mv rfl) rfl ?_))
            refine nx (gd rfl rfl hb23 (sp (r_i rfl rfl rfl) rfl ?_))
            refine c_p (r_pT rfl hb23 rfl) rfl ?_
            refine c_p (r_mv rfl) rfl ?_
            rcases Bool.eq_false_or_eq_true (y15.1 == (IntKind.wrap .i64 (1 + (((IntKind.wrap .i64 z0) : Int).tmod 1000)))) with hb24 | hb24
            · replace h := itT hb24 h
              refine nx (gd rfl rfl hb24 (sp (r_mv rfl) rfl ?_))
              obtain ⟨y25, hy25, h⟩ := bs h
              refine nx (gd rfl rfl hb24 (t_ca (C19 _ _ hy25) Tryd.func19 nm19 rfl rfl rfl .nil (fun w Z hA => (V1 a0 hA (V1 a1 hA V0))) rfl fun t26 => ?_))
              refine nx (gd rfl rfl hb24 (sp (r_mv rfl) rfl ?_))
              obtain ⟨y27, hy27, h⟩ := bs h
              refine nx (gd rfl rfl hb24 (t_ca (C19 _ _ hy27) Tryd.func19 nm19 rfl rfl rfl .nil (fun w Z hA => (V1 a0 hA (V1 a1 hA V0))) rfl fun t28 => ?_))
              refine nx (gd rfl rfl hb24 (sp (r_s rfl rfl rfl) rfl ?_))
              refine nx (gd rfl rfl hb24 (sp (r_mv rfl) rfl ?_))
              refine nx (gd rfl rfl hb24 (sp (r_mv rfl) rfl ?_))
              refine nx (gd rfl rfl hb24 (sp (r_i rfl rfl rfl) rfl ?_))
              refine nx (gd rfl rfl hb24 (sp (r_beq Tryd.underlying4 rfl rfl) rfl ?_))
              refine c_p (r_pT rfl hb24 rfl) rfl ?_
              refine c_p (r_mv rfl) rfl ?_
              rcases Bool.eq_false_or_eq_true ((y25.toList == y27.toList) == ((IntKind.wrap .i64 (1 + (((IntKind.wrap .i64 z0) : Int).tmod 1000))) == (IntKind.wrap .i64 (1 + (((IntKind.wrap .i64 z1) : Int).tmod 1000))))) with hb29 | hb29
              · replace h := itT hb29 h
                obtain ⟨y30, hy30, h⟩ := bs h
                refine nx (gd rfl rfl hb29 (t_ca (C15 _ hy30) Tryd.func15 nm15 rfl rfl rfl .nil (fun w Z hA => (V1 a0 hA (V1 a1 hA V0))) rfl fun t31 => ?_))
                refine c_p (r_pT rfl hb29 rfl) rfl ?_
                refine c_p (r_as rfl) rfl ?_
                refine t_nil ?_
                refine t_then hK18 ?_
                refine t_ret ?_
                exact ret1 rfl (v_t rfl) (t_leave (hQ _ (Option.some.inj h)) () rfl (fun w Z hA => V0) .nil)
              · replace h := itF hb29 h
                refine nx (pass rfl rfl hb29 rfl ?_)
                refine c_p (r_pF rfl hb29 rfl) rfl ?_
                refine c_p (r_as rfl) rfl ?_
                refine t_nil ?_
                refine t_then hK18 ?_
                refine t_ret ?_
                exact ret1 rfl (v_t rfl) (t_leave (hQ _ (Option.some.inj h)) () rfl (fun w Z hA => V0) .nil)
            · replace h := itF hb24 h
              refine nx (pass rfl rfl hb24 rfl ?_)
              refine nx (pass rfl rfl hb24 rfl ?_)
              refine nx (pass rfl rfl hb24 rfl ?_)
              refine nx (pass rfl rfl hb24 rfl ?_)
              refine nx (pass rfl rfl hb24 rfl ?_)
              refine nx (pass rfl rfl hb24 rfl ?_)
              refine nx (pass rfl rfl hb24 rfl ?_)
              refine nx (pass rfl rfl hb24 rfl ?_)
              refine nx (pass rfl rfl hb24 rfl ?_)
              refine c_p (r_pF rfl hb24 rfl) rfl ?_
              refine c_p (r_mv rfl) rfl ?_
              refine nx (pass rfl rfl rfl rfl ?_)
              refine c_p (r_pF rfl rfl rfl) rfl ?_
              refine c_p (r_as rfl) rfl ?_
              refine t_nil ?_
              refine t_then hK18 ?_
              refine t_ret ?_
              exact ret1 rfl (v_t rfl) (t_leave (hQ _ (Option.some.inj h)) () rfl (fun w Z hA => V0) .nil)
          · replace h := itF hb23 h
            refine nx (pass rfl rfl hb23 rfl ?_)
            refine nx (pass rfl rfl hb23 rfl ?_)
            refine nx (pass rfl rfl hb23 rfl ?_)
            refine c_p (r_pF rfl hb23 rfl) rfl ?_
            refine c_p (r_mv rfl) rfl ?_
            refine nx (pass rfl rfl rfl rfl ?_)
            refine nx (pass rfl rfl rfl rfl ?_)
            refine nx (pass rfl rfl rfl rfl ?_)
            refine nx (pass rfl rfl rfl rfl ?_)
            refine nx (pass rfl rfl rfl rfl ?_)
            refine nx (pass rfl rfl rfl rfl ?_)
            refine nx (pass rfl rfl rfl rfl ?_)
            refine nx (pass rfl rfl rfl rfl ?_)
            refine nx (pass rfl rfl rfl rfl ?_)
            refine c_p (r_pF rfl rfl rfl) rfl ?_
            refine c_p (r_mv rfl) rfl ?_
            refine nx (pass rfl rfl rfl rfl ?_)
            refine c_p (r_pF rfl rfl rfl) rfl ?_
            refine c_p (r_as rfl) rfl ?_
            refine t_nil ?_
            refine t_then hK18 ?_
            refine t_ret ?_
            exact ret1 rfl (v_t rfl) (t_leave (hQ _ (Option.some.inj h)) () rfl (fun w Z hA => V0) .nil)
        · replace h := itF hb22 h
          refine nx (pass rfl rfl hb22 rfl ?_)
          refine c_p (r_pF rfl hb22 rfl) rfl ?_
          refine c_p (r_mv rfl) rfl ?_
          refine nx (pass rfl rfl rfl rfl ?_)
          refine nx (pass rfl rfl rfl rfl ?_)
          refine nx (pass rfl rfl rfl rfl ?_)
          refine c_p (r_pF rfl rfl rfl) rfl ?_
          refine c_p (r_mv rfl) rfl ?_
          refine nx (pass rfl rfl rfl rfl ?_)
          refine nx (pass rfl rfl rfl rfl ?_)
          refine nx (pass rfl rfl rfl rfl ?_)
          refine nx (pass rfl rfl rfl rfl ?_)
          refine nx (pass rfl rfl rfl rfl ?_)
          refine nx (pass rfl rfl rfl rfl ?_)
          refine nx (pass rfl rfl rfl rfl ?_)
          refine nx (pass rfl rfl rfl rfl ?_)
          refine nx (pass rfl rfl rfl rfl ?_)
          refine c_p (r_pF rfl rfl rfl) rfl ?_
          refine c_p (r_mv rfl) rfl ?_
          refine nx (pass rfl rfl rfl rfl ?_)
          refine c_p (r_pF rfl rfl rfl) rfl ?_
          refine c_p (r_as rfl) rfl ?_
          refine t_nil ?_
          refine t_then hK18 ?_
          refine t_ret ?_
          exact ret1 rfl (v_t rfl) (t_leave (hQ _ (Option.some.inj h)) () rfl (fun w Z hA => V0) .nil)
      · replace h := itF hb21 h
        refine nx (pass rfl rfl hb21 rfl ?_)
        refine c_p (r_pF rfl hb21 rfl) rfl ?_
        refine c_p (r_mv rfl) rfl ?_
        refine nx (pass rfl rfl rfl rfl ?_)
        refine c_p (r_pF rfl rfl rfl) rfl ?_
        refine c_p (r_mv rfl) rfl ?_
        refine nx (pass rfl rfl rfl rfl ?_)
        refine nx (pass rfl rfl rfl rfl ?_)
        refine nx (pass rfl rfl rfl rfl ?_)
        refine c_p (r_pF rfl rfl rfl) rfl ?_
        refine c_p (r_mv rfl) rfl ?_
        refine nx (pass rfl rfl rfl rfl ?_)
        refine nx (pass rfl rfl rfl rfl ?_)
        refine nx (pass rfl rfl rfl rfl ?_)
        refine nx (pass rfl rfl rfl rfl ?_)
        refine nx (pass rfl rfl rfl rfl ?_)
        refine nx (pass rfl rfl rfl rfl ?_)
        refine nx (pass rfl rfl rfl rfl ?_)
        refine nx (pass rfl rfl rfl rfl ?_)
        refine nx (pass rfl rfl rfl rfl ?_)
        refine c_p (r_pF rfl rfl rfl) rfl ?_
        refine c_p (r_mv rfl) rfl ?_
        refine nx (pass rfl rfl rfl rfl ?_)
        refine c_p (r_pF rfl rfl rfl) rfl ?_
        refine c_p (r_as rfl) rfl ?_
        refine t_nil ?_
        refine t_then hK18 ?_
        refine t_ret ?_
        exact ret1 rfl (v_t rfl) (t_leave (hQ _ (Option.some.inj h)) () rfl (fun w Z hA => V0) .nil)
  · replace h := itF hb19 h
    refine nx (pass rfl rfl hb19 rfl ?_)
    refine nx (pass rfl rfl hb19 rfl ?_)
    refine c_p (r_pF rfl hb19 rfl) rfl ?_
    refine c_p (r_mv rfl) rfl ?_
    refine nx (pass rfl rfl rfl rfl ?_)
    refine nx (pass rfl rfl rfl rfl ?_)
    refine nx (pass rfl rfl rfl rfl ?_)
    refine c_p (r_pF rfl rfl rfl) rfl ?_
    refine c_p (r_mv rfl) rfl ?_
    refine nx (pass rfl rfl rfl rfl ?_)
    refine c_p (r_pF rfl rfl rfl) rfl ?_
    refine c_p (r_mv rfl) rfl ?_
    refine nx (pass rfl rfl rfl rfl ?_)
    refine c_p (r_pF rfl rfl rfl) rfl ?_
    refine c_p (r_mv rfl) rfl ?_
    refine nx (pass rfl rfl rfl rfl ?_)
    refine nx (pass rfl rfl rfl rfl ?_)
    refine nx (pass rfl rfl rfl rfl ?_)
    refine c_p (r_pF rfl rfl rfl) rfl ?_
    refine c_p (r_mv rfl) rfl ?_
    refine nx (pass rfl rfl rfl rfl ?_)
    refine nx (pass rfl rfl rfl rfl ?_)
    refine nx (pass rfl rfl rfl rfl ?_)
    refine nx (pass rfl rfl rfl rfl ?_)
    refine nx (pass rfl rfl rfl rfl ?_)
    refine nx (pass rfl rfl rfl rfl ?_)
    refine nx (pass rfl rfl rfl rfl ?_)
    refine nx (pass rfl rfl rfl rfl ?_)
    refine nx (pass rfl rfl rfl rfl ?_)
    refine c_p (r_pF rfl rfl rfl) rfl ?_
    refine c_p (r_mv rfl) rfl ?_
    refine nx (pass rfl rfl rfl rfl ?_)
    refine c_p (r_pF rfl rfl rfl) rfl ?_
    refine c_p (r_as rfl) rfl ?_
    refine t_nil ?_
    refine t_then hK18 ?_
    refine t_ret ?_
    exact ret1 rfl (v_t rfl) (t_leave (hQ _ (Option.some.inj h)) () rfl (fun w Z hA => V0) .nil)
end Go.Proofs.YtgcigcbhilcgoaaDoor.Gx
