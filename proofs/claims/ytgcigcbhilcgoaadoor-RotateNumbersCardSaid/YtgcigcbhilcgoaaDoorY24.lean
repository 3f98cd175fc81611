/- Function 24, kaudit/kauditref26.Packed: what it answers as a plain function, and that the Go code comes to exactly that (where the plain function gives an answer). -/
import Derived.Test.YtgcigcbhilcgoaaDoorYT
import Derived.Test.YtgcigcbhilcgoaaDoorY23
set_option linter.unusedVariables false
set_option linter.unusedSimpArgs false
namespace Go.Proofs.YtgcigcbhilcgoaaDoor.Gx
open Go.Gx Go.RowKit
/-! ### kaudit/kauditref26.Packed: function 24 -/
def f_kauditref26_Packed (z0 : Int) : Option (ByteArray) := (f_kauditref26_Name z0).bind fun y7 => if (y7.toList == (⟨#[]⟩ : ByteArray).toList) = true then (some (⟨#[]⟩ : ByteArray)) else (ck (y7.size + (⟨#[46, 122]⟩ : ByteArray).size ≤ maxStr) <| some (y7 ++ (⟨#[46, 122]⟩ : ByteArray)))
set_option maxHeartbeats 4000000 in
set_option maxRecDepth 100000 in
theorem C24 (z0 : Int) (r : ByteArray) (h : f_kauditref26_Packed z0 = some r) : FunG Tryd.prog 24 #[.int .i64 z0] [g_pow10, g_errs] [] (fun (_ : Unit) => .string r) (fun _ => []) (fun _ => []) := by
  unfold f_kauditref26_Packed at h
  refine t_begin (args := [.int .i64 z0]) Tryd.func24 rfl Tryd.ntmps24 rfl fun c R hR => ?_
  have hQ : ∀ X, X = r → ∀ w2 (_ : Unit), PostG c.w0 w2 c.M c.Y [] [] → R (.returned (.string X)) w2 := fun X e => by subst e; exact hR
  refine t_seq fun K1 hK2 => ?_
  refine t_region ?_
  refine c_p (r_as rfl) rfl ?_
  refine t_nil ?_
  refine t_then hK2 ?_
  refine t_seq fun K3 hK4 => ?_
  refine t_seq fun K5 hK6 => ?_
  refine t_region ?_
  refine c_p (r_mv rfl) rfl ?_
  obtain ⟨y7, hy7, h⟩ := bs h
  refine nx (t_ca (C23 _ _ hy7) Tryd.func23 nm23 rfl rfl rfl .nil (fun w Z hA => (V1 a0 hA (V1 a1 hA V0))) rfl fun t8 => ?_)
  refine c_p (r_as rfl) rfl ?_
  refine t_nil ?_
  refine t_then hK6 ?_
  refine t_seq fun K9 hK10 => ?_
  refine t_region ?_
  refine c_p (r_mv rfl) rfl ?_
  refine c_p (r_s rfl rfl rfl) rfl ?_
  refine t_nil ?_
  refine t_then hK10 ?_
  rcases Bool.eq_false_or_eq_true (y7.toList == (⟨#[]⟩ : ByteArray).toList) with hb11 | hb11
  · replace h := itT hb11 h
    refine t_F rfl (congrArg Bool.not hb11) ?_
    refine t_skip ?_
    refine t_then hK4 ?_
    refine t_seq fun K15 hK16 => ?_
    refine t_region ?_
    refine c_p (r_as rfl) rfl ?_
    refine t_nil ?_
    refine t_then hK16 ?_
    refine t_ret ?_
    exact ret1 rfl (v_t rfl) (t_leave (hQ _ (Option.some.inj h)) () rfl (fun w Z hA => V0) .nil)
  · replace h := itF hb11 h
    refine t_T rfl (congrArg Bool.not hb11) ?_
    refine t_seq fun K12 hK13 => ?_
    refine t_region ?_
    refine c_p (r_mv rfl) rfl ?_
    obtain ⟨hc14, h⟩ := ck_out h
    refine c_p (r_cat rfl rfl hc14) rfl ?_
    refine c_p (r_as rfl) rfl ?_
    refine t_nil ?_
    refine t_then hK13 ?_
    refine t_ret ?_
    exact tr (ret1 rfl (v_t rfl) (t_leave (hQ _ (Option.some.inj h)) () rfl (fun w Z hA => V0) .nil))
end Go.Proofs.YtgcigcbhilcgoaaDoor.Gx
