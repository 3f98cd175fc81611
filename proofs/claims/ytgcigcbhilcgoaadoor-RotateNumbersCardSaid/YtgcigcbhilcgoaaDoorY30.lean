/- Function 30, kaudit/rotate.unique[int]: what it answers as a plain function, and that the Go code comes to exactly that (where the plain function gives an answer). -/
import Derived.Test.YtgcigcbhilcgoaaDoorYT
import Derived.Test.YtgcigcbhilcgoaaDoorY36
import Derived.Test.YtgcigcbhilcgoaaDoorY37
import Derived.Test.YtgcigcbhilcgoaaDoorY38
set_option linter.unusedVariables false
set_option linter.unusedSimpArgs false
namespace Go.Proofs.YtgcigcbhilcgoaaDoor.Gx
open Go.Gx Go.RowKit
/-! ### kaudit/rotate.unique[int]: function 30 -/
def f_rotate_unique_int (z0 : (List Int)) : Option ((List Int)) := (f_slices_Clone_int_int z0).bind fun y8 => (f_slices_Sort_int_int y8).bind fun y12 => (f_slices_Compact_int_int y12).bind fun y16 => some y16
set_option maxHeartbeats 4000000 in
set_option maxRecDepth 100000 in
theorem C30 (z0 : (List Int)) (p1 : Option Addr) (m2 : Nat) (c3 : Nat) (r : (List Int)) (h : f_rotate_unique_int z0 = some r) : FunG Tryd.prog 30 #[.slice p1 m2 c3] [vw (kSlice 3 (kInt .i64)) z0 [.slice p1 m2 c3], g_pow10, g_errs] [] (fun t : (Option Addr × Nat × Nat) => .slice t.1 t.2.1 t.2.2) (fun t => []) (fun t => [[row 3 (kInt .i64) r (.slice t.1 t.2.1 t.2.2)]]) := by
  unfold f_rotate_unique_int at h
  refine t_begin (args := [.slice p1 m2 c3]) Tryd.func30 rfl Tryd.ntmps30 rfl fun c R hR => ?_
  have hQ : ∀ X, X = r → ∀ w2 (t : (Option Addr × Nat × Nat)), PostG c.w0 w2 c.M c.Y [] [[row 3 (kInt .i64) X (.slice t.1 t.2.1 t.2.2)]] → R (.returned (.slice t.1 t.2.1 t.2.2)) w2 := fun X e => by subst e; exact hR
  refine t_seq fun K4 hK5 => ?_
  refine t_region ?_
  refine c_p (r_as rfl) rfl ?_
  refine t_nil ?_
  refine t_then hK5 ?_
  refine t_seq fun K6 hK7 => ?_
  refine t_region ?_
  refine c_p (r_mv rfl) rfl ?_
  obtain ⟨y8, hy8, h⟩ := bs h
  refine nx (t_ca (C36 _ _ _ _ _ hy8) Tryd.func36 nm36 rfl rfl rfl .nil (fun w Z hA => (V1 a0 hA V0)) rfl fun t9 => ?_)
  refine c_p (r_as rfl) rfl ?_
  refine t_nil ?_
  refine t_then hK7 ?_
  refine t_seq fun K10 hK11 => ?_
  refine t_region ?_
  refine c_p (r_mv rfl) rfl ?_
  obtain ⟨y12, hy12, h⟩ := bs h
  refine nx (t_ca (C37 _ _ _ _ _ hy12) Tryd.func37 nm37 rfl rfl rfl (.cons e0 .nil) (fun w Z hA => V0) rfl fun t13 => ?_)
  refine t_nil ?_
  refine t_then hK11 ?_
  refine t_seq fun K14 hK15 => ?_
  refine t_region ?_
  refine c_p (r_mv rfl) rfl ?_
  obtain ⟨y16, hy16, h⟩ := bs h
  refine nx (t_ca (C38 _ _ _ _ _ hy16) Tryd.func38 nm38 rfl rfl rfl (.cons e0 .nil) (fun w Z hA => V0) rfl fun t17 => ?_)
  refine c_p (r_as rfl) rfl ?_
  refine t_nil ?_
  refine t_then hK15 ?_
  refine t_ret ?_
  exact ret1 rfl (v_t rfl) (t_leave (hQ _ (Option.some.inj h)) (t17.1, t17.2.1, t17.2.2) rfl (fun w Z hA => V0) (.cons e0 .nil))
end Go.Proofs.YtgcigcbhilcgoaaDoor.Gx
