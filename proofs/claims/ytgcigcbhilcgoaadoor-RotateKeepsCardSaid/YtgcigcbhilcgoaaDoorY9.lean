/- Function 9, (*kaudit/kauditmill.Case).Rotation: what it answers as a plain function, and that the Go code comes to exactly that (where the plain function gives an answer). -/
import Derived.Test.YtgcigcbhilcgoaaDoorYT
import Derived.Test.YtgcigcbhilcgoaaDoorY10
import Derived.Test.YtgcigcbhilcgoaaDoorY16
set_option linter.unusedVariables false
set_option linter.unusedSimpArgs false
namespace Go.Proofs.YtgcigcbhilcgoaaDoor.Gx
open Go.Gx Go.RowKit
/-! ### (*kaudit/kauditmill.Case).Rotation: function 9 -/
def f_kauditmill_Case_Rotation (z0 : kauditmill_Case) : Option (api_Rotation × Int) := (f_kauditmill_Case_Pick z0 [64, 150, 300, 600, 1500, 1048576]).bind fun y10 => (f_kauditmill_Case_Int (⟨z0.codes, y10.2⟩ : kauditmill_Case) 4).bind fun y12 => (f_kauditmill_Case_Int (⟨z0.codes, y12.2⟩ : kauditmill_Case) 4).bind fun y14 => some ((⟨y10.1, (IntKind.wrap .i64 (2 + y12.1)), (IntKind.wrap .i64 (1 + y14.1))⟩ : api_Rotation), y14.2)
set_option maxHeartbeats 4000000 in
set_option maxRecDepth 100000 in
theorem C9 (z0 : kauditmill_Case) (g_ : Nat) (p1 : Option Addr) (m2 : Nat) (c3 : Nat) (r : api_Rotation × Int) (h : f_kauditmill_Case_Rotation z0 = some r) : FunG Tryd.prog 9 #[.pointer (some ⟨g_, 0, none⟩)] [vw (kSlice 5 (kInt .u8)) z0.codes [.slice p1 m2 c3], g_pow10, g_errs] [[blk g_ [.slice p1 m2 c3, .int .i64 z0.at_] 53]] (fun (_ : Unit) => .agg #[.int .i64 r.1.Most, .int .i64 r.1.Keep, .int .i64 r.1.Action]) (fun _ => []) (fun _ => [[blk g_ [.slice p1 m2 c3, .int .i64 r.2] 53]]) := by
  unfold f_kauditmill_Case_Rotation at h
  refine t_begin (args := [.pointer (some ⟨g_, 0, none⟩)]) Tryd.func9 rfl Tryd.ntmps9 rfl fun c R hR => ?_
  have hQ : ∀ X, X = r → ∀ w2 (_ : Unit), PostG c.w0 w2 c.M c.Y [] [[blk g_ [.slice p1 m2 c3, .int .i64 X.2] 53]] → R (.returned (.agg #[.int .i64 X.1.Most, .int .i64 X.1.Keep, .int .i64 X.1.Action])) w2 := fun X e => by subst e; exact hR
  refine t_seq fun K4 hK5 => ?_
  refine t_region ?_
  refine nx (t_al (cs := [.int .i64 0, .int .i64 0, .int .i64 0]) ti23 rfl rfl fun g6 => ?_)
  refine t_nil ?_
  refine t_then hK5 ?_
  refine t_seq fun K7 hK8 => ?_
  refine t_region ?_
  refine c_p (r_mv rfl) rfl ?_
  refine nx (t_bs (ps := [(0, .int .i64 64), (1, .int .i64 150), (2, .int .i64 300), (3, .int .i64 600), (4, .int .i64 1500), (5, .int .i64 1048576)]) (cs := [.int .i64 64, .int .i64 150, .int .i64 300, .int .i64 600, .int .i64 1500, .int .i64 1048576]) Tryd.underlying36 ti3 rfl rfl (by kernel_rfl) rfl fun g9 => ?_)
  refine t_tr (Kd := (kInt .i64)) (xs := [64, 150, 300, 600, 1500, 1048576]) (.cons e0 .nil) rfl (fun w Z S hA hN => flat_EO (S := Nil) (flatK_int .i64) (er1 (c1 := [.int .i64 64]) rfl (er1 (c1 := [.int .i64 150]) rfl (er1 (c1 := [.int .i64 300]) rfl (er1 (c1 := [.int .i64 600]) rfl (er1 (c1 := [.int .i64 1500]) rfl (er1 (c1 := [.int .i64 1048576]) rfl er0))))))) ?_
  obtain ⟨y10, hy10, h⟩ := bs h
  refine nx (t_cf (C10 _ _ _ _ _ _ _ _ _ _ hy10) (fun _ => (flat_blk flat_nil)) Tryd.func10 nm10 rfl rfl rfl (.cons e2 .nil) (fun w Z S hA hL => (F1 a0 hA (FL a0 hL (F1 a1 hA (F1 a2 hA F0))))) rfl fun t11 => ?_)
  refine c_p (r_mv rfl) rfl ?_
  obtain ⟨y12, hy12, h⟩ := bs h
  refine nx (t_ca (C16 _ _ _ _ _ _ _ hy12) Tryd.func16 nm16 rfl rfl rfl (.cons e0 .nil) (fun w Z hA => (V1 a0 hA (V1 a1 hA (V1 a2 hA V0)))) rfl fun t13 => ?_)
  refine c_p (r_i rfl rfl rfl) rfl ?_
  refine c_p (r_mv rfl) rfl ?_
  obtain ⟨y14, hy14, h⟩ := bs h
  refine nx (t_ca (C16 _ _ _ _ _ _ _ hy14) Tryd.func16 nm16 rfl rfl rfl (.cons e0 .nil) (fun w Z hA => (V1 a0 hA (V1 a1 hA (V1 a2 hA V0)))) rfl fun t15 => ?_)
  refine c_p (r_i rfl rfl rfl) rfl ?_
  refine c_p (r_bu (ps := [(0, .int .i64 y10.1), (1, .int .i64 (IntKind.wrap .i64 (2 + y12.1))), (2, .int .i64 (IntKind.wrap .i64 (1 + y14.1)))]) (cs := [.int .i64 y10.1, .int .i64 (IntKind.wrap .i64 (2 + y12.1)), .int .i64 (IntKind.wrap .i64 (1 + y14.1))]) rfl (by kernel_rfl)) rfl ?_
  refine nx (t_st u2 ti23 rfl rfl rfl rfl rfl (.t (.s (.s (.s .z)))) ?_)
  refine t_nil ?_
  refine t_then hK8 ?_
  refine t_ret ?_
  exact ret1 rfl (v_N rfl a2 Tryd.underlying23 rfl ti23 rfl) (t_leave (hQ _ (Option.some.inj h)) () rfl (fun w Z hA => V0) (.cons e0 .nil))
end Go.Proofs.YtgcigcbhilcgoaaDoor.Gx
