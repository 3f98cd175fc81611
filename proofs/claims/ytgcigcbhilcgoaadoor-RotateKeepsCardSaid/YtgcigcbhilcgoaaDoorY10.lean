/- Function 10, (*kaudit/kauditmill.Case).Pick: what it answers as a plain function, and that the Go code comes to exactly that (where the plain function gives an answer). -/
import Derived.Test.YtgcigcbhilcgoaaDoorYT
import Derived.Test.YtgcigcbhilcgoaaDoorY16
set_option linter.unusedVariables false
set_option linter.unusedSimpArgs false
namespace Go.Proofs.YtgcigcbhilcgoaaDoor.Gx
open Go.Gx Go.RowKit
/-! ### (*kaudit/kauditmill.Case).Pick: function 10 -/
def f_kauditmill_Case_Pick (z0 : kauditmill_Case) (z1 : (List Int)) : Option (Int × Int) := (f_kauditmill_Case_Int z0 (z1.length : Int)).bind fun y11 => (at_ z1 y11.1).bind fun el16 => some (el16, y11.2)
set_option maxHeartbeats 4000000 in
set_option maxRecDepth 100000 in
theorem C10 (z0 : kauditmill_Case) (z1 : (List Int)) (g_ : Nat) (p1 : Option Addr) (m2 : Nat) (c3 : Nat) (p4 : Option Addr) (m5 : Nat) (c6 : Nat) (r : Int × Int) (h : f_kauditmill_Case_Pick z0 z1 = some r) : FunG Tryd.prog 10 #[.pointer (some ⟨g_, 0, none⟩), .slice p4 m5 c6] [vw (kSlice 5 (kInt .u8)) z0.codes [.slice p1 m2 c3], vw (kSlice 3 (kInt .i64)) z1 [.slice p4 m5 c6], g_pow10, g_errs] [[blk g_ [.slice p1 m2 c3, .int .i64 z0.at_] 53]] (fun (_ : Unit) => .int .i64 r.1) (fun _ => []) (fun _ => [[blk g_ [.slice p1 m2 c3, .int .i64 r.2] 53]]) := by
  unfold f_kauditmill_Case_Pick at h
  refine t_begin (args := [.pointer (some ⟨g_, 0, none⟩), .slice p4 m5 c6]) Tryd.func10 rfl Tryd.ntmps10 rfl fun c R hR => ?_
  have hQ : ∀ X, X = r → ∀ w2 (_ : Unit), PostG c.w0 w2 c.M c.Y [] [[blk g_ [.slice p1 m2 c3, .int .i64 X.2] 53]] → R (.returned (.int .i64 X.1)) w2 := fun X e => by subst e; exact hR
  refine t_seq fun K7 hK8 => ?_
  refine t_region ?_
  refine c_p (r_as rfl) rfl ?_
  refine t_nil ?_
  refine t_then hK8 ?_
  refine t_seq fun K9 hK10 => ?_
  refine t_region ?_
  refine c_p (r_mv rfl) rfl ?_
  refine c_p (r_mv rfl) rfl ?_
  refine c_p (r_mv rfl) rfl ?_
  refine c_s (r_lnA a1 Tryd.underlying36 rfl) rfl ?_
  obtain ⟨y11, hy11, h⟩ := bs h
  refine nx (t_ca (C16 _ _ _ _ _ _ _ hy11) Tryd.func16 nm16 rfl rfl rfl (.cons e0 .nil) (fun w Z hA => (V1 a0 hA (V1 a2 hA (V1 a3 hA V0)))) rfl fun t12 => ?_)
  obtain ⟨el16, hel16, h⟩ := bs h
  refine t_q a1 hel16 fun q13 hq14 hm15 => ?_
  refine c_p (r_idx hq14 hm15 hel16 Tryd.underlying36 ti3 rfl rfl) rfl ?_
  refine t_op (opens_int .i64) a1 hel16 fun t17 => ?_
  refine c_s (r_e1 a0 hq14 Tryd.underlying3 rfl rfl rfl) rfl ?_
  refine c_p (r_as rfl) rfl ?_
  refine t_nil ?_
  refine t_then hK10 ?_
  refine t_ret ?_
  exact ret1 rfl (v_t rfl) (t_leave (hQ _ (Option.some.inj h)) () rfl (fun w Z hA => V0) (.cons e0 .nil))
end Go.Proofs.YtgcigcbhilcgoaaDoor.Gx
