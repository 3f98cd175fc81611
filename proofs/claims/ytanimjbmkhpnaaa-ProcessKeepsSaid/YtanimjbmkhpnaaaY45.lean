/- Function 45, (*kaudit/kauditmake.Src).Range: what it answers as a plain function, and that the Go code comes to exactly that (where the plain function gives an answer). -/
import Derived.Test.YtanimjbmkhpnaaaYT
import Derived.Test.YtanimjbmkhpnaaaY17
set_option linter.unusedVariables false
set_option linter.unusedSimpArgs false
namespace Go.Proofs.Ytanimjbmkhpnaaa.Gx
open Go.Gx Go.RowKit
/-! ### (*kaudit/kauditmake.Src).Range: function 45 -/
def f_kauditmake_Src_Range (z0 : kauditmake_Src) (z1 : Int) (z2 : Int) : Option (Int × Int) := (f_kauditmake_Src_N z0 (IntKind.wrap .i64 ((IntKind.wrap .i64 (z2 - z1)) + 1))).bind fun y8 => some ((IntKind.wrap .i64 (z1 + y8.1)), y8.2)
set_option maxHeartbeats 4000000 in
set_option maxRecDepth 100000 in
theorem C45 (z0 : kauditmake_Src) (z1 : Int) (z2 : Int) (g_ : Nat) (p1 : Option Addr) (m2 : Nat) (c3 : Nat) (r : Int × Int) (h : f_kauditmake_Src_Range z0 z1 z2 = some r) : FunG Try.prog 45 #[.pointer (some ⟨g_, 0, none⟩), .int .i64 z1, .int .i64 z2] [vw (kSlice 3 (kInt .i64)) z0.l [.slice p1 m2 c3]] [[blk g_ [.slice p1 m2 c3, .int .i64 z0.at_] 59]] (fun (_ : Unit) => .int .i64 r.1) (fun _ => []) (fun _ => [[blk g_ [.slice p1 m2 c3, .int .i64 r.2] 59]]) := by
  unfold f_kauditmake_Src_Range at h
  refine t_begin (args := [.pointer (some ⟨g_, 0, none⟩), .int .i64 z1, .int .i64 z2]) Try.func45 rfl Try.ntmps45 rfl fun c R hR => ?_
  have hQ : ∀ X, X = r → ∀ w2 (_ : Unit), PostG c.w0 w2 c.M c.Y [] [[blk g_ [.slice p1 m2 c3, .int .i64 X.2] 59]] → R (.returned (.int .i64 X.1)) w2 := fun X e => by subst e; exact hR
  refine t_seq fun K4 hK5 => ?_
  refine t_region ?_
  refine c_p (r_as rfl) rfl ?_
  refine t_nil ?_
  refine t_then hK5 ?_
  refine t_seq fun K6 hK7 => ?_
  refine t_region ?_
  refine c_p (r_mv rfl) rfl ?_
  refine c_p (r_mv rfl) rfl ?_
  refine c_p (r_mv rfl) rfl ?_
  refine c_p (r_mv rfl) rfl ?_
  refine c_p (r_i rfl rfl rfl) rfl ?_
  refine c_p (r_i rfl rfl rfl) rfl ?_
  obtain ⟨y8, hy8, h⟩ := bs h
  refine nx (t_ca (C17 _ _ _ _ _ _ _ hy8) Try.func17 nm17 rfl rfl rfl (.cons e0 .nil) (fun w Z hA => (V1 a0 hA V0)) rfl fun t9 => ?_)
  refine c_p (r_i rfl rfl rfl) rfl ?_
  refine c_p (r_as rfl) rfl ?_
  refine t_nil ?_
  refine t_then hK7 ?_
  refine t_ret ?_
  exact ret1 rfl (v_t rfl) (t_leave (hQ _ (Option.some.inj h)) () rfl (fun w Z hA => V0) (.cons e0 .nil))
end Go.Proofs.Ytanimjbmkhpnaaa.Gx
