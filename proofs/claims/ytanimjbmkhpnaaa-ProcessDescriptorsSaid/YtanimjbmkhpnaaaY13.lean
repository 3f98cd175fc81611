/- Function 13, (*kaudit/kauditmake.Src).Pick: what it answers as a plain function, and that the Go code comes to exactly that (where the plain function gives an answer). -/
import Derived.Test.YtanimjbmkhpnaaaYT
import Derived.Test.YtanimjbmkhpnaaaY17
set_option linter.unusedVariables false
set_option linter.unusedSimpArgs false
namespace Go.Proofs.Ytanimjbmkhpnaaa.Gx
open Go.Gx Go.RowKit
/-! ### (*kaudit/kauditmake.Src).Pick: function 13 -/
def f_kauditmake_Src_Pick (z0 : kauditmake_Src) (z1 : (List Int)) : Option (Int × Int) := (f_kauditmake_Src_N z0 (z1.length : Int)).bind fun y11 => (at_ z1 y11.1).bind fun el16 => some (el16, y11.2)
set_option maxHeartbeats 4000000 in
set_option maxRecDepth 100000 in
theorem C13 (z0 : kauditmake_Src) (z1 : (List Int)) (g_ : Nat) (p1 : Option Addr) (m2 : Nat) (c3 : Nat) (p4 : Option Addr) (m5 : Nat) (c6 : Nat) (r : Int × Int) (h : f_kauditmake_Src_Pick z0 z1 = some r) : FunG Try.prog 13 #[.pointer (some ⟨g_, 0, none⟩), .slice p4 m5 c6] [vw (kSlice 3 (kInt .i64)) z0.l [.slice p1 m2 c3], vw (kSlice 3 (kInt .i64)) z1 [.slice p4 m5 c6]] [[blk g_ [.slice p1 m2 c3, .int .i64 z0.at_] 59]] (fun (_ : Unit) => .int .i64 r.1) (fun _ => []) (fun _ => [[blk g_ [.slice p1 m2 c3, .int .i64 r.2] 59]]) := by
  unfold f_kauditmake_Src_Pick at h
  refine t_begin (args := [.pointer (some ⟨g_, 0, none⟩), .slice p4 m5 c6]) Try.func13 rfl Try.ntmps13 rfl fun c R hR => ?_
  have hQ : ∀ X, X = r → ∀ w2 (_ : Unit), PostG c.w0 w2 c.M c.Y [] [[blk g_ [.slice p1 m2 c3, .int .i64 X.2] 59]] → R (.returned (.int .i64 X.1)) w2 := fun X e => by subst e; exact hR
  refine t_seq fun K7 hK8 => ?_
  refine t_region ?_
  refine c_p (r_as rfl) rfl ?_
  refine t_nil ?_
  refine t_then hK8 ?_
  refine t_seq fun K9 hK10 => ?_
  refine t_region ?_
  refine c_p (r_mv rfl) rfl ?_
  refine c_p (r_mv rfl) rfl ?_
  refine c_p (r_mv rfl) rfl ?_
  refine c_s (r_lnA a1 Try.underlying22 rfl) rfl ?_
  obtain ⟨y11, hy11, h⟩ := bs h
  refine nx (t_ca (C17 _ _ _ _ _ _ _ hy11) Try.func17 nm17 rfl rfl rfl (.cons e0 .nil) (fun w Z hA => (V1 a0 hA V0)) rfl fun t12 => ?_)
  obtain ⟨el16, hel16, h⟩ := bs h
  refine t_q a1 hel16 fun q13 hq14 hm15 => ?_
  refine c_p (r_idx hq14 hm15 hel16 Try.underlying22 ti3 rfl rfl) rfl ?_
  refine t_op (opens_int .i64) a1 hel16 fun t17 => ?_
  refine c_s (r_e1 a0 hq14 Try.underlying3 rfl rfl rfl) rfl ?_
  refine c_p (r_as rfl) rfl ?_
  refine t_nil ?_
  refine t_then hK10 ?_
  refine t_ret ?_
  exact ret1 rfl (v_t rfl) (t_leave (hQ _ (Option.some.inj h)) () rfl (fun w Z hA => V0) (.cons e0 .nil))
end Go.Proofs.Ytanimjbmkhpnaaa.Gx
