/- Function 59, kaudit/process.place$1: what it answers as a plain function, and that the Go code comes to exactly that (where the plain function gives an answer). -/
import Derived.Test.YtanimjbmkhpnaaaYT
import Derived.Test.YtanimjbmkhpnaaaY60
set_option linter.unusedVariables false
set_option linter.unusedSimpArgs false
namespace Go.Proofs.Ytanimjbmkhpnaaa.Gx
open Go.Gx Go.RowKit
/-! ### kaudit/process.place$1: function 59 -/
def f_process_place_1 (z0 : api_Process) (z1 : Int) : Option (Int) := (f_cmp_Compare_int z0.PID z1).bind fun y9 => some y9
set_option maxHeartbeats 4000000 in
set_option maxRecDepth 100000 in
theorem C59 (z0 : api_Process) (z1 : Int) (p1 : Option Addr) (m2 : Nat) (c3 : Nat) (r : Int) (h : f_process_place_1 z0 z1 = some r) : FunG Try.prog 59 #[.agg #[.int .i64 z0.PID, .int .i64 z0.PPID, .int .i64 z0.UID, .int .i64 z0.EUID, .int .i64 z0.GID, .int .i64 z0.EGID, .int .i64 z0.AUID, .int .i64 z0.Session, .int .i64 z0.Cwd.Dev, .int .i64 z0.Cwd.Ino, .string z0.Comm, .string z0.Exe, .slice p1 m2 c3, .bool z0.Audited], .int .i64 z1] [vw (kSlice 81 k_api_Descriptor) z0.Open [.slice p1 m2 c3]] [] (fun (_ : Unit) => .int .i64 r) (fun _ => []) (fun _ => []) := by
  unfold f_process_place_1 at h
  refine t_begin (args := [.agg #[.int .i64 z0.PID, .int .i64 z0.PPID, .int .i64 z0.UID, .int .i64 z0.EUID, .int .i64 z0.GID, .int .i64 z0.EGID, .int .i64 z0.AUID, .int .i64 z0.Session, .int .i64 z0.Cwd.Dev, .int .i64 z0.Cwd.Ino, .string z0.Comm, .string z0.Exe, .slice p1 m2 c3, .bool z0.Audited], .int .i64 z1]) Try.func59 rfl Try.ntmps59 rfl fun c R hR => ?_
  have hQ : ∀ X, X = r → ∀ w2 (_ : Unit), PostG c.w0 w2 c.M c.Y [] [] → R (.returned (.int .i64 X)) w2 := fun X e => by subst e; exact hR
  refine t_seq fun K4 hK5 => ?_
  refine t_region ?_
  refine nx (t_bx (cs := [.int .i64 z0.PID, .int .i64 z0.PPID, .int .i64 z0.UID, .int .i64 z0.EUID, .int .i64 z0.GID, .int .i64 z0.EGID, .int .i64 z0.AUID, .int .i64 z0.Session, .int .i64 z0.Cwd.Dev, .int .i64 z0.Cwd.Ino, .string z0.Comm, .string z0.Exe, .slice p1 m2 c3, .bool z0.Audited]) rfl rfl rfl fun g6 => ?_)
  refine c_p (r_as rfl) rfl ?_
  refine t_nil ?_
  refine t_then hK5 ?_
  refine t_seq fun K7 hK8 => ?_
  refine t_region ?_
  refine c_p (r_fa (off' := 0) Try.underlying38 rfl ti3 rfl rfl) rfl ?_
  refine c_s (r_ld a0 Try.underlying3 rfl rfl rfl) rfl ?_
  refine c_p (r_mv rfl) rfl ?_
  obtain ⟨y9, hy9, h⟩ := bs h
  refine nx (t_ca (C60 _ _ _ hy9) Try.func60 nm60 rfl rfl rfl .nil (fun w Z hA => V0) rfl fun t10 => ?_)
  refine c_p (r_as rfl) rfl ?_
  refine t_nil ?_
  refine t_then hK8 ?_
  refine t_ret ?_
  exact ret1 rfl (v_t rfl) (t_leave (hQ _ (Option.some.inj h)) () rfl (fun w Z hA => V0) .nil)
end Go.Proofs.Ytanimjbmkhpnaaa.Gx
