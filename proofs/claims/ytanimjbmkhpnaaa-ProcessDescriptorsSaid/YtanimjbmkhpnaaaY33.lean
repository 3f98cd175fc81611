/- Function 33, kaudit/kauditref09.CopyProcess: what it answers as a plain function, and that the Go code comes to exactly that (where the plain function gives an answer). -/
import Derived.Test.YtanimjbmkhpnaaaYT
set_option linter.unusedVariables false
set_option linter.unusedSimpArgs false
namespace Go.Proofs.Ytanimjbmkhpnaaa.Gx
open Go.Gx Go.RowKit
/-! ### kaudit/kauditref09.CopyProcess: function 33 -/
def f_kauditref09_CopyProcess (z0 : api_Process) : Option (api_Process) := ck (fits (([] : List api_Descriptor).length + z0.Open.length) 32 = true) <| some (⟨z0.PID, z0.PPID, z0.UID, z0.EUID, z0.GID, z0.EGID, z0.AUID, z0.Session, z0.Cwd, z0.Comm, z0.Exe, (([] : List api_Descriptor) ++ z0.Open), z0.Audited⟩ : api_Process)
set_option maxHeartbeats 4000000 in
set_option maxRecDepth 100000 in
theorem C33 (z0 : api_Process) (p1 : Option Addr) (m2 : Nat) (c3 : Nat) (r : api_Process) (h : f_kauditref09_CopyProcess z0 = some r) : FunG Try.prog 33 #[.agg #[.int .i64 z0.PID, .int .i64 z0.PPID, .int .i64 z0.UID, .int .i64 z0.EUID, .int .i64 z0.GID, .int .i64 z0.EGID, .int .i64 z0.AUID, .int .i64 z0.Session, .int .i64 z0.Cwd.Dev, .int .i64 z0.Cwd.Ino, .string z0.Comm, .string z0.Exe, .slice p1 m2 c3, .bool z0.Audited]] [vw (kSlice 81 k_api_Descriptor) z0.Open [.slice p1 m2 c3]] [] (fun t : (Option Addr × Nat × Nat) => .agg #[.int .i64 r.PID, .int .i64 r.PPID, .int .i64 r.UID, .int .i64 r.EUID, .int .i64 r.GID, .int .i64 r.EGID, .int .i64 r.AUID, .int .i64 r.Session, .int .i64 r.Cwd.Dev, .int .i64 r.Cwd.Ino, .string r.Comm, .string r.Exe, .slice t.1 t.2.1 t.2.2, .bool r.Audited]) (fun t => []) (fun t => [[row 81 k_api_Descriptor r.Open (.slice t.1 t.2.1 t.2.2)]]) := by
  unfold f_kauditref09_CopyProcess at h
  refine t_begin (args := [.agg #[.int .i64 z0.PID, .int .i64 z0.PPID, .int .i64 z0.UID, .int .i64 z0.EUID, .int .i64 z0.GID, .int .i64 z0.EGID, .int .i64 z0.AUID, .int .i64 z0.Session, .int .i64 z0.Cwd.Dev, .int .i64 z0.Cwd.Ino, .string z0.Comm, .string z0.Exe, .slice p1 m2 c3, .bool z0.Audited]]) Try.func33 rfl Try.ntmps33 rfl fun c R hR => ?_
  have hQ : ∀ X, X = r → ∀ w2 (t : (Option Addr × Nat × Nat)), PostG c.w0 w2 c.M c.Y [] [[row 81 k_api_Descriptor X.Open (.slice t.1 t.2.1 t.2.2)]] → R (.returned (.agg #[.int .i64 X.PID, .int .i64 X.PPID, .int .i64 X.UID, .int .i64 X.EUID, .int .i64 X.GID, .int .i64 X.EGID, .int .i64 X.AUID, .int .i64 X.Session, .int .i64 X.Cwd.Dev, .int .i64 X.Cwd.Ino, .string X.Comm, .string X.Exe, .slice t.1 t.2.1 t.2.2, .bool X.Audited])) w2 := fun X e => by subst e; exact hR
  refine t_seq fun K4 hK5 => ?_
  refine t_region ?_
  refine nx (t_bx (cs := [.int .i64 z0.PID, .int .i64 z0.PPID, .int .i64 z0.UID, .int .i64 z0.EUID, .int .i64 z0.GID, .int .i64 z0.EGID, .int .i64 z0.AUID, .int .i64 z0.Session, .int .i64 z0.Cwd.Dev, .int .i64 z0.Cwd.Ino, .string z0.Comm, .string z0.Exe, .slice p1 m2 c3, .bool z0.Audited]) rfl rfl rfl fun g6 => ?_)
  refine nx (t_al (cs := [.int .i64 0, .int .i64 0, .int .i64 0, .int .i64 0, .int .i64 0, .int .i64 0, .int .i64 0, .int .i64 0, .int .i64 0, .int .i64 0, .string (⟨#[]⟩ : ByteArray), .string (⟨#[]⟩ : ByteArray), .slice none 0 0, .bool false]) ti38 rfl rfl fun g7 => ?_)
  refine t_nil ?_
  refine t_then hK5 ?_
  refine t_seq fun K8 hK9 => ?_
  refine t_region ?_
  refine c_p (r_fa (off' := 12) Try.underlying38 rfl ti36 rfl rfl) rfl ?_
  refine c_s (r_ld a1 Try.underlying36 rfl rfl rfl) rfl ?_
  refine t_nr 81 k_api_Descriptor ?_
  obtain ⟨hc10, h⟩ := ck_out h
  refine nx (t_app (Kd := k_api_Descriptor) (xs := ([] : List api_Descriptor)) (ys := z0.Open) (.cons e0 .nil) rfl rfl Try.underlying36 Try.underlying36 ti81 rfl rfl hc10 (srcA k_api_Descriptor_flatK a0) rfl fun t11 => ?_)
  refine c_p (r_fa (off' := 12) Try.underlying38 rfl ti36 rfl rfl) rfl ?_
  refine nx (t_st u2 ti36 rfl rfl rfl rfl rfl (.s (.s (.s (.s (.s (.s (.s (.s (.s (.s (.s (.s (.t (.s .z)))))))))))))) ?_)
  refine t_nil ?_
  refine t_then hK9 ?_
  refine t_seq fun K12 hK13 => ?_
  refine t_region ?_
  refine c_s (r_ldA a2 Try.underlying38 rfl ti38 rfl rfl) rfl ?_
  refine nx (t_st u1 ti38 rfl rfl rfl rfl rfl (.t (.s (.s (.s (.s (.s (.s (.s (.s (.s (.s (.s (.s (.s (.s .z))))))))))))))) ?_)
  refine t_nil ?_
  refine t_then hK13 ?_
  refine t_ret ?_
  exact ret1 rfl (v_N rfl a1 Try.underlying38 rfl ti38 rfl) (t_leave (hQ _ (Option.some.inj h)) (t11.1, t11.2.1, t11.2.2) rfl (fun w Z hA => V0) (.cons e0 .nil))
end Go.Proofs.Ytanimjbmkhpnaaa.Gx
