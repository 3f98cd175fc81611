/- Function 14, kaudit/process.Get: what it answers as a plain function, and that the Go code comes to exactly that (where the plain function gives an answer). -/
import Derived.Test.YtanimjbmkhpnaaaYT
import Derived.Test.YtanimjbmkhpnaaaY32
import Derived.Test.YtanimjbmkhpnaaaY37
set_option linter.unusedVariables false
set_option linter.unusedSimpArgs false
namespace Go.Proofs.Ytanimjbmkhpnaaa.Gx
open Go.Gx Go.RowKit
/-! ### kaudit/process.Get: function 14 -/
def f_process_Get (z0 : api_Table) (z1 : Int) : Option (api_Process × Bool) := (f_process_place z0 z1).bind fun y10 => if y10.2 = true then ((at_ z0.Processes y10.1).bind fun el24 => (f_own_Process el24).bind fun y26 => some (y26, true)) else (some ((⟨0, 0, 0, 0, 0, 0, 0, 0, (⟨0, 0⟩ : api_File), (⟨#[]⟩ : ByteArray), (⟨#[]⟩ : ByteArray), ([] : List api_Descriptor), false⟩ : api_Process), false))
set_option maxHeartbeats 4000000 in
set_option maxRecDepth 100000 in
theorem C14 (z0 : api_Table) (z1 : Int) (p1 : Option Addr) (m2 : Nat) (c3 : Nat) (r : api_Process × Bool) (h : f_process_Get z0 z1 = some r) : FunG Try.prog 14 #[.agg #[.int .i64 z0.Next, .int .i64 z0.NextSession, .slice p1 m2 c3], .int .i64 z1] [vw (kSlice 38 k_api_Process) z0.Processes [.slice p1 m2 c3]] [] (fun t : (Option Addr × Nat × Nat) => .tuple #[.agg #[.int .i64 r.1.PID, .int .i64 r.1.PPID, .int .i64 r.1.UID, .int .i64 r.1.EUID, .int .i64 r.1.GID, .int .i64 r.1.EGID, .int .i64 r.1.AUID, .int .i64 r.1.Session, .int .i64 r.1.Cwd.Dev, .int .i64 r.1.Cwd.Ino, .string r.1.Comm, .string r.1.Exe, .slice t.1 t.2.1 t.2.2, .bool r.1.Audited], .bool r.2]) (fun t => []) (fun t => [[row 81 k_api_Descriptor r.1.Open (.slice t.1 t.2.1 t.2.2)]]) := by
  unfold f_process_Get at h
  refine t_begin (args := [.agg #[.int .i64 z0.Next, .int .i64 z0.NextSession, .slice p1 m2 c3], .int .i64 z1]) Try.func14 rfl Try.ntmps14 rfl fun c R hR => ?_
  have hQ : ∀ X, X = r → ∀ w2 (t : (Option Addr × Nat × Nat)), PostG c.w0 w2 c.M c.Y [] [[row 81 k_api_Descriptor X.1.Open (.slice t.1 t.2.1 t.2.2)]] → R (.returned (.tuple #[.agg #[.int .i64 X.1.PID, .int .i64 X.1.PPID, .int .i64 X.1.UID, .int .i64 X.1.EUID, .int .i64 X.1.GID, .int .i64 X.1.EGID, .int .i64 X.1.AUID, .int .i64 X.1.Session, .int .i64 X.1.Cwd.Dev, .int .i64 X.1.Cwd.Ino, .string X.1.Comm, .string X.1.Exe, .slice t.1 t.2.1 t.2.2, .bool X.1.Audited], .bool X.2])) w2 := fun X e => by subst e; exact hR
  refine t_seq fun K4 hK5 => ?_
  refine t_region ?_
  refine nx (t_bx (cs := [.int .i64 z0.Next, .int .i64 z0.NextSession, .slice p1 m2 c3]) rfl rfl rfl fun g6 => ?_)
  refine nx (t_al (cs := [.int .i64 0, .int .i64 0, .int .i64 0, .int .i64 0, .int .i64 0, .int .i64 0, .int .i64 0, .int .i64 0, .int .i64 0, .int .i64 0, .string (⟨#[]⟩ : ByteArray), .string (⟨#[]⟩ : ByteArray), .slice none 0 0, .bool false]) ti38 rfl rfl fun g7 => ?_)
  refine c_p (r_as rfl) rfl ?_
  refine t_nil ?_
  refine t_then hK5 ?_
  refine t_seq fun K8 hK9 => ?_
  refine t_region ?_
  refine c_s (r_ldA a1 Try.underlying28 rfl ti28 rfl rfl) rfl ?_
  refine c_p (r_mv rfl) rfl ?_
  obtain ⟨y10, hy10, h⟩ := bs h
  refine nx (t_ca (C37 _ _ _ _ _ _ hy10) Try.func37 nm37 rfl rfl rfl .nil (fun w Z hA => (V1 a0 hA V0)) rfl fun t11 => ?_)
  refine c_p (r_mv rfl) rfl ?_
  refine c_p (r_ex rfl rfl) rfl ?_
  refine c_p (r_ex rfl rfl) rfl ?_
  refine c_p (r_as rfl) rfl ?_
  refine c_p (r_as rfl) rfl ?_
  refine t_nil ?_
  refine t_then hK9 ?_
  refine t_seq fun K12 hK13 => ?_
  refine t_seq fun K14 hK15 => ?_
  refine t_region ?_
  refine c_p (r_mv rfl) rfl ?_
  refine c_p (r_not rfl) rfl ?_
  refine t_nil ?_
  refine t_then hK15 ?_
  rcases Bool.eq_false_or_eq_true y10.2 with hb16 | hb16
  · replace h := itT hb16 h
    refine t_F rfl (congrArg Bool.not hb16) ?_
    refine t_skip ?_
    refine t_then hK13 ?_
    refine t_seq fun K19 hK20 => ?_
    refine t_region ?_
    refine c_p (r_fa (off' := 2) Try.underlying28 rfl ti26 rfl rfl) rfl ?_
    refine c_s (r_ld a1 Try.underlying26 rfl rfl rfl) rfl ?_
    refine c_p (r_mv rfl) rfl ?_
    obtain ⟨el24, hel24, h⟩ := bs h
    refine t_q a0 hel24 fun q21 hq22 hm23 => ?_
    refine c_p (r_idx hq22 hm23 hel24 Try.underlying26 ti38 rfl rfl) rfl ?_
    refine t_op k_api_Process_opens a0 hel24 fun t25 => ?_
    refine c_s (r_eA a1 hq22 Try.underlying38 rfl ti38 rfl rfl) rfl ?_
    obtain ⟨y26, hy26, h⟩ := bs h
    refine nx (t_ca (C32 _ _ _ _ _ hy26) Try.func32 nm32 rfl rfl rfl .nil (fun w Z hA => (V1 a0 hA V0)) rfl fun t27 => ?_)
    refine nx (t_st u1 ti38 rfl rfl rfl rfl rfl (.t (.s (.s (.s (.s (.s (.s (.s (.s (.s (.s (.s (.s (.s (.s .z))))))))))))))) ?_)
    refine c_p (r_as rfl) rfl ?_
    refine t_nil ?_
    refine t_then hK20 ?_
    refine t_ret ?_
    exact ret2 rfl (v_N rfl a1 Try.underlying38 rfl ti38 rfl) (v_t rfl) (t_leave (hQ _ (Option.some.inj h)) (t27.1, t27.2.1, t27.2.2) rfl (fun w Z hA => V0) (.cons e0 .nil))
  · replace h := itF hb16 h
    refine t_T rfl (congrArg Bool.not hb16) ?_
    refine t_seq fun K17 hK18 => ?_
    refine t_region ?_
    refine c_p (r_bu (ps := []) (cs := [.int .i64 0, .int .i64 0, .int .i64 0, .int .i64 0, .int .i64 0, .int .i64 0, .int .i64 0, .int .i64 0, .int .i64 0, .int .i64 0, .string (⟨#[]⟩ : ByteArray), .string (⟨#[]⟩ : ByteArray), .slice none 0 0, .bool false]) rfl (by kernel_rfl)) rfl ?_
    refine nx (t_st u0 ti38 rfl rfl rfl rfl rfl (.t (.s (.s (.s (.s (.s (.s (.s (.s (.s (.s (.s (.s (.s (.s .z))))))))))))))) ?_)
    refine c_p (r_as rfl) rfl ?_
    refine t_nil ?_
    refine t_then hK18 ?_
    refine t_ret ?_
    refine t_nr 81 k_api_Descriptor ?_
    exact tr (ret2 rfl (v_N rfl a1 Try.underlying38 rfl ti38 rfl) (v_t rfl) (t_leave (hQ _ (Option.some.inj h)) (none, 0, 0) rfl (fun w Z hA => V0) (.cons e0 .nil)))
end Go.Proofs.Ytanimjbmkhpnaaa.Gx
