/- Function 59, kaudit/process.place_1: what it answers as a plain function, and that the Go code comes to exactly that (where the plain function gives an answer). -/
import Derived.Test.YtanimjbmkhpnaaaXT
import Derived.Test.YtanimjbmkhpnaaaX60
set_option linter.unusedVariables false
set_option linter.unusedSimpArgs false
namespace Go.Proofs.Ytanimjbmkhpnaaa.Gx
open Go.Gx Go.RowKit
/-! ### kaudit/process.place$1: function 59 -/
def f_process_place_1 (a0 : api_Process) (a1 : Int) : Option (Int) := (f_cmp_Compare_int a0.PID a1).bind fun y19 => some (y19)
set_option maxHeartbeats 4000000 in
set_option maxRecDepth 100000 in
theorem C59 (a0 : api_Process) (a1 : Int) (p3 : Option Addr) (c4 : Nat) (r : Int) (w : World) (h : f_process_place_1 a0 a1 = some r) : Fun Try.prog 59 #[.agg #[.int .i64 a0.PID, .int .i64 a0.PPID, .int .i64 a0.UID, .int .i64 a0.EUID, .int .i64 a0.GID, .int .i64 a0.EGID, .int .i64 a0.AUID, .int .i64 a0.Session, .int .i64 a0.Cwd.Dev, .int .i64 a0.Cwd.Ino, .string a0.Comm, .string a0.Exe, .slice p3 a0.Open.length c4, .bool a0.Audited], .int .i64 a1] w [vw (kSlice 81 k_api_Descriptor) a0.Open [.slice p3 a0.Open.length c4]] (fun (v_ : Value) (A_ : List VP) (N_ : List (List SP)) => v_ = .int .i64 r ∧ A_ = [] ∧ N_ = []) := by
  unfold f_process_place_1 at h
  refine fun_begin (args := [.agg #[.int .i64 a0.PID, .int .i64 a0.PPID, .int .i64 a0.UID, .int .i64 a0.EUID, .int .i64 a0.GID, .int .i64 a0.EGID, .int .i64 a0.AUID, .int .i64 a0.Session, .int .i64 a0.Cwd.Dev, .int .i64 a0.Cwd.Ino, .string a0.Comm, .string a0.Exe, .slice p3 a0.Open.length c4, .bool a0.Audited], .int .i64 a1]) Try.func59 rfl Try.ntmps59 rfl fun Z a E H => ?_
  refine wp_seq_k fun _ hK5 => ?_
  refine wp_region_lit ?_
  refine wl_cons (wl_box (T := 38) (cs := [.int .i64 a0.PID, .int .i64 a0.PPID, .int .i64 a0.UID, .int .i64 a0.EUID, .int .i64 a0.GID, .int .i64 a0.EGID, .int .i64 a0.AUID, .int .i64 a0.Session, .int .i64 a0.Cwd.Dev, .int .i64 a0.Cwd.Ino, .string a0.Comm, .string a0.Exe, .slice p3 a0.Open.length c4, .bool a0.Audited]) E H rfl rfl rfl rfl fun g6 w7 a8 E9 H' => ?_)
  clear H E; have H := H'; clear H'
  refine wl_cons (wl_val E9 rfl (rn_assign E9 rfl rfl) rfl fun a10 E11 => ?_)
  clear E9
  refine wl_nil ?_
  refine then_normal (hK5 _ _ ?_)
  refine wp_seq_k fun _ hK12 => ?_
  refine wp_region_lit ?_
  refine wl_cons (wl_val E11 rfl (rn_fieldAddr E11 rfl Try.underlying38 rfl ti3 rfl rfl) rfl fun a13 E14 => ?_)
  clear E11
  refine wl_cons (wl_val E14 rfl (rn_ld1 (i := 0) E14 H rfl Try.underlying3 rfl rfl rfl rfl) rfl fun a15 E16 => ?_)
  clear E14
  refine wl_cons (wl_val E16 rfl (rn_move E16 rfl rfl) rfl fun a17 E18 => ?_)
  clear E16
  obtain ⟨y19, hy20, h⟩ := bs h
  refine wl_cons (wl_fun E18 H rfl (rn_call (args := [.int .i64 a0.PID, .int .i64 a1]) E18 rfl rfl rfl Try.func60 nm60 rfl) rfl (by exact fun Z hA => trivial) (C60 a0.PID a1 _ _ hy20) ?_)
  rintro v_ A_ N_ w23 a21 ⟨rfl, rfl, rfl⟩ E22 H'
  replace H := H'; clear H' E18
  refine wl_cons (wl_val E22 rfl (rn_assign E22 rfl rfl) rfl fun a24 E25 => ?_)
  clear E22
  refine wl_nil ?_
  refine then_normal (hK12 _ _ ?_)
  refine wp_ret ?_
  refine ?_
  obtain rfl := Option.some.inj h
  refine wb_ret1 E25 rfl (rv_tmp E25 rfl) ?_
  exact ⟨_, rfl, [], [], ⟨rfl, rfl, rfl⟩, H.leave (fun Z hA => trivial) (fun Z S hA hL => trivial)⟩
theorem C59_flat {r : Int} : ∀ v_ A_ N_, (fun (v_ : Value) (A_ : List VP) (N_ : List (List SP)) => v_ = .int .i64 r ∧ A_ = [] ∧ N_ = []) v_ A_ N_ → A_ = [] ∧ Flat N_ := by
  rintro v_ A_ N_ ⟨rfl, rfl, rfl⟩
  exact ⟨rfl, flat_nil⟩
end Go.Proofs.Ytanimjbmkhpnaaa.Gx
