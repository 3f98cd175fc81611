/- Function 32, kaudit/own.Process: what it answers as a plain function, and that the Go code comes to exactly that (where the plain function gives an answer). -/
import Derived.Test.YtanimjbmkhpnaaaXT
import Derived.Test.YtanimjbmkhpnaaaX55
set_option linter.unusedVariables false
set_option linter.unusedSimpArgs false
namespace Go.Proofs.Ytanimjbmkhpnaaa.Gx
open Go.Gx Go.RowKit
/-! ### kaudit/own.Process: function 32 -/
def f_own_Process (a0 : api_Process) : Option (api_Process) := (f_own_List_api_Descriptor a0.Open).bind fun y54 => some ((⟨a0.PID, a0.PPID, a0.UID, a0.EUID, a0.GID, a0.EGID, a0.AUID, a0.Session, a0.Cwd, a0.Comm, a0.Exe, y54, a0.Audited⟩ : api_Process))
set_option maxHeartbeats 4000000 in
set_option maxRecDepth 100000 in
theorem C32 (a0 : api_Process) (p36 : Option Addr) (c37 : Nat) (r : api_Process) (w : World) (h : f_own_Process a0 = some r) : Fun Try.prog 32 #[.agg #[.int .i64 a0.PID, .int .i64 a0.PPID, .int .i64 a0.UID, .int .i64 a0.EUID, .int .i64 a0.GID, .int .i64 a0.EGID, .int .i64 a0.AUID, .int .i64 a0.Session, .int .i64 a0.Cwd.Dev, .int .i64 a0.Cwd.Ino, .string a0.Comm, .string a0.Exe, .slice p36 a0.Open.length c37, .bool a0.Audited]] w [vw (kSlice 81 k_api_Descriptor) a0.Open [.slice p36 a0.Open.length c37]] (fun (v_ : Value) (A_ : List VP) (N_ : List (List SP)) => ∃ (p38 : Option Addr) (c39 : Nat), v_ = .agg #[.int .i64 r.PID, .int .i64 r.PPID, .int .i64 r.UID, .int .i64 r.EUID, .int .i64 r.GID, .int .i64 r.EGID, .int .i64 r.AUID, .int .i64 r.Session, .int .i64 r.Cwd.Dev, .int .i64 r.Cwd.Ino, .string r.Comm, .string r.Exe, .slice p38 r.Open.length c39, .bool r.Audited] ∧ A_ = [] ∧ N_ = [[row 81 k_api_Descriptor r.Open (.slice p38 r.Open.length c39)]]) := by
  unfold f_own_Process at h
  refine fun_begin (args := [.agg #[.int .i64 a0.PID, .int .i64 a0.PPID, .int .i64 a0.UID, .int .i64 a0.EUID, .int .i64 a0.GID, .int .i64 a0.EGID, .int .i64 a0.AUID, .int .i64 a0.Session, .int .i64 a0.Cwd.Dev, .int .i64 a0.Cwd.Ino, .string a0.Comm, .string a0.Exe, .slice p36 a0.Open.length c37, .bool a0.Audited]]) Try.func32 rfl Try.ntmps32 rfl fun Z a E H => ?_
  refine wp_seq_k fun _ hK40 => ?_
  refine wp_region_lit ?_
  refine wl_cons (wl_box (T := 38) (cs := [.int .i64 a0.PID, .int .i64 a0.PPID, .int .i64 a0.UID, .int .i64 a0.EUID, .int .i64 a0.GID, .int .i64 a0.EGID, .int .i64 a0.AUID, .int .i64 a0.Session, .int .i64 a0.Cwd.Dev, .int .i64 a0.Cwd.Ino, .string a0.Comm, .string a0.Exe, .slice p36 a0.Open.length c37, .bool a0.Audited]) E H rfl rfl rfl rfl fun g41 w42 a43 E44 H' => ?_)
  clear H E; have H := H'; clear H'
  refine wl_cons (wl_alloc (cs := [.int .i64 0, .int .i64 0, .int .i64 0, .int .i64 0, .int .i64 0, .int .i64 0, .int .i64 0, .int .i64 0, .int .i64 0, .int .i64 0, .string (⟨#[]⟩ : ByteArray), .string (⟨#[]⟩ : ByteArray), .slice none 0 0, .bool false]) E44 H rfl ti38 rfl rfl fun g45 w46 a47 E48 H' => ?_)
  clear H E44; have H := H'; clear H'
  refine wl_nil ?_
  refine then_normal (hK40 _ _ ?_)
  refine wp_seq_k fun _ hK49 => ?_
  refine wp_region_lit ?_
  refine wl_cons (wl_val E48 rfl (rn_fieldAddr E48 rfl Try.underlying38 rfl ti36 rfl rfl) rfl fun a50 E51 => ?_)
  clear E48
  refine wl_cons (wl_val E51 rfl (rn_ld1 (i := 0) E51 H rfl Try.underlying36 rfl rfl rfl rfl) rfl fun a52 E53 => ?_)
  clear E51
  obtain ⟨y54, hy55, h⟩ := bs h
  refine wl_cons (wl_fun E53 H rfl (rn_call (args := [.slice p36 a0.Open.length c37]) E53 rfl rfl rfl Try.func55 nm55 rfl) rfl (by exact fun Z hA => ⟨(argHolds_get hA (k := 0) rfl), trivial⟩) (C55 a0.Open p36 c37 _ _ hy55) ?_)
  rintro v_ A_ N_ w61 a59 ⟨p56, c57, rfl, rfl, rfl⟩ E60 H'
  replace H := H'; clear H' E53
  replace H : St w Nil Z w61 [vw (kSlice 81 k_api_Descriptor) a0.Open [.slice p36 a0.Open.length c37]] [[blk g41 [.int .i64 a0.PID, .int .i64 a0.PPID, .int .i64 a0.UID, .int .i64 a0.EUID, .int .i64 a0.GID, .int .i64 a0.EGID, .int .i64 a0.AUID, .int .i64 a0.Session, .int .i64 a0.Cwd.Dev, .int .i64 a0.Cwd.Ino, .string a0.Comm, .string a0.Exe, .slice p36 a0.Open.length c37, .bool a0.Audited] 38], [blk g45 [.int .i64 0, .int .i64 0, .int .i64 0, .int .i64 0, .int .i64 0, .int .i64 0, .int .i64 0, .int .i64 0, .int .i64 0, .int .i64 0, .string (⟨#[]⟩ : ByteArray), .string (⟨#[]⟩ : ByteArray), .slice none 0 0, .bool false] 38], [row 81 k_api_Descriptor y54 (.slice p56 y54.length c57)]] := H
  refine wl_cons (wl_val E60 rfl (rn_fieldAddr E60 rfl Try.underlying38 rfl ti36 rfl rfl) rfl fun a62 E63 => ?_)
  clear E60
  refine wl_cons (wl_store (i := 0) (vs := [.slice p56 y54.length c57]) (cs' := [.int .i64 a0.PID, .int .i64 a0.PPID, .int .i64 a0.UID, .int .i64 a0.EUID, .int .i64 a0.GID, .int .i64 a0.EGID, .int .i64 a0.AUID, .int .i64 a0.Session, .int .i64 a0.Cwd.Dev, .int .i64 a0.Cwd.Ino, .string a0.Comm, .string a0.Exe, .slice p56 y54.length c57, .bool a0.Audited]) E63 H rfl rfl rfl rfl ti36 rfl rfl rfl rfl rfl rfl fun w66 a64 E65 H' => ?_)
  clear H E63; have H := H'; clear H'
  refine wl_nil ?_
  refine then_normal (hK49 _ _ ?_)
  refine wp_seq_k fun _ hK67 => ?_
  refine wp_region_lit ?_
  refine wl_cons (wl_val E65 rfl (rn_ldN (i := 0) [.int .i64 a0.PID, .int .i64 a0.PPID, .int .i64 a0.UID, .int .i64 a0.EUID, .int .i64 a0.GID, .int .i64 a0.EGID, .int .i64 a0.AUID, .int .i64 a0.Session, .int .i64 a0.Cwd.Dev, .int .i64 a0.Cwd.Ino, .string a0.Comm, .string a0.Exe, .slice p56 y54.length c57, .bool a0.Audited] E65 H rfl Try.underlying38 rfl ti38 rfl rfl rfl rfl) rfl fun a68 E69 => ?_)
  clear E65
  refine wl_cons (wl_store (i := 1) (vs := [.int .i64 a0.PID, .int .i64 a0.PPID, .int .i64 a0.UID, .int .i64 a0.EUID, .int .i64 a0.GID, .int .i64 a0.EGID, .int .i64 a0.AUID, .int .i64 a0.Session, .int .i64 a0.Cwd.Dev, .int .i64 a0.Cwd.Ino, .string a0.Comm, .string a0.Exe, .slice p56 y54.length c57, .bool a0.Audited]) (cs' := [.int .i64 a0.PID, .int .i64 a0.PPID, .int .i64 a0.UID, .int .i64 a0.EUID, .int .i64 a0.GID, .int .i64 a0.EGID, .int .i64 a0.AUID, .int .i64 a0.Session, .int .i64 a0.Cwd.Dev, .int .i64 a0.Cwd.Ino, .string a0.Comm, .string a0.Exe, .slice p56 y54.length c57, .bool a0.Audited]) E69 H rfl rfl rfl rfl ti38 rfl rfl rfl rfl rfl rfl fun w72 a70 E71 H' => ?_)
  clear H E69; have H := H'; clear H'
  refine wl_nil ?_
  refine then_normal (hK67 _ _ ?_)
  refine wp_ret ?_
  refine ?_
  obtain rfl := Option.some.inj h
  replace H : St w Nil Z w72 [vw (kSlice 81 k_api_Descriptor) a0.Open [.slice p36 a0.Open.length c37]] [[blk g41 [.int .i64 a0.PID, .int .i64 a0.PPID, .int .i64 a0.UID, .int .i64 a0.EUID, .int .i64 a0.GID, .int .i64 a0.EGID, .int .i64 a0.AUID, .int .i64 a0.Session, .int .i64 a0.Cwd.Dev, .int .i64 a0.Cwd.Ino, .string a0.Comm, .string a0.Exe, .slice p56 y54.length c57, .bool a0.Audited] 38], [blk g45 [.int .i64 a0.PID, .int .i64 a0.PPID, .int .i64 a0.UID, .int .i64 a0.EUID, .int .i64 a0.GID, .int .i64 a0.EGID, .int .i64 a0.AUID, .int .i64 a0.Session, .int .i64 a0.Cwd.Dev, .int .i64 a0.Cwd.Ino, .string a0.Comm, .string a0.Exe, .slice p56 y54.length c57, .bool a0.Audited] 38], [row 81 k_api_Descriptor y54 (.slice p56 y54.length c57)]] := H
  refine wb_ret1 E71 rfl (rv_cellN (cs := [.int .i64 a0.PID, .int .i64 a0.PPID, .int .i64 a0.UID, .int .i64 a0.EUID, .int .i64 a0.GID, .int .i64 a0.EGID, .int .i64 a0.AUID, .int .i64 a0.Session, .int .i64 a0.Cwd.Dev, .int .i64 a0.Cwd.Ino, .string a0.Comm, .string a0.Exe, .slice p56 y54.length c57, .bool a0.Audited]) E71 rfl Try.underlying38 rfl ti38 (H.get (i := 1) (k := 0) rfl rfl) rfl) ?_
  exact ⟨_, rfl, [], [[row 81 k_api_Descriptor y54 (.slice p56 y54.length c57)]], ⟨_, _, rfl, rfl, rfl⟩, H.leave (fun Z hA => trivial) (fun Z S hA hL => Holds_sub (.cons _ (.cons _ (.cons_cons _ .slnil))) hL)⟩
theorem C32_flat {r : api_Process} : ∀ v_ A_ N_, (fun (v_ : Value) (A_ : List VP) (N_ : List (List SP)) => ∃ (p38 : Option Addr) (c39 : Nat), v_ = .agg #[.int .i64 r.PID, .int .i64 r.PPID, .int .i64 r.UID, .int .i64 r.EUID, .int .i64 r.GID, .int .i64 r.EGID, .int .i64 r.AUID, .int .i64 r.Session, .int .i64 r.Cwd.Dev, .int .i64 r.Cwd.Ino, .string r.Comm, .string r.Exe, .slice p38 r.Open.length c39, .bool r.Audited] ∧ A_ = [] ∧ N_ = [[row 81 k_api_Descriptor r.Open (.slice p38 r.Open.length c39)]]) v_ A_ N_ → A_ = [] ∧ Flat N_ := by
  rintro v_ A_ N_ ⟨_, _, rfl, rfl, rfl⟩
  exact ⟨rfl, flat_cons (flatK_iso (flatK_pair (flatK_int .i64) (flatK_pair (flatK_iso (flatK_pair (flatK_int .i64) (flatK_int .i64))) (flatK_int .i64)))) (flat_nil)⟩
end Go.Proofs.Ytanimjbmkhpnaaa.Gx
