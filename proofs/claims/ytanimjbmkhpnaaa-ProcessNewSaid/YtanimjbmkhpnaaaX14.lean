/- Function 14, kaudit/process.Get: what it answers as a plain function, and that the Go code comes to exactly that (where the plain function gives an answer). -/
import Derived.Test.YtanimjbmkhpnaaaXT
import Derived.Test.YtanimjbmkhpnaaaX32
import Derived.Test.YtanimjbmkhpnaaaX37
set_option linter.unusedVariables false
set_option linter.unusedSimpArgs false
namespace Go.Proofs.Ytanimjbmkhpnaaa.Gx
open Go.Gx Go.RowKit
/-! ### kaudit/process.Get: function 14 -/
def f_process_Get (a0 : api_Table) (a1 : Int) : Option (api_Process × Bool) := (f_process_place a0 a1).bind fun y101 => if y101.2 = true then ((at_ a0.Processes y101.1).bind fun u130 => (f_own_Process u130).bind fun y142 => some ((y142, true))) else (some (((⟨0, 0, 0, 0, 0, 0, 0, 0, (⟨0, 0⟩ : api_File), (⟨#[]⟩ : ByteArray), (⟨#[]⟩ : ByteArray), ([] : List api_Descriptor), false⟩ : api_Process), false)))
set_option maxHeartbeats 4000000 in
set_option maxRecDepth 100000 in
theorem C14 (a0 : api_Table) (a1 : Int) (p81 : Option Addr) (c82 : Nat) (r : api_Process × Bool) (w : World) (h : f_process_Get a0 a1 = some r) : Fun Try.prog 14 #[.agg #[.int .i64 a0.Next, .int .i64 a0.NextSession, .slice p81 a0.Processes.length c82], .int .i64 a1] w [vw (kSlice 38 k_api_Process) a0.Processes [.slice p81 a0.Processes.length c82]] (fun (v_ : Value) (A_ : List VP) (N_ : List (List SP)) => ∃ (p83 : Option Addr) (c84 : Nat), v_ = .tuple #[.agg #[.int .i64 r.1.PID, .int .i64 r.1.PPID, .int .i64 r.1.UID, .int .i64 r.1.EUID, .int .i64 r.1.GID, .int .i64 r.1.EGID, .int .i64 r.1.AUID, .int .i64 r.1.Session, .int .i64 r.1.Cwd.Dev, .int .i64 r.1.Cwd.Ino, .string r.1.Comm, .string r.1.Exe, .slice p83 r.1.Open.length c84, .bool r.1.Audited], .bool r.2] ∧ A_ = [] ∧ N_ = [[row 81 k_api_Descriptor r.1.Open (.slice p83 r.1.Open.length c84)]]) := by
  unfold f_process_Get at h
  refine fun_begin (args := [.agg #[.int .i64 a0.Next, .int .i64 a0.NextSession, .slice p81 a0.Processes.length c82], .int .i64 a1]) Try.func14 rfl Try.ntmps14 rfl fun Z a E H => ?_
  refine wp_seq_k fun _ hK85 => ?_
  refine wp_region_lit ?_
  refine wl_cons (wl_box (T := 28) (cs := [.int .i64 a0.Next, .int .i64 a0.NextSession, .slice p81 a0.Processes.length c82]) E H rfl rfl rfl rfl fun g86 w87 a88 E89 H' => ?_)
  clear H E; have H := H'; clear H'
  refine wl_cons (wl_alloc (cs := [.int .i64 0, .int .i64 0, .int .i64 0, .int .i64 0, .int .i64 0, .int .i64 0, .int .i64 0, .int .i64 0, .int .i64 0, .int .i64 0, .string (⟨#[]⟩ : ByteArray), .string (⟨#[]⟩ : ByteArray), .slice none 0 0, .bool false]) E89 H rfl ti38 rfl rfl fun g90 w91 a92 E93 H' => ?_)
  clear H E89; have H := H'; clear H'
  refine wl_cons (wl_val E93 rfl (rn_assign E93 rfl rfl) rfl fun a94 E95 => ?_)
  clear E93
  refine wl_nil ?_
  refine then_normal (hK85 _ _ ?_)
  refine wp_seq_k fun _ hK96 => ?_
  refine wp_region_lit ?_
  refine wl_cons (wl_val E95 rfl (rn_ldN (i := 0) [.int .i64 a0.Next, .int .i64 a0.NextSession, .slice p81 a0.Processes.length c82] E95 H rfl Try.underlying28 rfl ti28 rfl rfl rfl rfl) rfl fun a97 E98 => ?_)
  clear E95
  refine wl_cons (wl_val E98 rfl (rn_move E98 rfl rfl) rfl fun a99 E100 => ?_)
  clear E98
  obtain ⟨y101, hy102, h⟩ := bs h
  refine wl_cons (wl_fun E100 H rfl (rn_call (args := [.agg #[.int .i64 a0.Next, .int .i64 a0.NextSession, .slice p81 a0.Processes.length c82], .int .i64 a1]) E100 rfl rfl rfl Try.func37 nm37 rfl) rfl (by exact fun Z hA => ⟨(argHolds_get hA (k := 0) rfl), trivial⟩) (C37 a0 a1 p81 c82 _ _ hy102) ?_)
  rintro v_ A_ N_ w105 a103 ⟨rfl, rfl, rfl⟩ E104 H'
  replace H := H'; clear H' E100
  replace H : St w Nil Z w105 [vw (kSlice 38 k_api_Process) a0.Processes [.slice p81 a0.Processes.length c82]] [[blk g86 [.int .i64 a0.Next, .int .i64 a0.NextSession, .slice p81 a0.Processes.length c82] 28], [blk g90 [.int .i64 0, .int .i64 0, .int .i64 0, .int .i64 0, .int .i64 0, .int .i64 0, .int .i64 0, .int .i64 0, .int .i64 0, .int .i64 0, .string (⟨#[]⟩ : ByteArray), .string (⟨#[]⟩ : ByteArray), .slice none 0 0, .bool false] 38]] := H
  refine wl_cons (wl_val E104 rfl (rn_move E104 rfl rfl) rfl fun a106 E107 => ?_)
  clear E104
  refine wl_cons (wl_val E107 rfl (rn_extract E107 rfl rfl rfl) rfl fun a108 E109 => ?_)
  clear E107
  refine wl_cons (wl_val E109 rfl (rn_extract E109 rfl rfl rfl) rfl fun a110 E111 => ?_)
  clear E109
  refine wl_cons (wl_val E111 rfl (rn_assign E111 rfl rfl) rfl fun a112 E113 => ?_)
  clear E111
  refine wl_cons (wl_val E113 rfl (rn_assign E113 rfl rfl) rfl fun a114 E115 => ?_)
  clear E113
  refine wl_nil ?_
  refine then_normal (hK96 _ _ ?_)
  refine wp_seq_k fun _ hK116 => ?_
  refine wp_seq_k fun _ hK117 => ?_
  refine wp_region_lit ?_
  refine wl_cons (wl_val E115 rfl (rn_move E115 rfl rfl) rfl fun a118 E119 => ?_)
  clear E115
  refine wl_cons (wl_val E119 rfl (rn_not E119 rfl rfl) rfl fun a120 E121 => ?_)
  clear E119
  refine wl_nil ?_
  refine then_normal (hK117 _ _ ?_)
  rcases Bool.eq_false_or_eq_true y101.2 with hb122 | hb122
  · replace h := itT hb122 h
    refine wc_F E121 rfl (congrArg Bool.not hb122) ?_
    refine wp_skip ?_
    refine then_normal (hK116 _ _ ?_)
    refine wp_seq_k fun _ hK123 => ?_
    refine wp_region_lit ?_
    refine wl_cons (wl_val E121 rfl (rn_fieldAddr E121 rfl Try.underlying28 rfl ti26 rfl rfl) rfl fun a124 E125 => ?_)
    clear E121
    refine wl_cons (wl_val E125 rfl (rn_ld1 (i := 0) E125 H rfl Try.underlying26 rfl rfl rfl rfl) rfl fun a126 E127 => ?_)
    clear E125
    refine wl_cons (wl_val E127 rfl (rn_move E127 rfl rfl) rfl fun a128 E129 => ?_)
    clear E127
    obtain ⟨u130, hy131, h⟩ := bs h
    obtain ⟨q132, hq133, hr134⟩ := rn_idx (K := k_api_Process) (P := Try.prog) (o := ⟨some 20, .indexAddr 26 (.tmp 18) (.tmp 19), 0, "", #[], none⟩) E129 rfl Try.underlying26 ti38 rfl rfl (H.readA (k := 0) rfl) hy131
    refine wl_cons (wl_val E129 rfl ((hr134 _)) rfl fun a135 E136 => ?_)
    clear E129
    obtain ⟨⟨p138, c139⟩, H', hc137⟩ := St.openA k_api_Process_opens H (k := 0) rfl hy131
    replace H := H'; clear H'
    refine wl_cons (wl_val E136 rfl (rn_loadIN (vs := [.int .i64 u130.PID, .int .i64 u130.PPID, .int .i64 u130.UID, .int .i64 u130.EUID, .int .i64 u130.GID, .int .i64 u130.EGID, .int .i64 u130.AUID, .int .i64 u130.Session, .int .i64 u130.Cwd.Dev, .int .i64 u130.Cwd.Ino, .string u130.Comm, .string u130.Exe, .slice p138 u130.Open.length c139, .bool u130.Audited]) E136 rfl Try.underlying38 rfl ti38 rfl hq133 hc137 rfl rfl) rfl fun a140 E141 => ?_)
    clear E136
    obtain ⟨y142, hy143, h⟩ := bs h
    refine wl_cons (wl_fun E141 H rfl (rn_call (args := [.agg #[.int .i64 u130.PID, .int .i64 u130.PPID, .int .i64 u130.UID, .int .i64 u130.EUID, .int .i64 u130.GID, .int .i64 u130.EGID, .int .i64 u130.AUID, .int .i64 u130.Session, .int .i64 u130.Cwd.Dev, .int .i64 u130.Cwd.Ino, .string u130.Comm, .string u130.Exe, .slice p138 u130.Open.length c139, .bool u130.Audited]]) E141 rfl rfl rfl Try.func32 nm32 rfl) rfl (by exact fun Z hA => ⟨(argHolds_get hA (k := 1) rfl), trivial⟩) (C32 u130 p138 c139 _ _ hy143) ?_)
    rintro v_ A_ N_ w149 a147 ⟨p144, c145, rfl, rfl, rfl⟩ E148 H'
    replace H := H'; clear H' E141
    refine wl_cons (wl_store (i := 1) (vs := [.int .i64 y142.PID, .int .i64 y142.PPID, .int .i64 y142.UID, .int .i64 y142.EUID, .int .i64 y142.GID, .int .i64 y142.EGID, .int .i64 y142.AUID, .int .i64 y142.Session, .int .i64 y142.Cwd.Dev, .int .i64 y142.Cwd.Ino, .string y142.Comm, .string y142.Exe, .slice p144 y142.Open.length c145, .bool y142.Audited]) (cs' := [.int .i64 y142.PID, .int .i64 y142.PPID, .int .i64 y142.UID, .int .i64 y142.EUID, .int .i64 y142.GID, .int .i64 y142.EGID, .int .i64 y142.AUID, .int .i64 y142.Session, .int .i64 y142.Cwd.Dev, .int .i64 y142.Cwd.Ino, .string y142.Comm, .string y142.Exe, .slice p144 y142.Open.length c145, .bool y142.Audited]) E148 H rfl rfl rfl rfl ti38 rfl rfl rfl rfl rfl rfl fun w152 a150 E151 H' => ?_)
    clear H E148; have H := H'; clear H'
    refine wl_cons (wl_val E151 rfl (rn_assign E151 rfl rfl) rfl fun a153 E154 => ?_)
    clear E151
    refine wl_nil ?_
    refine then_normal (hK123 _ _ ?_)
    refine wp_ret ?_
    refine ?_
    obtain rfl := Option.some.inj h
    replace H : St w Nil Z w152 [vw (kSlice 38 k_api_Process) a0.Processes [.slice p81 a0.Processes.length c82], vw (kSlice 81 k_api_Descriptor) u130.Open [.slice p138 u130.Open.length c139]] [[blk g86 [.int .i64 a0.Next, .int .i64 a0.NextSession, .slice p81 a0.Processes.length c82] 28], [blk g90 [.int .i64 y142.PID, .int .i64 y142.PPID, .int .i64 y142.UID, .int .i64 y142.EUID, .int .i64 y142.GID, .int .i64 y142.EGID, .int .i64 y142.AUID, .int .i64 y142.Session, .int .i64 y142.Cwd.Dev, .int .i64 y142.Cwd.Ino, .string y142.Comm, .string y142.Exe, .slice p144 y142.Open.length c145, .bool y142.Audited] 38], [row 81 k_api_Descriptor y142.Open (.slice p144 y142.Open.length c145)]] := H
    refine wb_ret2 E154 rfl (rv_cellN (cs := [.int .i64 y142.PID, .int .i64 y142.PPID, .int .i64 y142.UID, .int .i64 y142.EUID, .int .i64 y142.GID, .int .i64 y142.EGID, .int .i64 y142.AUID, .int .i64 y142.Session, .int .i64 y142.Cwd.Dev, .int .i64 y142.Cwd.Ino, .string y142.Comm, .string y142.Exe, .slice p144 y142.Open.length c145, .bool y142.Audited]) E154 rfl Try.underlying38 rfl ti38 (H.get (i := 1) (k := 0) rfl rfl) rfl) (rv_tmp E154 rfl) ?_
    exact ⟨_, rfl, [], [[row 81 k_api_Descriptor y142.Open (.slice p144 y142.Open.length c145)]], ⟨_, _, rfl, rfl, rfl⟩, H.leave (fun Z hA => trivial) (fun Z S hA hL => Holds_sub (.cons _ (.cons _ (.cons_cons _ .slnil))) hL)⟩
  · replace h := itF hb122 h
    refine wc_T E121 rfl (congrArg Bool.not hb122) ?_
    refine wp_seq_k fun _ hK155 => ?_
    refine wp_region_lit ?_
    refine wl_cons (wl_val E121 rfl (rn_build (ps := []) (cs := [.int .i64 0, .int .i64 0, .int .i64 0, .int .i64 0, .int .i64 0, .int .i64 0, .int .i64 0, .int .i64 0, .int .i64 0, .int .i64 0, .string (⟨#[]⟩ : ByteArray), .string (⟨#[]⟩ : ByteArray), .slice none 0 0, .bool false]) E121 rfl rfl (by kernel_rfl)) rfl fun a156 E157 => ?_)
    clear E121
    refine wl_cons (wl_store (i := 1) (vs := [.int .i64 0, .int .i64 0, .int .i64 0, .int .i64 0, .int .i64 0, .int .i64 0, .int .i64 0, .int .i64 0, .int .i64 0, .int .i64 0, .string (⟨#[]⟩ : ByteArray), .string (⟨#[]⟩ : ByteArray), .slice none 0 0, .bool false]) (cs' := [.int .i64 0, .int .i64 0, .int .i64 0, .int .i64 0, .int .i64 0, .int .i64 0, .int .i64 0, .int .i64 0, .int .i64 0, .int .i64 0, .string (⟨#[]⟩ : ByteArray), .string (⟨#[]⟩ : ByteArray), .slice none 0 0, .bool false]) E157 H rfl rfl rfl rfl ti38 rfl rfl rfl rfl rfl rfl fun w160 a158 E159 H' => ?_)
    clear H E157; have H := H'; clear H'
    refine wl_cons (wl_val E159 rfl (rn_assign E159 rfl rfl) rfl fun a161 E162 => ?_)
    clear E159
    refine wl_nil ?_
    refine then_normal (hK155 _ _ ?_)
    refine wp_ret ?_
    refine then_ret (?_)
    obtain rfl := Option.some.inj h
    replace H := H.nilRow 81 k_api_Descriptor
    replace H : St w Nil Z w160 [vw (kSlice 38 k_api_Process) a0.Processes [.slice p81 a0.Processes.length c82]] [[blk g86 [.int .i64 a0.Next, .int .i64 a0.NextSession, .slice p81 a0.Processes.length c82] 28], [blk g90 [.int .i64 0, .int .i64 0, .int .i64 0, .int .i64 0, .int .i64 0, .int .i64 0, .int .i64 0, .int .i64 0, .int .i64 0, .int .i64 0, .string (⟨#[]⟩ : ByteArray), .string (⟨#[]⟩ : ByteArray), .slice none 0 0, .bool false] 38], [row 81 k_api_Descriptor ([] : List api_Descriptor) (.slice none 0 0)]] := H
    refine wb_ret2 E162 rfl (rv_cellN (cs := [.int .i64 0, .int .i64 0, .int .i64 0, .int .i64 0, .int .i64 0, .int .i64 0, .int .i64 0, .int .i64 0, .int .i64 0, .int .i64 0, .string (⟨#[]⟩ : ByteArray), .string (⟨#[]⟩ : ByteArray), .slice none 0 0, .bool false]) E162 rfl Try.underlying38 rfl ti38 (H.get (i := 1) (k := 0) rfl rfl) rfl) (rv_tmp E162 rfl) ?_
    exact ⟨_, rfl, [], [[row 81 k_api_Descriptor ([] : List api_Descriptor) (.slice none 0 0)]], ⟨_, _, rfl, rfl, rfl⟩, H.leave (fun Z hA => trivial) (fun Z S hA hL => Holds_sub (.cons _ (.cons _ (.cons_cons _ .slnil))) hL)⟩
theorem C14_flat {r : api_Process × Bool} : ∀ v_ A_ N_, (fun (v_ : Value) (A_ : List VP) (N_ : List (List SP)) => ∃ (p83 : Option Addr) (c84 : Nat), v_ = .tuple #[.agg #[.int .i64 r.1.PID, .int .i64 r.1.PPID, .int .i64 r.1.UID, .int .i64 r.1.EUID, .int .i64 r.1.GID, .int .i64 r.1.EGID, .int .i64 r.1.AUID, .int .i64 r.1.Session, .int .i64 r.1.Cwd.Dev, .int .i64 r.1.Cwd.Ino, .string r.1.Comm, .string r.1.Exe, .slice p83 r.1.Open.length c84, .bool r.1.Audited], .bool r.2] ∧ A_ = [] ∧ N_ = [[row 81 k_api_Descriptor r.1.Open (.slice p83 r.1.Open.length c84)]]) v_ A_ N_ → A_ = [] ∧ Flat N_ := by
  rintro v_ A_ N_ ⟨_, _, rfl, rfl, rfl⟩
  exact ⟨rfl, flat_cons (flatK_iso (flatK_pair (flatK_int .i64) (flatK_pair (flatK_iso (flatK_pair (flatK_int .i64) (flatK_int .i64))) (flatK_int .i64)))) (flat_nil)⟩
end Go.Proofs.Ytanimjbmkhpnaaa.Gx
