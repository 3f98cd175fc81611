/- Function 4, kaudit/kauditlaw09.ProcessLogins: what it answers as a plain function, and that the Go code comes to exactly that (where the plain function gives an answer). -/
import Derived.Test.YtanimjbmkhpnaaaXT
import Derived.Test.YtanimjbmkhpnaaaX9
import Derived.Test.YtanimjbmkhpnaaaX10
import Derived.Test.YtanimjbmkhpnaaaX12
import Derived.Test.YtanimjbmkhpnaaaX14
import Derived.Test.YtanimjbmkhpnaaaX15
import Derived.Test.YtanimjbmkhpnaaaX16
import Derived.Test.YtanimjbmkhpnaaaX17
import Derived.Test.YtanimjbmkhpnaaaX18
import Derived.Test.YtanimjbmkhpnaaaX19
import Derived.Test.YtanimjbmkhpnaaaX20
set_option linter.unusedVariables false
set_option linter.unusedSimpArgs false
namespace Go.Proofs.Ytanimjbmkhpnaaa.Gx
open Go.Gx Go.RowKit
/-! ### kaudit/kauditlaw09.ProcessLogins: function 4 -/
def f_kauditlaw09_ProcessLogins_l1 (a0 : (List Int)) (y103 : api_Process × Bool) : Nat → Int → Int → Int → Int → Int → List api_Process → Option (Sum (Unit) (Bool))
  | 0, _, _, _, _, _, _ => none
  | k_ + 1, x3776, x3777, x3778, x3779, x3780, x3781 => if (decide (x3777 < 8)) = true then (((f_kauditmake_Src_N (⟨a0, x3778⟩ : kauditmake_Src) 4).bind fun y4469 => if (y4469.1 == 0) = true then ((f_process_Fork (⟨x3779, x3780, x3781⟩ : api_Table) x3776).bind fun y4485 => if (y4485.2.2 == 0) = true then (some (y4485.2.1, (y4469.2), y4485.1.Next, y4485.1.NextSession, y4485.1.Processes)) else (some (x3776, (y4469.2), x3779, x3780, x3781))) else (if (y4469.1 == 1) = true then ((f_kauditmake_Src_N (⟨a0, (y4469.2)⟩ : kauditmake_Src) 9).bind fun y4591 => (f_process_Setuid (⟨x3779, x3780, x3781⟩ : api_Table) x3776 y4591.1).bind fun y4596 => (if (y4596.2 == 0) = true then (some (x3776, (y4591.2), y4596.1.Next, y4596.1.NextSession, y4596.1.Processes)) else (some (x3776, (y4591.2), x3779, x3780, x3781)))) else (if (y4469.1 == 2) = true then ((f_kauditmake_Src_N (⟨a0, (y4469.2)⟩ : kauditmake_Src) 9).bind fun y4734 => (f_process_Setgid (⟨x3779, x3780, x3781⟩ : api_Table) x3776 y4734.1).bind fun y4739 => (if (y4739.2 == 0) = true then (some (x3776, (y4734.2), y4739.1.Next, y4739.1.NextSession, y4739.1.Processes)) else (some (x3776, (y4734.2), x3779, x3780, x3781)))) else (if (y4469.1 == 3) = true then ((f_kauditmake_Src_Clean (⟨a0, (y4469.2)⟩ : kauditmake_Src)).bind fun y4877 => (f_process_Exec (⟨x3779, x3780, x3781⟩ : api_Table) x3776 y4877.1 (⟨#[97]⟩ : ByteArray)).bind fun y4882 => (if (y4882.2 == 0) = true then (some (x3776, (y4877.2), y4882.1.Next, y4882.1.NextSession, y4882.1.Processes)) else (some (x3776, (y4877.2), x3779, x3780, x3781)))) else (some (x3776, (y4469.2), x3779, x3780, x3781))))) : Option (Int × Int × Int × Int × List api_Process)).bind fun o_ => match o_ with | (x4289, x4290, x4291, x4292, x4293) => (f_process_Get (⟨x4291, x4292, x4293⟩ : api_Table) x4289).bind fun y4308 => if y4308.2 = true then (if (y4308.1.AUID != y103.1.AUID) = true then (some (Sum.inr (false))) else (if (y4308.1.Session != y103.1.Session) = true then (some (Sum.inr (false))) else ((f_process_Login (⟨x4291, x4292, x4293⟩ : api_Table) x4289 3).bind fun y4391 => if ((y4391.2 == 1) != (y4308.1.EUID != 0)) = true then (some (Sum.inr (false))) else (f_kauditlaw09_ProcessLogins_l1 a0 y103 k_ x4289 (IntKind.wrap .i64 (x3777 + 1)) x4290 x4291 x4292 x4293)))) else (some (Sum.inr (false)))) else (some (Sum.inl ()))
def f_kauditlaw09_ProcessLogins (a0 : (List Int)) (a1 : Int) : Option (Bool) := (f_process_New (⟨0, 1⟩ : api_File)).bind fun y35 => (f_process_Fork y35 1).bind fun y43 => (f_process_Login y43.1 y43.2.1 (IntKind.wrap .i64 a1)).bind fun y79 => (f_process_Get y79.1 y43.2.1).bind fun y103 => if (y43.2.2 != 0) = true then (some (false)) else (if (y79.2 != 0) = true then (some (false)) else (if y103.2 = true then (if (y103.1.AUID != (IntKind.wrap .i64 a1)) = true then (some (false)) else (if (y103.1.Session == 4294967295) = true then (some (false)) else ((f_kauditlaw09_ProcessLogins_l1 a0 y103 ((((8 : Int) - (0)).toNat + 1)) y43.2.1 0 0 y79.1.Next y79.1.NextSession y79.1.Processes).bind fun o_ => match o_ with | Sum.inl _ => (f_kauditlaw09_awake).bind fun y4957 => some (y4957) | Sum.inr r_ => some (r_)))) else (some (false))))
set_option maxHeartbeats 4000000 in
set_option maxRecDepth 100000 in
theorem C4 (a0 : (List Int)) (a1 : Int) (p3 : Option Addr) (c4 : Nat) (r : Bool) (w : World) (h : f_kauditlaw09_ProcessLogins a0 a1 = some r) : Fun Try.prog 4 #[.slice p3 a0.length c4, .int .u16 a1] w [vw (kSlice 3 (kInt .i64)) a0 [.slice p3 a0.length c4]] (fun (v_ : Value) (A_ : List VP) (N_ : List (List SP)) => v_ = .bool r ∧ A_ = [] ∧ N_ = []) := by
  unfold f_kauditlaw09_ProcessLogins at h
  refine fun_begin (args := [.slice p3 a0.length c4, .int .u16 a1]) Try.func4 rfl Try.ntmps4 rfl fun Z a E H => ?_
  refine wp_seq_k fun _ hK5 => ?_
  refine wp_region_lit ?_
  refine wl_cons (wl_val E rfl (rn_assign E rfl rfl) rfl fun a6 E7 => ?_)
  clear E
  refine wl_nil ?_
  refine then_normal (hK5 _ _ ?_)
  refine wp_seq_k fun _ hK8 => ?_
  refine wp_region_lit ?_
  refine wl_cons (wl_val E7 rfl (rn_move E7 rfl rfl) rfl fun a9 E10 => ?_)
  clear E7
  refine wl_cons (wl_in rfl (rn_callC (args := [.slice p3 a0.length c4]) (cap := []) (all := [.slice p3 a0.length c4]) E10 rfl rfl rfl Try.func8 nm8 rfl rfl) Try.func8 rfl fun a11 he12 => ?_)
  have E13 : Env 6 a11 (enumA 0 [.slice p3 a0.length c4]) := he12 ▸ Env.init Try.ntmps8 rfl
  clear he12
  refine wp_seq_k fun _ hK14 => ?_
  refine wp_region_lit ?_
  refine wl_cons (wl_val E13 rfl (rn_assign E13 rfl rfl) rfl fun a15 E16 => ?_)
  clear E13
  refine wl_nil ?_
  refine then_normal (hK14 _ _ ?_)
  refine wp_seq_k fun _ hK17 => ?_
  refine wp_region_lit ?_
  refine wl_cons (wl_val E16 rfl (rn_move E16 rfl rfl) rfl fun a18 E19 => ?_)
  clear E16
  refine wl_cons (wl_val E19 rfl (rn_build (ps := [(0, .slice p3 a0.length c4)]) (cs := [.slice p3 a0.length c4, .int .i64 0]) E19 rfl rfl (by kernel_rfl)) rfl fun a20 E21 => ?_)
  clear E19
  refine wl_cons (wl_box (T := 59) (cs := [.slice p3 a0.length c4, .int .i64 0]) E21 H rfl rfl rfl rfl fun g22 w23 a24 E25 H' => ?_)
  clear H E21; have H := H'; clear H'
  refine wl_cons (wl_val E25 rfl (rn_assign E25 rfl rfl) rfl fun a26 E27 => ?_)
  clear E25
  refine wl_nil ?_
  refine then_normal (hK17 _ _ ?_)
  refine wp_ret ?_
  refine ?_
  refine wb_ret1 E27 rfl (rv_tmp E27 rfl) ⟨_, rfl, ?_⟩
  have E28 := Env.put E10 (d := 27) rfl (.pointer (some ⟨g22, 0, none⟩))
  generalize hae : Act.put _ (some 27) _ = a29 at E28 ⊢; clear hae
  refine wl_cons (wl_val E28 rfl (rn_assign E28 rfl rfl) rfl fun a30 E31 => ?_)
  clear E28
  refine wl_nil ?_
  refine then_normal (hK8 _ _ ?_)
  refine wp_seq_k fun _ hK32 => ?_
  refine wp_region_lit ?_
  refine wl_cons (wl_val E31 rfl (rn_build (ps := [(1, .int .i64 1)]) (cs := [.int .i64 0, .int .i64 1]) E31 rfl rfl (by kernel_rfl)) rfl fun a33 E34 => ?_)
  clear E31
  obtain ⟨y35, hy36, h⟩ := bs h
  refine wl_cons (wl_fun E34 H rfl (rn_call (args := [.agg #[.int .i64 0, .int .i64 1]]) E34 rfl rfl rfl Try.func9 nm9 rfl) rfl (by exact fun Z hA => trivial) (C9 (⟨0, 1⟩ : api_File) _ _ hy36) ?_)
  rintro v_ A_ N_ w42 a40 ⟨p37, c38, rfl, rfl, rfl⟩ E41 H'
  replace H := H'; clear H' E34
  replace H := H.share (i := 1) (A' := [vw (kSlice 38 k_api_Process) y35.Processes [.slice p37 y35.Processes.length c38]]) (by intro b h; exact h) rfl (fun Z S1 h => ⟨rowH.read h.1, trivial⟩)
  obtain ⟨y43, hy44, h⟩ := bs h
  refine wl_cons (wl_fun E41 H rfl (rn_call (args := [.agg #[.int .i64 y35.Next, .int .i64 y35.NextSession, .slice p37 y35.Processes.length c38], .int .i64 1]) E41 rfl rfl rfl Try.func10 nm10 rfl) rfl (by exact fun Z hA => ⟨(argHolds_get hA (k := 1) rfl), trivial⟩) (C10 y35 1 p37 c38 _ _ hy44) ?_)
  rintro v_ A_ N_ w50 a48 ⟨p45, c46, rfl, rfl, rfl⟩ E49 H'
  replace H := H'; clear H' E41
  replace H : St w Nil Z w50 [vw (kSlice 3 (kInt .i64)) a0 [.slice p3 a0.length c4], vw (kSlice 38 k_api_Process) y35.Processes [.slice p37 y35.Processes.length c38]] [[blk g22 [.slice p3 a0.length c4, .int .i64 0] 59], [], [row 38 k_api_Process y43.1.Processes (.slice p45 y43.1.Processes.length c46)]] := H
  refine wl_cons (wl_val E49 rfl (rn_move E49 rfl rfl) rfl fun a51 E52 => ?_)
  clear E49
  refine wl_cons (wl_val E52 rfl (rn_extract E52 rfl rfl rfl) rfl fun a53 E54 => ?_)
  clear E52
  refine wl_cons (wl_val E54 rfl (rn_extract E54 rfl rfl rfl) rfl fun a55 E56 => ?_)
  clear E54
  refine wl_cons (wl_val E56 rfl (rn_extract E56 rfl rfl rfl) rfl fun a57 E58 => ?_)
  clear E56
  refine wl_cons (wl_alloc (cs := [.int .i64 0, .int .i64 0, .slice none 0 0]) E58 H rfl ti28 rfl rfl fun g59 w60 a61 E62 H' => ?_)
  clear H E58; have H := H'; clear H'
  refine wl_cons (wl_store (i := 3) (vs := [.int .i64 y43.1.Next, .int .i64 y43.1.NextSession, .slice p45 y43.1.Processes.length c46]) (cs' := [.int .i64 y43.1.Next, .int .i64 y43.1.NextSession, .slice p45 y43.1.Processes.length c46]) E62 H rfl rfl rfl rfl ti28 rfl rfl rfl rfl rfl rfl fun w65 a63 E64 H' => ?_)
  clear H E62; have H := H'; clear H'
  refine wl_cons (wl_val E64 rfl (rn_assign E64 rfl rfl) rfl fun a66 E67 => ?_)
  clear E64
  refine wl_cons (wl_val E67 rfl (rn_assign E67 rfl rfl) rfl fun a68 E69 => ?_)
  clear E67
  refine wl_nil ?_
  refine then_normal (hK32 _ _ ?_)
  refine wp_seq_k fun _ hK70 => ?_
  refine wp_region_lit ?_
  refine wl_cons (wl_val E69 rfl (rn_ldN (i := 3) [.int .i64 y43.1.Next, .int .i64 y43.1.NextSession, .slice p45 y43.1.Processes.length c46] E69 H rfl Try.underlying28 rfl ti28 rfl rfl rfl rfl) rfl fun a71 E72 => ?_)
  clear E69
  refine wl_cons (wl_val E72 rfl (rn_move E72 rfl rfl) rfl fun a73 E74 => ?_)
  clear E72
  refine wl_cons (wl_val E74 rfl (rn_move E74 rfl rfl) rfl fun a75 E76 => ?_)
  clear E74
  refine wl_cons (wl_val E76 rfl (rn_convInt E76 rfl Try.underlying23 Try.underlying3 rfl) rfl fun a77 E78 => ?_)
  clear E76
  replace H := H.share (i := 2) (A' := [vw (kSlice 38 k_api_Process) y43.1.Processes [.slice p45 y43.1.Processes.length c46]]) (by intro b h; exact h) rfl (fun Z S1 h => ⟨rowH.read h.1, trivial⟩)
  obtain ⟨y79, hy80, h⟩ := bs h
  refine wl_cons (wl_fun E78 H rfl (rn_call (args := [.agg #[.int .i64 y43.1.Next, .int .i64 y43.1.NextSession, .slice p45 y43.1.Processes.length c46], .int .i64 y43.2.1, .int .i64 (IntKind.wrap .i64 a1)]) E78 rfl rfl rfl Try.func16 nm16 rfl) rfl (by exact fun Z hA => ⟨(argHolds_get hA (k := 2) rfl), trivial⟩) (C16 y43.1 y43.2.1 (IntKind.wrap .i64 a1) p45 c46 _ _ hy80) ?_)
  rintro v_ A_ N_ w86 a84 ⟨p81, c82, rfl, rfl, rfl⟩ E85 H'
  replace H := H'; clear H' E78
  replace H : St w Nil Z w86 [vw (kSlice 3 (kInt .i64)) a0 [.slice p3 a0.length c4], vw (kSlice 38 k_api_Process) y35.Processes [.slice p37 y35.Processes.length c38], vw (kSlice 38 k_api_Process) y43.1.Processes [.slice p45 y43.1.Processes.length c46]] [[blk g22 [.slice p3 a0.length c4, .int .i64 0] 59], [], [], [blk g59 [.int .i64 y43.1.Next, .int .i64 y43.1.NextSession, .slice p45 y43.1.Processes.length c46] 28], [row 38 k_api_Process y79.1.Processes (.slice p81 y79.1.Processes.length c82)]] := H
  refine wl_cons (wl_val E85 rfl (rn_move E85 rfl rfl) rfl fun a87 E88 => ?_)
  clear E85
  refine wl_cons (wl_val E88 rfl (rn_extract E88 rfl rfl rfl) rfl fun a89 E90 => ?_)
  clear E88
  refine wl_cons (wl_val E90 rfl (rn_extract E90 rfl rfl rfl) rfl fun a91 E92 => ?_)
  clear E90
  refine wl_cons (wl_store (i := 3) (vs := [.int .i64 y79.1.Next, .int .i64 y79.1.NextSession, .slice p81 y79.1.Processes.length c82]) (cs' := [.int .i64 y79.1.Next, .int .i64 y79.1.NextSession, .slice p81 y79.1.Processes.length c82]) E92 H rfl rfl rfl rfl ti28 rfl rfl rfl rfl rfl rfl fun w95 a93 E94 H' => ?_)
  clear H E92; have H := H'; clear H'
  refine wl_cons (wl_val E94 rfl (rn_assign E94 rfl rfl) rfl fun a96 E97 => ?_)
  clear E94
  refine wl_nil ?_
  refine then_normal (hK70 _ _ ?_)
  refine wp_seq_k fun _ hK98 => ?_
  refine wp_region_lit ?_
  refine wl_cons (wl_val E97 rfl (rn_ldN (i := 3) [.int .i64 y79.1.Next, .int .i64 y79.1.NextSession, .slice p81 y79.1.Processes.length c82] E97 H rfl Try.underlying28 rfl ti28 rfl rfl rfl rfl) rfl fun a99 E100 => ?_)
  clear E97
  refine wl_cons (wl_val E100 rfl (rn_move E100 rfl rfl) rfl fun a101 E102 => ?_)
  clear E100
  obtain ⟨y103, hy104, h⟩ := bs h
  refine wl_cons (wl_funFlat E102 H rfl (rn_call (args := [.agg #[.int .i64 y79.1.Next, .int .i64 y79.1.NextSession, .slice p81 y79.1.Processes.length c82], .int .i64 y43.2.1]) E102 rfl rfl rfl Try.func14 nm14 rfl) rfl (by exact fun Z S hA hL => ⟨(Holds_row hL (i := 4) rfl), trivial⟩) (C14 y79.1 y43.2.1 p81 c82 _ _ hy104) C14_flat ?_)
  rintro v_ A_ N_ w110 a108 ⟨p105, c106, rfl, rfl, rfl⟩ E109 H'
  replace H := H'; clear H' E102
  refine wl_cons (wl_val E109 rfl (rn_move E109 rfl rfl) rfl fun a111 E112 => ?_)
  clear E109
  refine wl_cons (wl_val E112 rfl (rn_extract E112 rfl rfl rfl) rfl fun a113 E114 => ?_)
  clear E112
  refine wl_cons (wl_val E114 rfl (rn_extract E114 rfl rfl rfl) rfl fun a115 E116 => ?_)
  clear E114
  refine wl_cons (wl_alloc (cs := [.int .i64 0, .int .i64 0, .int .i64 0, .int .i64 0, .int .i64 0, .int .i64 0, .int .i64 0, .int .i64 0, .int .i64 0, .int .i64 0, .string (⟨#[]⟩ : ByteArray), .string (⟨#[]⟩ : ByteArray), .slice none 0 0, .bool false]) E116 H rfl ti38 rfl rfl fun g117 w118 a119 E120 H' => ?_)
  clear H E116; have H := H'; clear H'
  replace H : St w Nil Z w118 [vw (kSlice 3 (kInt .i64)) a0 [.slice p3 a0.length c4], vw (kSlice 38 k_api_Process) y35.Processes [.slice p37 y35.Processes.length c38], vw (kSlice 38 k_api_Process) y43.1.Processes [.slice p45 y43.1.Processes.length c46]] [[blk g22 [.slice p3 a0.length c4, .int .i64 0] 59], [], [], [blk g59 [.int .i64 y79.1.Next, .int .i64 y79.1.NextSession, .slice p81 y79.1.Processes.length c82] 28], [row 38 k_api_Process y79.1.Processes (.slice p81 y79.1.Processes.length c82)], [row 81 k_api_Descriptor y103.1.Open (.slice p105 y103.1.Open.length c106)], [blk g117 [.int .i64 0, .int .i64 0, .int .i64 0, .int .i64 0, .int .i64 0, .int .i64 0, .int .i64 0, .int .i64 0, .int .i64 0, .int .i64 0, .string (⟨#[]⟩ : ByteArray), .string (⟨#[]⟩ : ByteArray), .slice none 0 0, .bool false] 38]] := H
  refine wl_cons (wl_store (i := 6) (vs := [.int .i64 y103.1.PID, .int .i64 y103.1.PPID, .int .i64 y103.1.UID, .int .i64 y103.1.EUID, .int .i64 y103.1.GID, .int .i64 y103.1.EGID, .int .i64 y103.1.AUID, .int .i64 y103.1.Session, .int .i64 y103.1.Cwd.Dev, .int .i64 y103.1.Cwd.Ino, .string y103.1.Comm, .string y103.1.Exe, .slice p105 y103.1.Open.length c106, .bool y103.1.Audited]) (cs' := [.int .i64 y103.1.PID, .int .i64 y103.1.PPID, .int .i64 y103.1.UID, .int .i64 y103.1.EUID, .int .i64 y103.1.GID, .int .i64 y103.1.EGID, .int .i64 y103.1.AUID, .int .i64 y103.1.Session, .int .i64 y103.1.Cwd.Dev, .int .i64 y103.1.Cwd.Ino, .string y103.1.Comm, .string y103.1.Exe, .slice p105 y103.1.Open.length c106, .bool y103.1.Audited]) E120 H rfl rfl rfl rfl ti38 rfl rfl rfl rfl rfl rfl fun w123 a121 E122 H' => ?_)
  clear H E120; have H := H'; clear H'
  refine wl_cons (wl_val E122 rfl (rn_assign E122 rfl rfl) rfl fun a124 E125 => ?_)
  clear E122
  refine wl_nil ?_
  refine then_normal (hK98 _ _ ?_)
  refine wp_seq_k fun _ hK126 => ?_
  refine wp_seq_k fun _ hK127 => ?_
  refine wp_region_lit ?_
  refine wl_cons (wl_val E125 rfl (rn_move E125 rfl rfl) rfl fun a128 E129 => ?_)
  clear E125
  refine wl_cons (wl_val E129 rfl (rn_int E129 rfl rfl rfl rfl) rfl fun a130 E131 => ?_)
  clear E129
  refine wl_cons (wl_val E131 rfl (rn_move E131 rfl rfl) rfl fun a132 E133 => ?_)
  clear E131
  rcases Bool.eq_false_or_eq_true (y43.2.2 != 0) with hb134 | hb134
  · replace h := itT hb134 h
    refine wl_cons (wl_pass E133 (E133.unwanted rfl rfl rfl hb134) rfl fun a135 E136 => ?_)
    clear E133
    refine wl_cons (wl_pass E136 (E136.unwanted rfl rfl rfl hb134) rfl fun a137 E138 => ?_)
    clear E136
    refine wl_cons (wl_val E138 rfl (rn_pickT E138 rfl rfl hb134 rfl) rfl fun a139 E140 => ?_)
    clear E138
    refine wl_cons (wl_val E140 rfl (rn_move E140 rfl rfl) rfl fun a141 E142 => ?_)
    clear E140
    refine wl_cons (wl_pass E142 (E142.unwanted rfl rfl rfl rfl) rfl fun a143 E144 => ?_)
    clear E142
    refine wl_cons (wl_pass E144 (E144.unwanted rfl rfl rfl rfl) rfl fun a145 E146 => ?_)
    clear E144
    refine wl_cons (wl_val E146 rfl (rn_pickT E146 rfl rfl rfl rfl) rfl fun a147 E148 => ?_)
    clear E146
    refine wl_cons (wl_val E148 rfl (rn_move E148 rfl rfl) rfl fun a149 E150 => ?_)
    clear E148
    refine wl_cons (wl_pass E150 (E150.unwanted rfl rfl rfl rfl) rfl fun a151 E152 => ?_)
    clear E150
    refine wl_cons (wl_pass E152 (E152.unwanted rfl rfl rfl rfl) rfl fun a153 E154 => ?_)
    clear E152
    refine wl_cons (wl_pass E154 (E154.unwanted rfl rfl rfl rfl) rfl fun a155 E156 => ?_)
    clear E154
    refine wl_cons (wl_pass E156 (E156.unwanted rfl rfl rfl rfl) rfl fun a157 E158 => ?_)
    clear E156
    refine wl_cons (wl_pass E158 (E158.unwanted rfl rfl rfl rfl) rfl fun a159 E160 => ?_)
    clear E158
    refine wl_cons (wl_val E160 rfl (rn_pickT E160 rfl rfl rfl rfl) rfl fun a161 E162 => ?_)
    clear E160
    refine wl_cons (wl_val E162 rfl (rn_move E162 rfl rfl) rfl fun a163 E164 => ?_)
    clear E162
    refine wl_cons (wl_pass E164 (E164.unwanted rfl rfl rfl rfl) rfl fun a165 E166 => ?_)
    clear E164
    refine wl_cons (wl_pass E166 (E166.unwanted rfl rfl rfl rfl) rfl fun a167 E168 => ?_)
    clear E166
    refine wl_cons (wl_pass E168 (E168.unwanted rfl rfl rfl rfl) rfl fun a169 E170 => ?_)
    clear E168
    refine wl_cons (wl_val E170 rfl (rn_pickT E170 rfl rfl rfl rfl) rfl fun a171 E172 => ?_)
    clear E170
    refine wl_nil ?_
    refine then_normal (hK127 _ _ ?_)
    refine wc_T E172 rfl rfl ?_
    refine wp_seq_k fun _ hK173 => ?_
    refine wp_region_lit ?_
    refine wl_cons (wl_val E172 rfl (rn_assign E172 rfl rfl) rfl fun a174 E175 => ?_)
    clear E172
    refine wl_nil ?_
    refine then_normal (hK173 _ _ ?_)
    refine wp_ret ?_
    refine then_ret (?_)
    obtain rfl := Option.some.inj h
    refine wb_ret1 E175 rfl (rv_tmp E175 rfl) ?_
    exact ⟨_, rfl, [], [], ⟨rfl, rfl, rfl⟩, H.leave (fun Z hA => trivial) (fun Z S hA hL => trivial)⟩
  · replace h := itF hb134 h
    refine wl_cons (wl_val E133 (E133.wantedB rfl rfl rfl hb134) (rn_move E133 rfl rfl) rfl fun a176 E177 => ?_)
    clear E133
    refine wl_cons (wl_val E177 (E177.wantedB rfl rfl rfl hb134) (rn_int E177 rfl rfl rfl rfl) rfl fun a178 E179 => ?_)
    clear E177
    refine wl_cons (wl_val E179 rfl (rn_pickF E179 rfl rfl hb134 rfl) rfl fun a180 E181 => ?_)
    clear E179
    refine wl_cons (wl_val E181 rfl (rn_move E181 rfl rfl) rfl fun a182 E183 => ?_)
    clear E181
    rcases Bool.eq_false_or_eq_true (y79.2 != 0) with hb184 | hb184
    · replace h := itT hb184 h
      refine wl_cons (wl_pass E183 (E183.unwanted rfl rfl rfl hb184) rfl fun a185 E186 => ?_)
      clear E183
      refine wl_cons (wl_pass E186 (E186.unwanted rfl rfl rfl hb184) rfl fun a187 E188 => ?_)
      clear E186
      refine wl_cons (wl_val E188 rfl (rn_pickT E188 rfl rfl hb184 rfl) rfl fun a189 E190 => ?_)
      clear E188
      refine wl_cons (wl_val E190 rfl (rn_move E190 rfl rfl) rfl fun a191 E192 => ?_)
      clear E190
      refine wl_cons (wl_pass E192 (E192.unwanted rfl rfl rfl rfl) rfl fun a193 E194 => ?_)
      clear E192
      refine wl_cons (wl_pass E194 (E194.unwanted rfl rfl rfl rfl) rfl fun a195 E196 => ?_)
      clear E194
      refine wl_cons (wl_pass E196 (E196.unwanted rfl rfl rfl rfl) rfl fun a197 E198 => ?_)
      clear E196
      refine wl_cons (wl_pass E198 (E198.unwanted rfl rfl rfl rfl) rfl fun a199 E200 => ?_)
      clear E198
      refine wl_cons (wl_pass E200 (E200.unwanted rfl rfl rfl rfl) rfl fun a201 E202 => ?_)
      clear E200
      refine wl_cons (wl_val E202 rfl (rn_pickT E202 rfl rfl rfl rfl) rfl fun a203 E204 => ?_)
      clear E202
      refine wl_cons (wl_val E204 rfl (rn_move E204 rfl rfl) rfl fun a205 E206 => ?_)
      clear E204
      refine wl_cons (wl_pass E206 (E206.unwanted rfl rfl rfl rfl) rfl fun a207 E208 => ?_)
      clear E206
      refine wl_cons (wl_pass E208 (E208.unwanted rfl rfl rfl rfl) rfl fun a209 E210 => ?_)
      clear E208
      refine wl_cons (wl_pass E210 (E210.unwanted rfl rfl rfl rfl) rfl fun a211 E212 => ?_)
      clear E210
      refine wl_cons (wl_val E212 rfl (rn_pickT E212 rfl rfl rfl rfl) rfl fun a213 E214 => ?_)
      clear E212
      refine wl_nil ?_
      refine then_normal (hK127 _ _ ?_)
      refine wc_T E214 rfl rfl ?_
      refine wp_seq_k fun _ hK215 => ?_
      refine wp_region_lit ?_
      refine wl_cons (wl_val E214 rfl (rn_assign E214 rfl rfl) rfl fun a216 E217 => ?_)
      clear E214
      refine wl_nil ?_
      refine then_normal (hK215 _ _ ?_)
      refine wp_ret ?_
      refine then_ret (?_)
      obtain rfl := Option.some.inj h
      refine wb_ret1 E217 rfl (rv_tmp E217 rfl) ?_
      exact ⟨_, rfl, [], [], ⟨rfl, rfl, rfl⟩, H.leave (fun Z hA => trivial) (fun Z S hA hL => trivial)⟩
    · replace h := itF hb184 h
      refine wl_cons (wl_val E183 (E183.wantedB rfl rfl rfl hb184) (rn_move E183 rfl rfl) rfl fun a218 E219 => ?_)
      clear E183
      refine wl_cons (wl_val E219 (E219.wantedB rfl rfl rfl hb184) (rn_not E219 rfl rfl) rfl fun a220 E221 => ?_)
      clear E219
      refine wl_cons (wl_val E221 rfl (rn_pickF E221 rfl rfl hb184 rfl) rfl fun a222 E223 => ?_)
      clear E221
      refine wl_cons (wl_val E223 rfl (rn_move E223 rfl rfl) rfl fun a224 E225 => ?_)
      clear E223
      rcases Bool.eq_false_or_eq_true y103.2 with hb226 | hb226
      · replace h := itT hb226 h
        refine wl_cons (wl_val E225 (E225.wantedB rfl rfl rfl (congrArg Bool.not hb226)) (rn_fieldAddr E225 rfl Try.underlying38 rfl ti3 rfl rfl) rfl fun a227 E228 => ?_)
        clear E225
        refine wl_cons (wl_val E228 (E228.wantedB rfl rfl rfl (congrArg Bool.not hb226)) (rn_ld1 (i := 6) E228 H rfl Try.underlying3 rfl rfl rfl rfl) rfl fun a229 E230 => ?_)
        clear E228
        refine wl_cons (wl_val E230 (E230.wantedB rfl rfl rfl (congrArg Bool.not hb226)) (rn_move E230 rfl rfl) rfl fun a231 E232 => ?_)
        clear E230
        refine wl_cons (wl_val E232 (E232.wantedB rfl rfl rfl (congrArg Bool.not hb226)) (rn_convInt E232 rfl Try.underlying23 Try.underlying3 rfl) rfl fun a233 E234 => ?_)
        clear E232
        refine wl_cons (wl_val E234 (E234.wantedB rfl rfl rfl (congrArg Bool.not hb226)) (rn_int E234 rfl rfl rfl rfl) rfl fun a235 E236 => ?_)
        clear E234
        refine wl_cons (wl_val E236 rfl (rn_pickF E236 rfl rfl (congrArg Bool.not hb226) rfl) rfl fun a237 E238 => ?_)
        clear E236
        refine wl_cons (wl_val E238 rfl (rn_move E238 rfl rfl) rfl fun a239 E240 => ?_)
        clear E238
        rcases Bool.eq_false_or_eq_true (y103.1.AUID != (IntKind.wrap .i64 a1)) with hb241 | hb241
        · replace h := itT hb241 h
          refine wl_cons (wl_pass E240 (E240.unwanted rfl rfl rfl hb241) rfl fun a242 E243 => ?_)
          clear E240
          refine wl_cons (wl_pass E243 (E243.unwanted rfl rfl rfl hb241) rfl fun a244 E245 => ?_)
          clear E243
          refine wl_cons (wl_pass E245 (E245.unwanted rfl rfl rfl hb241) rfl fun a246 E247 => ?_)
          clear E245
          refine wl_cons (wl_val E247 rfl (rn_pickT E247 rfl rfl hb241 rfl) rfl fun a248 E249 => ?_)
          clear E247
          refine wl_nil ?_
          refine then_normal (hK127 _ _ ?_)
          refine wc_T E249 rfl rfl ?_
          refine wp_seq_k fun _ hK250 => ?_
          refine wp_region_lit ?_
          refine wl_cons (wl_val E249 rfl (rn_assign E249 rfl rfl) rfl fun a251 E252 => ?_)
          clear E249
          refine wl_nil ?_
          refine then_normal (hK250 _ _ ?_)
          refine wp_ret ?_
          refine then_ret (?_)
          obtain rfl := Option.some.inj h
          refine wb_ret1 E252 rfl (rv_tmp E252 rfl) ?_
          exact ⟨_, rfl, [], [], ⟨rfl, rfl, rfl⟩, H.leave (fun Z hA => trivial) (fun Z S hA hL => trivial)⟩
        · replace h := itF hb241 h
          refine wl_cons (wl_val E240 (E240.wantedB rfl rfl rfl hb241) (rn_fieldAddr E240 rfl Try.underlying38 rfl ti3 rfl rfl) rfl fun a253 E254 => ?_)
          clear E240
          refine wl_cons (wl_val E254 (E254.wantedB rfl rfl rfl hb241) (rn_ld1 (i := 6) E254 H rfl Try.underlying3 rfl rfl rfl rfl) rfl fun a255 E256 => ?_)
          clear E254
          refine wl_cons (wl_val E256 (E256.wantedB rfl rfl rfl hb241) (rn_int E256 rfl rfl rfl rfl) rfl fun a257 E258 => ?_)
          clear E256
          refine wl_cons (wl_val E258 rfl (rn_pickF E258 rfl rfl hb241 rfl) rfl fun a259 E260 => ?_)
          clear E258
          refine wl_nil ?_
          refine then_normal (hK127 _ _ ?_)
          rcases Bool.eq_false_or_eq_true (y103.1.Session == 4294967295) with hb261 | hb261
          · replace h := itT hb261 h
            refine wc_T E260 rfl hb261 ?_
            refine wp_seq_k fun _ hK262 => ?_
            refine wp_region_lit ?_
            refine wl_cons (wl_val E260 rfl (rn_assign E260 rfl rfl) rfl fun a263 E264 => ?_)
            clear E260
            refine wl_nil ?_
            refine then_normal (hK262 _ _ ?_)
            refine wp_ret ?_
            refine then_ret (?_)
            obtain rfl := Option.some.inj h
            refine wb_ret1 E264 rfl (rv_tmp E264 rfl) ?_
            exact ⟨_, rfl, [], [], ⟨rfl, rfl, rfl⟩, H.leave (fun Z hA => trivial) (fun Z S hA hL => trivial)⟩
          · replace h := itF hb261 h
            refine wc_F E260 rfl hb261 ?_
            refine wp_skip ?_
            refine then_normal (hK126 _ _ ?_)
            refine wp_seq_k fun _ hK265 => ?_
            refine wp_seq_k fun _ hK266 => ?_
            refine wp_region_lit ?_
            refine wl_cons (wl_val E260 rfl (rn_assign E260 rfl rfl) rfl fun a267 E268 => ?_)
            clear E260
            refine wl_nil ?_
            refine then_normal (hK266 _ _ ?_)
            refine wp_block ?_
            replace H := H.share (i := 4) (A' := [vw (kSlice 38 k_api_Process) y79.1.Processes [.slice p81 y79.1.Processes.length c82]]) (by intro b h; exact h) rfl (fun Z S1 h => ⟨rowH.read h.1, trivial⟩)
            obtain ⟨o3784, ho3785, h⟩ := bs h
            refine wc_loop (fun k_ a_ w_ => ∃ (x3776 : Int) (x3777 : Int) (x3778 : Int) (x3779 : Int) (x3780 : Int) (x3781 : List api_Process) (p3782 : Option Addr) (c3783 : Nat), Env 164 a_ [(0, .slice p3 a0.length c4), (1, .int .u16 a1), (4, .bool false), (5, .pointer (some ⟨g22, 0, none⟩)), (6, .pointer (some ⟨g59, 0, none⟩)), (7, .int .i64 x3776), (8, .int .i64 y43.2.2), (9, .int .i64 y79.2), (10, .pointer (some ⟨g117, 0, none⟩)), (11, .bool y103.2), (12, .int .i64 x3777), (26, .slice p3 a0.length c4), (27, .pointer (some ⟨g22, 0, none⟩)), (28, .tuple #[.agg #[.int .i64 y43.1.Next, .int .i64 y43.1.NextSession, .slice p45 y43.1.Processes.length c46], .int .i64 y43.2.1, .int .i64 y43.2.2]), (29, .agg #[.int .i64 0, .int .i64 1]), (30, .agg #[.int .i64 y35.Next, .int .i64 y35.NextSession, .slice p37 y35.Processes.length c38]), (31, .tuple #[.agg #[.int .i64 y43.1.Next, .int .i64 y43.1.NextSession, .slice p45 y43.1.Processes.length c46], .int .i64 y43.2.1, .int .i64 y43.2.2]), (32, .agg #[.int .i64 y43.1.Next, .int .i64 y43.1.NextSession, .slice p45 y43.1.Processes.length c46]), (33, .int .i64 y43.2.1), (34, .int .i64 y43.2.2), (35, .tuple #[.agg #[.int .i64 y79.1.Next, .int .i64 y79.1.NextSession, .slice p81 y79.1.Processes.length c82], .int .i64 y79.2]), (36, .agg #[.int .i64 y43.1.Next, .int .i64 y43.1.NextSession, .slice p45 y43.1.Processes.length c46]), (37, .int .i64 y43.2.1), (38, .int .u16 a1), (39, .int .i64 (IntKind.wrap .i64 a1)), (40, .tuple #[.agg #[.int .i64 y79.1.Next, .int .i64 y79.1.NextSession, .slice p81 y79.1.Processes.length c82], .int .i64 y79.2]), (41, .agg #[.int .i64 y79.1.Next, .int .i64 y79.1.NextSession, .slice p81 y79.1.Processes.length c82]), (42, .int .i64 y79.2), (43, .tuple #[.agg #[.int .i64 y103.1.PID, .int .i64 y103.1.PPID, .int .i64 y103.1.UID, .int .i64 y103.1.EUID, .int .i64 y103.1.GID, .int .i64 y103.1.EGID, .int .i64 y103.1.AUID, .int .i64 y103.1.Session, .int .i64 y103.1.Cwd.Dev, .int .i64 y103.1.Cwd.Ino, .string y103.1.Comm, .string y103.1.Exe, .slice p105 y103.1.Open.length c106, .bool y103.1.Audited], .bool y103.2]), (44, .agg #[.int .i64 y79.1.Next, .int .i64 y79.1.NextSession, .slice p81 y79.1.Processes.length c82]), (45, .int .i64 y43.2.1), (46, .tuple #[.agg #[.int .i64 y103.1.PID, .int .i64 y103.1.PPID, .int .i64 y103.1.UID, .int .i64 y103.1.EUID, .int .i64 y103.1.GID, .int .i64 y103.1.EGID, .int .i64 y103.1.AUID, .int .i64 y103.1.Session, .int .i64 y103.1.Cwd.Dev, .int .i64 y103.1.Cwd.Ino, .string y103.1.Comm, .string y103.1.Exe, .slice p105 y103.1.Open.length c106, .bool y103.1.Audited], .bool y103.2]), (47, .agg #[.int .i64 y103.1.PID, .int .i64 y103.1.PPID, .int .i64 y103.1.UID, .int .i64 y103.1.EUID, .int .i64 y103.1.GID, .int .i64 y103.1.EGID, .int .i64 y103.1.AUID, .int .i64 y103.1.Session, .int .i64 y103.1.Cwd.Dev, .int .i64 y103.1.Cwd.Ino, .string y103.1.Comm, .string y103.1.Exe, .slice p105 y103.1.Open.length c106, .bool y103.1.Audited]), (48, .bool y103.2), (49, .int .i64 y43.2.2), (50, .bool (y43.2.2 != 0)), (51, .bool (y43.2.2 != 0)), (52, .int .i64 y79.2), (53, .bool (y79.2 != 0)), (54, .bool (y79.2 != 0)), (55, .bool (y79.2 != 0)), (56, .bool y103.2), (57, .bool (!y103.2)), (58, .bool (!y103.2)), (59, .bool (!y103.2)), (60, .pointer (some ⟨g117, 6, none⟩)), (61, .int .i64 y103.1.AUID), (62, .int .u16 a1), (63, .int .i64 (IntKind.wrap .i64 a1)), (64, .bool (y103.1.AUID != (IntKind.wrap .i64 a1))), (65, .bool (y103.1.AUID != (IntKind.wrap .i64 a1))), (66, .bool (y103.1.AUID != (IntKind.wrap .i64 a1))), (67, .pointer (some ⟨g117, 7, none⟩)), (68, .int .i64 y103.1.Session), (69, .bool (y103.1.Session == 4294967295)), (70, .bool (y103.1.Session == 4294967295))] ∧ St w Nil Z w_ [vw (kSlice 3 (kInt .i64)) a0 [.slice p3 a0.length c4], vw (kSlice 38 k_api_Process) y35.Processes [.slice p37 y35.Processes.length c38], vw (kSlice 38 k_api_Process) y43.1.Processes [.slice p45 y43.1.Processes.length c46], vw (kSlice 38 k_api_Process) y79.1.Processes [.slice p81 y79.1.Processes.length c82], vw (kSlice 38 k_api_Process) x3781 [.slice p3782 x3781.length c3783]] [[blk g22 [.slice p3 a0.length c4, .int .i64 x3778] 59], [], [], [blk g59 [.int .i64 x3779, .int .i64 x3780, .slice p3782 x3781.length c3783] 28], [], [row 81 k_api_Descriptor y103.1.Open (.slice p105 y103.1.Open.length c106)], [blk g117 [.int .i64 y103.1.PID, .int .i64 y103.1.PPID, .int .i64 y103.1.UID, .int .i64 y103.1.EUID, .int .i64 y103.1.GID, .int .i64 y103.1.EGID, .int .i64 y103.1.AUID, .int .i64 y103.1.Session, .int .i64 y103.1.Cwd.Dev, .int .i64 y103.1.Cwd.Ino, .string y103.1.Comm, .string y103.1.Exe, .slice p105 y103.1.Open.length c106, .bool y103.1.Audited] 38]] ∧ f_kauditlaw09_ProcessLogins_l1 a0 y103 k_ x3776 x3777 x3778 x3779 x3780 x3781 = some o3784) ((((8 : Int) - (0)).toNat + 1)) ?_ ?_ ?_
            · exact ⟨y43.2.1, 0, 0, y79.1.Next, y79.1.NextSession, y79.1.Processes, p81, c82, E268.pick ⟨rfl, rfl, rfl, rfl, rfl, rfl, rfl, rfl, rfl, rfl, rfl, rfl, rfl, rfl, rfl, rfl, rfl, rfl, rfl, rfl, rfl, rfl, rfl, rfl, rfl, rfl, rfl, rfl, rfl, rfl, rfl, rfl, rfl, rfl, rfl, rfl, rfl, rfl, rfl, rfl, rfl, rfl, rfl, rfl, rfl, rfl, rfl, rfl, rfl, rfl, rfl, rfl, rfl, rfl, rfl, rfl, trivial⟩, H.sel (fun Z hA => ⟨(argHolds_get hA (k := 0) rfl), (argHolds_get hA (k := 1) rfl), (argHolds_get hA (k := 2) rfl), (argHolds_get hA (k := 3) rfl), (argHolds_get hA (k := 3) rfl), trivial⟩), ho3785⟩
            · rintro _ _ ⟨_, _, _, _, _, _, _, _, _, _, h_⟩
              rw [f_kauditlaw09_ProcessLogins_l1] at h_; cases h_
            · rintro k3786 a3787 w3788 ⟨x3776, x3777, x3778, x3779, x3780, x3781, p3782, c3783, E3789, H', h3790⟩
              rw [f_kauditlaw09_ProcessLogins_l1] at h3790
              clear H; have H := H'; clear H'
              refine wp_seq_k fun _ hK3791 => ?_
              refine wp_seq_k fun _ hK3792 => ?_
              refine wp_region_lit ?_
              refine wl_cons (wl_val E3789 rfl (rn_move E3789 rfl rfl) rfl fun a3793 E3794 => ?_)
              clear E3789
              refine wl_cons (wl_val E3794 rfl (rn_int E3794 rfl rfl rfl rfl) rfl fun a3795 E3796 => ?_)
              clear E3794
              refine wl_nil ?_
              refine then_normal (hK3792 _ _ ?_)
              rcases Bool.eq_false_or_eq_true (decide (x3777 < 8)) with hb3797 | hb3797
              · replace h3790 := itT hb3797 h3790
                refine wc_T E3796 rfl hb3797 ?_
                refine wp_skip ?_
                refine then_normal (hK3791 _ _ ?_)
                refine wp_seq_k fun _ hK3798 => ?_
                refine wp_block ?_
                refine wp_seq_k fun _ hK4296 => ?_
                refine wa_join (fun a_ w_ => ∃ (x4289 : Int), ∃ (x4290 : Int), ∃ (x4291 : Int), ∃ (x4292 : Int), ∃ (x4293 : List api_Process), ∃ (p4294 : Option Addr), ∃ (c4295 : Nat), Env 164 a_ [(0, .slice p3 a0.length c4), (1, .int .u16 a1), (4, .bool false), (5, .pointer (some ⟨g22, 0, none⟩)), (6, .pointer (some ⟨g59, 0, none⟩)), (7, .int .i64 x4289), (8, .int .i64 y43.2.2), (9, .int .i64 y79.2), (10, .pointer (some ⟨g117, 0, none⟩)), (11, .bool y103.2), (12, .int .i64 x3777), (26, .slice p3 a0.length c4), (27, .pointer (some ⟨g22, 0, none⟩)), (28, .tuple #[.agg #[.int .i64 y43.1.Next, .int .i64 y43.1.NextSession, .slice p45 y43.1.Processes.length c46], .int .i64 y43.2.1, .int .i64 y43.2.2]), (29, .agg #[.int .i64 0, .int .i64 1]), (30, .agg #[.int .i64 y35.Next, .int .i64 y35.NextSession, .slice p37 y35.Processes.length c38]), (31, .tuple #[.agg #[.int .i64 y43.1.Next, .int .i64 y43.1.NextSession, .slice p45 y43.1.Processes.length c46], .int .i64 y43.2.1, .int .i64 y43.2.2]), (32, .agg #[.int .i64 y43.1.Next, .int .i64 y43.1.NextSession, .slice p45 y43.1.Processes.length c46]), (33, .int .i64 y43.2.1), (34, .int .i64 y43.2.2), (35, .tuple #[.agg #[.int .i64 y79.1.Next, .int .i64 y79.1.NextSession, .slice p81 y79.1.Processes.length c82], .int .i64 y79.2]), (36, .agg #[.int .i64 y43.1.Next, .int .i64 y43.1.NextSession, .slice p45 y43.1.Processes.length c46]), (37, .int .i64 y43.2.1), (38, .int .u16 a1), (39, .int .i64 (IntKind.wrap .i64 a1)), (40, .tuple #[.agg #[.int .i64 y79.1.Next, .int .i64 y79.1.NextSession, .slice p81 y79.1.Processes.length c82], .int .i64 y79.2]), (41, .agg #[.int .i64 y79.1.Next, .int .i64 y79.1.NextSession, .slice p81 y79.1.Processes.length c82]), (42, .int .i64 y79.2), (43, .tuple #[.agg #[.int .i64 y103.1.PID, .int .i64 y103.1.PPID, .int .i64 y103.1.UID, .int .i64 y103.1.EUID, .int .i64 y103.1.GID, .int .i64 y103.1.EGID, .int .i64 y103.1.AUID, .int .i64 y103.1.Session, .int .i64 y103.1.Cwd.Dev, .int .i64 y103.1.Cwd.Ino, .string y103.1.Comm, .string y103.1.Exe, .slice p105 y103.1.Open.length c106, .bool y103.1.Audited], .bool y103.2]), (44, .agg #[.int .i64 y79.1.Next, .int .i64 y79.1.NextSession, .slice p81 y79.1.Processes.length c82]), (45, .int .i64 y43.2.1), (46, .tuple #[.agg #[.int .i64 y103.1.PID, .int .i64 y103.1.PPID, .int .i64 y103.1.UID, .int .i64 y103.1.EUID, .int .i64 y103.1.GID, .int .i64 y103.1.EGID, .int .i64 y103.1.AUID, .int .i64 y103.1.Session, .int .i64 y103.1.Cwd.Dev, .int .i64 y103.1.Cwd.Ino, .string y103.1.Comm, .string y103.1.Exe, .slice p105 y103.1.Open.length c106, .bool y103.1.Audited], .bool y103.2]), (47, .agg #[.int .i64 y103.1.PID, .int .i64 y103.1.PPID, .int .i64 y103.1.UID, .int .i64 y103.1.EUID, .int .i64 y103.1.GID, .int .i64 y103.1.EGID, .int .i64 y103.1.AUID, .int .i64 y103.1.Session, .int .i64 y103.1.Cwd.Dev, .int .i64 y103.1.Cwd.Ino, .string y103.1.Comm, .string y103.1.Exe, .slice p105 y103.1.Open.length c106, .bool y103.1.Audited]), (48, .bool y103.2), (49, .int .i64 y43.2.2), (50, .bool (y43.2.2 != 0)), (51, .bool (y43.2.2 != 0)), (52, .int .i64 y79.2), (53, .bool (y79.2 != 0)), (54, .bool (y79.2 != 0)), (55, .bool (y79.2 != 0)), (56, .bool y103.2), (57, .bool (!y103.2)), (58, .bool (!y103.2)), (59, .bool (!y103.2)), (60, .pointer (some ⟨g117, 6, none⟩)), (61, .int .i64 y103.1.AUID), (62, .int .u16 a1), (63, .int .i64 (IntKind.wrap .i64 a1)), (64, .bool (y103.1.AUID != (IntKind.wrap .i64 a1))), (65, .bool (y103.1.AUID != (IntKind.wrap .i64 a1))), (66, .bool (y103.1.AUID != (IntKind.wrap .i64 a1))), (67, .pointer (some ⟨g117, 7, none⟩)), (68, .int .i64 y103.1.Session), (69, .bool (y103.1.Session == 4294967295)), (70, .bool (y103.1.Session == 4294967295)), (71, .int .i64 x3777), (72, .bool (decide (x3777 < 8)))] ∧ St w Nil Z w_ [vw (kSlice 3 (kInt .i64)) a0 [.slice p3 a0.length c4], vw (kSlice 38 k_api_Process) y35.Processes [.slice p37 y35.Processes.length c38], vw (kSlice 38 k_api_Process) y43.1.Processes [.slice p45 y43.1.Processes.length c46], vw (kSlice 38 k_api_Process) y79.1.Processes [.slice p81 y79.1.Processes.length c82], vw (kSlice 38 k_api_Process) x3781 [.slice p3782 x3781.length c3783], vw (kSlice 38 k_api_Process) x4293 [.slice p4294 x4293.length c4295]] [[blk g22 [.slice p3 a0.length c4, .int .i64 x4290] 59], [], [], [blk g59 [.int .i64 x4291, .int .i64 x4292, .slice p4294 x4293.length c4295] 28], [], [row 81 k_api_Descriptor y103.1.Open (.slice p105 y103.1.Open.length c106)], [blk g117 [.int .i64 y103.1.PID, .int .i64 y103.1.PPID, .int .i64 y103.1.UID, .int .i64 y103.1.EUID, .int .i64 y103.1.GID, .int .i64 y103.1.EGID, .int .i64 y103.1.AUID, .int .i64 y103.1.Session, .int .i64 y103.1.Cwd.Dev, .int .i64 y103.1.Cwd.Ino, .string y103.1.Comm, .string y103.1.Exe, .slice p105 y103.1.Open.length c106, .bool y103.1.Audited] 38]] ∧ ((f_process_Get (⟨x4291, x4292, x4293⟩ : api_Table) x4289).bind fun y4308 => if y4308.2 = true then (if (y4308.1.AUID != y103.1.AUID) = true then (some (Sum.inr (false))) else (if (y4308.1.Session != y103.1.Session) = true then (some (Sum.inr (false))) else ((f_process_Login (⟨x4291, x4292, x4293⟩ : api_Table) x4289 3).bind fun y4391 => if ((y4391.2 == 1) != (y4308.1.EUID != 0)) = true then (some (Sum.inr (false))) else (f_kauditlaw09_ProcessLogins_l1 a0 y103 k3786 x4289 (IntKind.wrap .i64 (x3777 + 1)) x4290 x4291 x4292 x4293)))) else (some (Sum.inr (false)))) = some o3784) ?_ ?_
                · rintro a4299 w4300 ⟨x4289, x4290, x4291, x4292, x4293, p4294, c4295, E4301, H', h4302⟩
                  clear H E3796; have H := H'; clear H'
                  refine then_normal (hK4296 _ _ ?_)
                  refine wp_seq_k fun _ hK4303 => ?_
                  refine wp_region_lit ?_
                  refine wl_cons (wl_val E4301 rfl (rn_ldN (i := 3) [.int .i64 x4291, .int .i64 x4292, .slice p4294 x4293.length c4295] E4301 H rfl Try.underlying28 rfl ti28 rfl rfl rfl rfl) rfl fun a4304 E4305 => ?_)
                  clear E4301
                  replace H : St w Nil Z w4300 [vw (kSlice 3 (kInt .i64)) a0 [.slice p3 a0.length c4], vw (kSlice 38 k_api_Process) y35.Processes [.slice p37 y35.Processes.length c38], vw (kSlice 38 k_api_Process) y43.1.Processes [.slice p45 y43.1.Processes.length c46], vw (kSlice 38 k_api_Process) y79.1.Processes [.slice p81 y79.1.Processes.length c82], vw (kSlice 38 k_api_Process) x3781 [.slice p3782 x3781.length c3783], vw (kSlice 38 k_api_Process) x4293 [.slice p4294 x4293.length c4295]] [[blk g22 [.slice p3 a0.length c4, .int .i64 x4290] 59], [], [], [blk g59 [.int .i64 x4291, .int .i64 x4292, .slice p4294 x4293.length c4295] 28], [], [row 81 k_api_Descriptor y103.1.Open (.slice p105 y103.1.Open.length c106)], [blk g117 [.int .i64 y103.1.PID, .int .i64 y103.1.PPID, .int .i64 y103.1.UID, .int .i64 y103.1.EUID, .int .i64 y103.1.GID, .int .i64 y103.1.EGID, .int .i64 y103.1.AUID, .int .i64 y103.1.Session, .int .i64 y103.1.Cwd.Dev, .int .i64 y103.1.Cwd.Ino, .string y103.1.Comm, .string y103.1.Exe, .slice p105 y103.1.Open.length c106, .bool y103.1.Audited] 38]] := H
                  refine wl_cons (wl_val E4305 rfl (rn_move E4305 rfl rfl) rfl fun a4306 E4307 => ?_)
                  clear E4305
                  obtain ⟨y4308, hy4309, h4302⟩ := bs h4302
                  refine wl_cons (wl_fun E4307 H rfl (rn_call (args := [.agg #[.int .i64 x4291, .int .i64 x4292, .slice p4294 x4293.length c4295], .int .i64 x4289]) E4307 rfl rfl rfl Try.func14 nm14 rfl) rfl (by exact fun Z hA => ⟨(argHolds_get hA (k := 5) rfl), trivial⟩) (C14 (⟨x4291, x4292, x4293⟩ : api_Table) x4289 p4294 c4295 _ _ hy4309) ?_)
                  rintro v_ A_ N_ w4315 a4313 ⟨p4310, c4311, rfl, rfl, rfl⟩ E4314 H'
                  replace H := H'; clear H' E4307
                  refine wl_cons (wl_val E4314 rfl (rn_move E4314 rfl rfl) rfl fun a4316 E4317 => ?_)
                  clear E4314
                  refine wl_cons (wl_val E4317 rfl (rn_extract E4317 rfl rfl rfl) rfl fun a4318 E4319 => ?_)
                  clear E4317
                  refine wl_cons (wl_val E4319 rfl (rn_extract E4319 rfl rfl rfl) rfl fun a4320 E4321 => ?_)
                  clear E4319
                  refine wl_cons (wl_alloc (cs := [.int .i64 0, .int .i64 0, .int .i64 0, .int .i64 0, .int .i64 0, .int .i64 0, .int .i64 0, .int .i64 0, .int .i64 0, .int .i64 0, .string (⟨#[]⟩ : ByteArray), .string (⟨#[]⟩ : ByteArray), .slice none 0 0, .bool false]) E4321 H rfl ti38 rfl rfl fun g4322 w4323 a4324 E4325 H' => ?_)
                  clear H E4321; have H := H'; clear H'
                  refine wl_cons (wl_store (i := 8) (vs := [.int .i64 y4308.1.PID, .int .i64 y4308.1.PPID, .int .i64 y4308.1.UID, .int .i64 y4308.1.EUID, .int .i64 y4308.1.GID, .int .i64 y4308.1.EGID, .int .i64 y4308.1.AUID, .int .i64 y4308.1.Session, .int .i64 y4308.1.Cwd.Dev, .int .i64 y4308.1.Cwd.Ino, .string y4308.1.Comm, .string y4308.1.Exe, .slice p4310 y4308.1.Open.length c4311, .bool y4308.1.Audited]) (cs' := [.int .i64 y4308.1.PID, .int .i64 y4308.1.PPID, .int .i64 y4308.1.UID, .int .i64 y4308.1.EUID, .int .i64 y4308.1.GID, .int .i64 y4308.1.EGID, .int .i64 y4308.1.AUID, .int .i64 y4308.1.Session, .int .i64 y4308.1.Cwd.Dev, .int .i64 y4308.1.Cwd.Ino, .string y4308.1.Comm, .string y4308.1.Exe, .slice p4310 y4308.1.Open.length c4311, .bool y4308.1.Audited]) E4325 H rfl rfl rfl rfl ti38 rfl rfl rfl rfl rfl rfl fun w4328 a4326 E4327 H' => ?_)
                  clear H E4325; have H := H'; clear H'
                  replace H : St w Nil Z w4328 [vw (kSlice 3 (kInt .i64)) a0 [.slice p3 a0.length c4], vw (kSlice 38 k_api_Process) y35.Processes [.slice p37 y35.Processes.length c38], vw (kSlice 38 k_api_Process) y43.1.Processes [.slice p45 y43.1.Processes.length c46], vw (kSlice 38 k_api_Process) y79.1.Processes [.slice p81 y79.1.Processes.length c82], vw (kSlice 38 k_api_Process) x3781 [.slice p3782 x3781.length c3783], vw (kSlice 38 k_api_Process) x4293 [.slice p4294 x4293.length c4295]] [[blk g22 [.slice p3 a0.length c4, .int .i64 x4290] 59], [], [], [blk g59 [.int .i64 x4291, .int .i64 x4292, .slice p4294 x4293.length c4295] 28], [], [row 81 k_api_Descriptor y103.1.Open (.slice p105 y103.1.Open.length c106)], [blk g117 [.int .i64 y103.1.PID, .int .i64 y103.1.PPID, .int .i64 y103.1.UID, .int .i64 y103.1.EUID, .int .i64 y103.1.GID, .int .i64 y103.1.EGID, .int .i64 y103.1.AUID, .int .i64 y103.1.Session, .int .i64 y103.1.Cwd.Dev, .int .i64 y103.1.Cwd.Ino, .string y103.1.Comm, .string y103.1.Exe, .slice p105 y103.1.Open.length c106, .bool y103.1.Audited] 38], [row 81 k_api_Descriptor y4308.1.Open (.slice p4310 y4308.1.Open.length c4311)], [blk g4322 [.int .i64 y4308.1.PID, .int .i64 y4308.1.PPID, .int .i64 y4308.1.UID, .int .i64 y4308.1.EUID, .int .i64 y4308.1.GID, .int .i64 y4308.1.EGID, .int .i64 y4308.1.AUID, .int .i64 y4308.1.Session, .int .i64 y4308.1.Cwd.Dev, .int .i64 y4308.1.Cwd.Ino, .string y4308.1.Comm, .string y4308.1.Exe, .slice p4310 y4308.1.Open.length c4311, .bool y4308.1.Audited] 38]] := H
                  refine wl_cons (wl_val E4327 rfl (rn_assign E4327 rfl rfl) rfl fun a4329 E4330 => ?_)
                  clear E4327
                  refine wl_nil ?_
                  refine then_normal (hK4303 _ _ ?_)
                  refine wp_seq_k fun _ hK4331 => ?_
                  refine wp_seq_k fun _ hK4332 => ?_
                  refine wp_region_lit ?_
                  refine wl_cons (wl_val E4330 rfl (rn_move E4330 rfl rfl) rfl fun a4333 E4334 => ?_)
                  clear E4330
                  refine wl_cons (wl_val E4334 rfl (rn_not E4334 rfl rfl) rfl fun a4335 E4336 => ?_)
                  clear E4334
                  refine wl_cons (wl_val E4336 rfl (rn_move E4336 rfl rfl) rfl fun a4337 E4338 => ?_)
                  clear E4336
                  rcases Bool.eq_false_or_eq_true y4308.2 with hb4339 | hb4339
                  · replace h4302 := itT hb4339 h4302
                    refine wl_cons (wl_val E4338 (E4338.wantedB rfl rfl rfl (congrArg Bool.not hb4339)) (rn_fieldAddr E4338 rfl Try.underlying38 rfl ti3 rfl rfl) rfl fun a4340 E4341 => ?_)
                    clear E4338
                    refine wl_cons (wl_val E4341 (E4341.wantedB rfl rfl rfl (congrArg Bool.not hb4339)) (rn_ld1 (i := 8) E4341 H rfl Try.underlying3 rfl rfl rfl rfl) rfl fun a4342 E4343 => ?_)
                    clear E4341
                    refine wl_cons (wl_val E4343 (E4343.wantedB rfl rfl rfl (congrArg Bool.not hb4339)) (rn_fieldAddr E4343 rfl Try.underlying38 rfl ti3 rfl rfl) rfl fun a4344 E4345 => ?_)
                    clear E4343
                    refine wl_cons (wl_val E4345 (E4345.wantedB rfl rfl rfl (congrArg Bool.not hb4339)) (rn_ld1 (i := 6) E4345 H rfl Try.underlying3 rfl rfl rfl rfl) rfl fun a4346 E4347 => ?_)
                    clear E4345
                    refine wl_cons (wl_val E4347 (E4347.wantedB rfl rfl rfl (congrArg Bool.not hb4339)) (rn_int E4347 rfl rfl rfl rfl) rfl fun a4348 E4349 => ?_)
                    clear E4347
                    refine wl_cons (wl_val E4349 rfl (rn_pickF E4349 rfl rfl (congrArg Bool.not hb4339) rfl) rfl fun a4350 E4351 => ?_)
                    clear E4349
                    refine wl_cons (wl_val E4351 rfl (rn_move E4351 rfl rfl) rfl fun a4352 E4353 => ?_)
                    clear E4351
                    rcases Bool.eq_false_or_eq_true (y4308.1.AUID != y103.1.AUID) with hb4354 | hb4354
                    · replace h4302 := itT hb4354 h4302
                      refine wl_cons (wl_pass E4353 (E4353.unwanted rfl rfl rfl hb4354) rfl fun a4355 E4356 => ?_)
                      clear E4353
                      refine wl_cons (wl_pass E4356 (E4356.unwanted rfl rfl rfl hb4354) rfl fun a4357 E4358 => ?_)
                      clear E4356
                      refine wl_cons (wl_pass E4358 (E4358.unwanted rfl rfl rfl hb4354) rfl fun a4359 E4360 => ?_)
                      clear E4358
                      refine wl_cons (wl_pass E4360 (E4360.unwanted rfl rfl rfl hb4354) rfl fun a4361 E4362 => ?_)
                      clear E4360
                      refine wl_cons (wl_pass E4362 (E4362.unwanted rfl rfl rfl hb4354) rfl fun a4363 E4364 => ?_)
                      clear E4362
                      refine wl_cons (wl_val E4364 rfl (rn_pickT E4364 rfl rfl hb4354 rfl) rfl fun a4365 E4366 => ?_)
                      clear E4364
                      refine wl_nil ?_
                      refine then_normal (hK4332 _ _ ?_)
                      refine wc_T E4366 rfl rfl ?_
                      refine wp_seq_k fun _ hK4367 => ?_
                      refine wp_region_lit ?_
                      refine wl_cons (wl_val E4366 rfl (rn_assign E4366 rfl rfl) rfl fun a4368 E4369 => ?_)
                      clear E4366
                      refine wl_nil ?_
                      refine then_normal (hK4367 _ _ ?_)
                      refine wp_ret ?_
                      obtain rfl := Option.some.inj h4302
                      try dsimp only at h
                      refine then_ret (block_ret (then_ret (then_ret (block_ret (then_ret (?_))))))
                      obtain rfl := Option.some.inj h
                      refine wb_ret1 E4369 rfl (rv_tmp E4369 rfl) ?_
                      exact ⟨_, rfl, [], [], ⟨rfl, rfl, rfl⟩, H.leave (fun Z hA => trivial) (fun Z S hA hL => trivial)⟩
                    · replace h4302 := itF hb4354 h4302
                      refine wl_cons (wl_val E4353 (E4353.wantedB rfl rfl rfl hb4354) (rn_fieldAddr E4353 rfl Try.underlying38 rfl ti3 rfl rfl) rfl fun a4370 E4371 => ?_)
                      clear E4353
                      refine wl_cons (wl_val E4371 (E4371.wantedB rfl rfl rfl hb4354) (rn_ld1 (i := 8) E4371 H rfl Try.underlying3 rfl rfl rfl rfl) rfl fun a4372 E4373 => ?_)
                      clear E4371
                      refine wl_cons (wl_val E4373 (E4373.wantedB rfl rfl rfl hb4354) (rn_fieldAddr E4373 rfl Try.underlying38 rfl ti3 rfl rfl) rfl fun a4374 E4375 => ?_)
                      clear E4373
                      refine wl_cons (wl_val E4375 (E4375.wantedB rfl rfl rfl hb4354) (rn_ld1 (i := 6) E4375 H rfl Try.underlying3 rfl rfl rfl rfl) rfl fun a4376 E4377 => ?_)
                      clear E4375
                      refine wl_cons (wl_val E4377 (E4377.wantedB rfl rfl rfl hb4354) (rn_int E4377 rfl rfl rfl rfl) rfl fun a4378 E4379 => ?_)
                      clear E4377
                      refine wl_cons (wl_val E4379 rfl (rn_pickF E4379 rfl rfl hb4354 rfl) rfl fun a4380 E4381 => ?_)
                      clear E4379
                      refine wl_nil ?_
                      refine then_normal (hK4332 _ _ ?_)
                      rcases Bool.eq_false_or_eq_true (y4308.1.Session != y103.1.Session) with hb4382 | hb4382
                      · replace h4302 := itT hb4382 h4302
                        refine wc_T E4381 rfl hb4382 ?_
                        refine wp_seq_k fun _ hK4383 => ?_
                        refine wp_region_lit ?_
                        refine wl_cons (wl_val E4381 rfl (rn_assign E4381 rfl rfl) rfl fun a4384 E4385 => ?_)
                        clear E4381
                        refine wl_nil ?_
                        refine then_normal (hK4383 _ _ ?_)
                        refine wp_ret ?_
                        obtain rfl := Option.some.inj h4302
                        try dsimp only at h
                        refine then_ret (block_ret (then_ret (then_ret (block_ret (then_ret (?_))))))
                        obtain rfl := Option.some.inj h
                        refine wb_ret1 E4385 rfl (rv_tmp E4385 rfl) ?_
                        exact ⟨_, rfl, [], [], ⟨rfl, rfl, rfl⟩, H.leave (fun Z hA => trivial) (fun Z S hA hL => trivial)⟩
                      · replace h4302 := itF hb4382 h4302
                        refine wc_F E4381 rfl hb4382 ?_
                        refine wp_skip ?_
                        refine then_normal (hK4331 _ _ ?_)
                        refine wp_seq_k fun _ hK4386 => ?_
                        refine wp_region_lit ?_
                        refine wl_cons (wl_val E4381 rfl (rn_ldN (i := 3) [.int .i64 x4291, .int .i64 x4292, .slice p4294 x4293.length c4295] E4381 H rfl Try.underlying28 rfl ti28 rfl rfl rfl rfl) rfl fun a4387 E4388 => ?_)
                        clear E4381
                        refine wl_cons (wl_val E4388 rfl (rn_move E4388 rfl rfl) rfl fun a4389 E4390 => ?_)
                        clear E4388
                        obtain ⟨y4391, hy4392, h4302⟩ := bs h4302
                        refine wl_cons (wl_fun E4390 H rfl (rn_call (args := [.agg #[.int .i64 x4291, .int .i64 x4292, .slice p4294 x4293.length c4295], .int .i64 x4289, .int .i64 3]) E4390 rfl rfl rfl Try.func16 nm16 rfl) rfl (by exact fun Z hA => ⟨(argHolds_get hA (k := 5) rfl), trivial⟩) (C16 (⟨x4291, x4292, x4293⟩ : api_Table) x4289 3 p4294 c4295 _ _ hy4392) ?_)
                        rintro v_ A_ N_ w4398 a4396 ⟨p4393, c4394, rfl, rfl, rfl⟩ E4397 H'
                        replace H := H'; clear H' E4390
                        refine wl_cons (wl_val E4397 rfl (rn_move E4397 rfl rfl) rfl fun a4399 E4400 => ?_)
                        clear E4397
                        refine wl_cons (wl_val E4400 rfl (rn_extract E4400 rfl rfl rfl) rfl fun a4401 E4402 => ?_)
                        clear E4400
                        refine wl_cons (wl_val E4402 rfl (rn_extract E4402 rfl rfl rfl) rfl fun a4403 E4404 => ?_)
                        clear E4402
                        refine wl_cons (wl_alloc (cs := [.int .i64 0, .int .i64 0, .slice none 0 0]) E4404 H rfl ti28 rfl rfl fun g4405 w4406 a4407 E4408 H' => ?_)
                        clear H E4404; have H := H'; clear H'
                        refine wl_cons (wl_store (i := 10) (vs := [.int .i64 y4391.1.Next, .int .i64 y4391.1.NextSession, .slice p4393 y4391.1.Processes.length c4394]) (cs' := [.int .i64 y4391.1.Next, .int .i64 y4391.1.NextSession, .slice p4393 y4391.1.Processes.length c4394]) E4408 H rfl rfl rfl rfl ti28 rfl rfl rfl rfl rfl rfl fun w4411 a4409 E4410 H' => ?_)
                        clear H E4408; have H := H'; clear H'
                        replace H : St w Nil Z w4411 [vw (kSlice 3 (kInt .i64)) a0 [.slice p3 a0.length c4], vw (kSlice 38 k_api_Process) y35.Processes [.slice p37 y35.Processes.length c38], vw (kSlice 38 k_api_Process) y43.1.Processes [.slice p45 y43.1.Processes.length c46], vw (kSlice 38 k_api_Process) y79.1.Processes [.slice p81 y79.1.Processes.length c82], vw (kSlice 38 k_api_Process) x3781 [.slice p3782 x3781.length c3783], vw (kSlice 38 k_api_Process) x4293 [.slice p4294 x4293.length c4295]] [[blk g22 [.slice p3 a0.length c4, .int .i64 x4290] 59], [], [], [blk g59 [.int .i64 x4291, .int .i64 x4292, .slice p4294 x4293.length c4295] 28], [], [row 81 k_api_Descriptor y103.1.Open (.slice p105 y103.1.Open.length c106)], [blk g117 [.int .i64 y103.1.PID, .int .i64 y103.1.PPID, .int .i64 y103.1.UID, .int .i64 y103.1.EUID, .int .i64 y103.1.GID, .int .i64 y103.1.EGID, .int .i64 y103.1.AUID, .int .i64 y103.1.Session, .int .i64 y103.1.Cwd.Dev, .int .i64 y103.1.Cwd.Ino, .string y103.1.Comm, .string y103.1.Exe, .slice p105 y103.1.Open.length c106, .bool y103.1.Audited] 38], [row 81 k_api_Descriptor y4308.1.Open (.slice p4310 y4308.1.Open.length c4311)], [blk g4322 [.int .i64 y4308.1.PID, .int .i64 y4308.1.PPID, .int .i64 y4308.1.UID, .int .i64 y4308.1.EUID, .int .i64 y4308.1.GID, .int .i64 y4308.1.EGID, .int .i64 y4308.1.AUID, .int .i64 y4308.1.Session, .int .i64 y4308.1.Cwd.Dev, .int .i64 y4308.1.Cwd.Ino, .string y4308.1.Comm, .string y4308.1.Exe, .slice p4310 y4308.1.Open.length c4311, .bool y4308.1.Audited] 38], [row 38 k_api_Process y4391.1.Processes (.slice p4393 y4391.1.Processes.length c4394)], [blk g4405 [.int .i64 y4391.1.Next, .int .i64 y4391.1.NextSession, .slice p4393 y4391.1.Processes.length c4394] 28]] := H
                        refine wl_cons (wl_val E4410 rfl (rn_assign E4410 rfl rfl) rfl fun a4412 E4413 => ?_)
                        clear E4410
                        refine wl_nil ?_
                        refine then_normal (hK4386 _ _ ?_)
                        refine wp_seq_k fun _ hK4414 => ?_
                        refine wp_region_lit ?_
                        refine wl_cons (wl_val E4413 rfl (rn_move E4413 rfl rfl) rfl fun a4415 E4416 => ?_)
                        clear E4413
                        refine wl_cons (wl_val E4416 rfl (rn_int E4416 rfl rfl rfl rfl) rfl fun a4417 E4418 => ?_)
                        clear E4416
                        refine wl_cons (wl_val E4418 rfl (rn_fieldAddr E4418 rfl Try.underlying38 rfl ti3 rfl rfl) rfl fun a4419 E4420 => ?_)
                        clear E4418
                        refine wl_cons (wl_val E4420 rfl (rn_ld1 (i := 8) E4420 H rfl Try.underlying3 rfl rfl rfl rfl) rfl fun a4421 E4422 => ?_)
                        clear E4420
                        refine wl_cons (wl_val E4422 rfl (rn_int E4422 rfl rfl rfl rfl) rfl fun a4423 E4424 => ?_)
                        clear E4422
                        refine wl_cons (wl_val E4424 rfl (rn_boolne E4424 rfl Try.underlying4 rfl rfl) rfl fun a4425 E4426 => ?_)
                        clear E4424
                        refine wl_nil ?_
                        refine then_normal (hK4414 _ _ ?_)
                        rcases Bool.eq_false_or_eq_true ((y4391.2 == 1) != (y4308.1.EUID != 0)) with hb4427 | hb4427
                        · replace h4302 := itT hb4427 h4302
                          refine wc_T E4426 rfl hb4427 ?_
                          refine wp_seq_k fun _ hK4428 => ?_
                          refine wp_region_lit ?_
                          refine wl_cons (wl_val E4426 rfl (rn_assign E4426 rfl rfl) rfl fun a4429 E4430 => ?_)
                          clear E4426
                          refine wl_nil ?_
                          refine then_normal (hK4428 _ _ ?_)
                          refine wp_ret ?_
                          obtain rfl := Option.some.inj h4302
                          try dsimp only at h
                          refine block_ret (then_ret (then_ret (block_ret (then_ret (?_)))))
                          obtain rfl := Option.some.inj h
                          refine wb_ret1 E4430 rfl (rv_tmp E4430 rfl) ?_
                          exact ⟨_, rfl, [], [], ⟨rfl, rfl, rfl⟩, H.leave (fun Z hA => trivial) (fun Z S hA hL => trivial)⟩
                        · replace h4302 := itF hb4427 h4302
                          refine wc_F E4426 rfl hb4427 ?_
                          refine wp_skip ?_
                          refine block_normal ?_
                          refine then_normal (hK3798 _ _ ?_)
                          refine wp_region_lit ?_
                          refine wl_cons (wl_val E4426 rfl (rn_move E4426 rfl rfl) rfl fun a4431 E4432 => ?_)
                          clear E4426
                          refine wl_cons (wl_val E4432 rfl (rn_int E4432 rfl rfl rfl rfl) rfl fun a4433 E4434 => ?_)
                          clear E4432
                          refine wl_cons (wl_val E4434 rfl (rn_assign E4434 rfl rfl) rfl fun a4435 E4436 => ?_)
                          clear E4434
                          refine wl_nil ?_
                          replace H : St w Nil Z w4411 [vw (kSlice 3 (kInt .i64)) a0 [.slice p3 a0.length c4], vw (kSlice 38 k_api_Process) y35.Processes [.slice p37 y35.Processes.length c38], vw (kSlice 38 k_api_Process) y43.1.Processes [.slice p45 y43.1.Processes.length c46], vw (kSlice 38 k_api_Process) y79.1.Processes [.slice p81 y79.1.Processes.length c82], vw (kSlice 38 k_api_Process) x3781 [.slice p3782 x3781.length c3783], vw (kSlice 38 k_api_Process) x4293 [.slice p4294 x4293.length c4295]] ([[blk g22 [.slice p3 a0.length c4, .int .i64 x4290] 59], [], [], [blk g59 [.int .i64 x4291, .int .i64 x4292, .slice p4294 x4293.length c4295] 28], [], [row 81 k_api_Descriptor y103.1.Open (.slice p105 y103.1.Open.length c106)], [blk g117 [.int .i64 y103.1.PID, .int .i64 y103.1.PPID, .int .i64 y103.1.UID, .int .i64 y103.1.EUID, .int .i64 y103.1.GID, .int .i64 y103.1.EGID, .int .i64 y103.1.AUID, .int .i64 y103.1.Session, .int .i64 y103.1.Cwd.Dev, .int .i64 y103.1.Cwd.Ino, .string y103.1.Comm, .string y103.1.Exe, .slice p105 y103.1.Open.length c106, .bool y103.1.Audited] 38]] ++ [[row 81 k_api_Descriptor y4308.1.Open (.slice p4310 y4308.1.Open.length c4311)], [blk g4322 [.int .i64 y4308.1.PID, .int .i64 y4308.1.PPID, .int .i64 y4308.1.UID, .int .i64 y4308.1.EUID, .int .i64 y4308.1.GID, .int .i64 y4308.1.EGID, .int .i64 y4308.1.AUID, .int .i64 y4308.1.Session, .int .i64 y4308.1.Cwd.Dev, .int .i64 y4308.1.Cwd.Ino, .string y4308.1.Comm, .string y4308.1.Exe, .slice p4310 y4308.1.Open.length c4311, .bool y4308.1.Audited] 38], [row 38 k_api_Process y4391.1.Processes (.slice p4393 y4391.1.Processes.length c4394)], [blk g4405 [.int .i64 y4391.1.Next, .int .i64 y4391.1.NextSession, .slice p4393 y4391.1.Processes.length c4394] 28]]) := H
                          exact ⟨x4289, (IntKind.wrap .i64 (x3777 + 1)), x4290, x4291, x4292, x4293, p4294, c4295, E4436.pick ⟨rfl, rfl, rfl, rfl, rfl, rfl, rfl, rfl, rfl, rfl, rfl, rfl, rfl, rfl, rfl, rfl, rfl, rfl, rfl, rfl, rfl, rfl, rfl, rfl, rfl, rfl, rfl, rfl, rfl, rfl, rfl, rfl, rfl, rfl, rfl, rfl, rfl, rfl, rfl, rfl, rfl, rfl, rfl, rfl, rfl, rfl, rfl, rfl, rfl, rfl, rfl, rfl, rfl, rfl, rfl, rfl, trivial⟩, H.front.sel (fun Z hA => ⟨(argHolds_get hA (k := 0) rfl), (argHolds_get hA (k := 1) rfl), (argHolds_get hA (k := 2) rfl), (argHolds_get hA (k := 3) rfl), (argHolds_get hA (k := 5) rfl), trivial⟩), h4302⟩
                  · replace h4302 := itF hb4339 h4302
                    refine wl_cons (wl_pass E4338 (E4338.unwanted rfl rfl rfl (congrArg Bool.not hb4339)) rfl fun a4437 E4438 => ?_)
                    clear E4338
                    refine wl_cons (wl_pass E4438 (E4438.unwanted rfl rfl rfl (congrArg Bool.not hb4339)) rfl fun a4439 E4440 => ?_)
                    clear E4438
                    refine wl_cons (wl_pass E4440 (E4440.unwanted rfl rfl rfl (congrArg Bool.not hb4339)) rfl fun a4441 E4442 => ?_)
                    clear E4440
                    refine wl_cons (wl_pass E4442 (E4442.unwanted rfl rfl rfl (congrArg Bool.not hb4339)) rfl fun a4443 E4444 => ?_)
                    clear E4442
                    refine wl_cons (wl_pass E4444 (E4444.unwanted rfl rfl rfl (congrArg Bool.not hb4339)) rfl fun a4445 E4446 => ?_)
                    clear E4444
                    refine wl_cons (wl_val E4446 rfl (rn_pickT E4446 rfl rfl (congrArg Bool.not hb4339) rfl) rfl fun a4447 E4448 => ?_)
                    clear E4446
                    refine wl_cons (wl_val E4448 rfl (rn_move E4448 rfl rfl) rfl fun a4449 E4450 => ?_)
                    clear E4448
                    refine wl_cons (wl_pass E4450 (E4450.unwanted rfl rfl rfl rfl) rfl fun a4451 E4452 => ?_)
                    clear E4450
                    refine wl_cons (wl_pass E4452 (E4452.unwanted rfl rfl rfl rfl) rfl fun a4453 E4454 => ?_)
                    clear E4452
                    refine wl_cons (wl_pass E4454 (E4454.unwanted rfl rfl rfl rfl) rfl fun a4455 E4456 => ?_)
                    clear E4454
                    refine wl_cons (wl_pass E4456 (E4456.unwanted rfl rfl rfl rfl) rfl fun a4457 E4458 => ?_)
                    clear E4456
                    refine wl_cons (wl_pass E4458 (E4458.unwanted rfl rfl rfl rfl) rfl fun a4459 E4460 => ?_)
                    clear E4458
                    refine wl_cons (wl_val E4460 rfl (rn_pickT E4460 rfl rfl rfl rfl) rfl fun a4461 E4462 => ?_)
                    clear E4460
                    refine wl_nil ?_
                    refine then_normal (hK4332 _ _ ?_)
                    refine wc_T E4462 rfl rfl ?_
                    refine wp_seq_k fun _ hK4463 => ?_
                    refine wp_region_lit ?_
                    refine wl_cons (wl_val E4462 rfl (rn_assign E4462 rfl rfl) rfl fun a4464 E4465 => ?_)
                    clear E4462
                    refine wl_nil ?_
                    refine then_normal (hK4463 _ _ ?_)
                    refine wp_ret ?_
                    obtain rfl := Option.some.inj h4302
                    try dsimp only at h
                    refine then_ret (block_ret (then_ret (then_ret (block_ret (then_ret (?_))))))
                    obtain rfl := Option.some.inj h
                    refine wb_ret1 E4465 rfl (rv_tmp E4465 rfl) ?_
                    exact ⟨_, rfl, [], [], ⟨rfl, rfl, rfl⟩, H.leave (fun Z hA => trivial) (fun Z S hA hL => trivial)⟩
                · obtain ⟨o4297, ho4298, h3790⟩ := bs h3790
                  refine wp_seq_k fun _ hK4466 => ?_
                  refine wp_region_lit ?_
                  refine wl_cons (wl_val E3796 rfl (rn_move E3796 rfl rfl) rfl fun a4467 E4468 => ?_)
                  clear E3796
                  obtain ⟨y4469, hy4470, ho4298⟩ := bs ho4298
                  refine wl_cons (wl_funM (i := 0) E4468 H rfl (rn_call (args := [.pointer (some ⟨g22, 0, none⟩), .int .i64 4]) E4468 rfl rfl rfl Try.func17 nm17 rfl) rfl rfl (by exact fun Z hA => ⟨(argHolds_get hA (k := 0) rfl), trivial⟩) (C17 (⟨a0, x3778⟩ : kauditmake_Src) 4 g22 p3 c4 _ _ hy4470) ?_)
                  rintro v_ A_ I_ N_ w4473 a4471 ⟨rfl, rfl, rfl, rfl⟩ E4472 H'
                  replace H := H'; clear H' E4468
                  replace H : St w Nil Z w4473 [vw (kSlice 3 (kInt .i64)) a0 [.slice p3 a0.length c4], vw (kSlice 38 k_api_Process) y35.Processes [.slice p37 y35.Processes.length c38], vw (kSlice 38 k_api_Process) y43.1.Processes [.slice p45 y43.1.Processes.length c46], vw (kSlice 38 k_api_Process) y79.1.Processes [.slice p81 y79.1.Processes.length c82], vw (kSlice 38 k_api_Process) x3781 [.slice p3782 x3781.length c3783]] [[blk g22 [.slice p3 a0.length c4, .int .i64 (y4469.2)] 59], [], [], [blk g59 [.int .i64 x3779, .int .i64 x3780, .slice p3782 x3781.length c3783] 28], [], [row 81 k_api_Descriptor y103.1.Open (.slice p105 y103.1.Open.length c106)], [blk g117 [.int .i64 y103.1.PID, .int .i64 y103.1.PPID, .int .i64 y103.1.UID, .int .i64 y103.1.EUID, .int .i64 y103.1.GID, .int .i64 y103.1.EGID, .int .i64 y103.1.AUID, .int .i64 y103.1.Session, .int .i64 y103.1.Cwd.Dev, .int .i64 y103.1.Cwd.Ino, .string y103.1.Comm, .string y103.1.Exe, .slice p105 y103.1.Open.length c106, .bool y103.1.Audited] 38]] := H
                  replace H : St w Nil Z w4473 [vw (kSlice 3 (kInt .i64)) a0 [.slice p3 a0.length c4], vw (kSlice 38 k_api_Process) y35.Processes [.slice p37 y35.Processes.length c38], vw (kSlice 38 k_api_Process) y43.1.Processes [.slice p45 y43.1.Processes.length c46], vw (kSlice 38 k_api_Process) y79.1.Processes [.slice p81 y79.1.Processes.length c82], vw (kSlice 38 k_api_Process) x3781 [.slice p3782 x3781.length c3783]] [[blk g22 [.slice p3 a0.length c4, .int .i64 (y4469.2)] 59], [], [], [blk g59 [.int .i64 x3779, .int .i64 x3780, .slice p3782 x3781.length c3783] 28], [], [row 81 k_api_Descriptor y103.1.Open (.slice p105 y103.1.Open.length c106)], [blk g117 [.int .i64 y103.1.PID, .int .i64 y103.1.PPID, .int .i64 y103.1.UID, .int .i64 y103.1.EUID, .int .i64 y103.1.GID, .int .i64 y103.1.EGID, .int .i64 y103.1.AUID, .int .i64 y103.1.Session, .int .i64 y103.1.Cwd.Dev, .int .i64 y103.1.Cwd.Ino, .string y103.1.Comm, .string y103.1.Exe, .slice p105 y103.1.Open.length c106, .bool y103.1.Audited] 38]] := H
                  refine wl_nil ?_
                  refine then_normal (hK4466 _ _ ?_)
                  refine wp_block ?_
                  refine wp_seq_k fun _ hK4474 => ?_
                  refine wp_region_lit ?_
                  refine wl_cons (wl_val E4472 rfl (rn_int E4472 rfl rfl rfl rfl) rfl fun a4475 E4476 => ?_)
                  clear E4472
                  refine wl_cons (wl_val E4476 rfl (rn_assign E4476 rfl rfl) rfl fun a4477 E4478 => ?_)
                  clear E4476
                  refine wl_nil ?_
                  refine then_normal (hK4474 _ _ ?_)
                  rcases Bool.eq_false_or_eq_true (y4469.1 == 0) with hb4479 | hb4479
                  · replace ho4298 := itT hb4479 ho4298
                    refine wc_T E4478 rfl hb4479 ?_
                    refine wp_seq_k fun _ hK4480 => ?_
                    refine wp_region_lit ?_
                    refine wl_cons (wl_val E4478 rfl (rn_ldN (i := 3) [.int .i64 x3779, .int .i64 x3780, .slice p3782 x3781.length c3783] E4478 H rfl Try.underlying28 rfl ti28 rfl rfl rfl rfl) rfl fun a4481 E4482 => ?_)
                    clear E4478
                    refine wl_cons (wl_val E4482 rfl (rn_move E4482 rfl rfl) rfl fun a4483 E4484 => ?_)
                    clear E4482
                    obtain ⟨y4485, hy4486, ho4298⟩ := bs ho4298
                    refine wl_cons (wl_fun E4484 H rfl (rn_call (args := [.agg #[.int .i64 x3779, .int .i64 x3780, .slice p3782 x3781.length c3783], .int .i64 x3776]) E4484 rfl rfl rfl Try.func10 nm10 rfl) rfl (by exact fun Z hA => ⟨(argHolds_get hA (k := 4) rfl), trivial⟩) (C10 (⟨x3779, x3780, x3781⟩ : api_Table) x3776 p3782 c3783 _ _ hy4486) ?_)
                    rintro v_ A_ N_ w4492 a4490 ⟨p4487, c4488, rfl, rfl, rfl⟩ E4491 H'
                    replace H := H'; clear H' E4484
                    refine wl_cons (wl_val E4491 rfl (rn_move E4491 rfl rfl) rfl fun a4493 E4494 => ?_)
                    clear E4491
                    refine wl_cons (wl_val E4494 rfl (rn_extract E4494 rfl rfl rfl) rfl fun a4495 E4496 => ?_)
                    clear E4494
                    refine wl_cons (wl_val E4496 rfl (rn_extract E4496 rfl rfl rfl) rfl fun a4497 E4498 => ?_)
                    clear E4496
                    refine wl_cons (wl_val E4498 rfl (rn_extract E4498 rfl rfl rfl) rfl fun a4499 E4500 => ?_)
                    clear E4498
                    refine wl_cons (wl_alloc (cs := [.int .i64 0, .int .i64 0, .slice none 0 0]) E4500 H rfl ti28 rfl rfl fun g4501 w4502 a4503 E4504 H' => ?_)
                    clear H E4500; have H := H'; clear H'
                    refine wl_cons (wl_store (i := 8) (vs := [.int .i64 y4485.1.Next, .int .i64 y4485.1.NextSession, .slice p4487 y4485.1.Processes.length c4488]) (cs' := [.int .i64 y4485.1.Next, .int .i64 y4485.1.NextSession, .slice p4487 y4485.1.Processes.length c4488]) E4504 H rfl rfl rfl rfl ti28 rfl rfl rfl rfl rfl rfl fun w4507 a4505 E4506 H' => ?_)
                    clear H E4504; have H := H'; clear H'
                    replace H : St w Nil Z w4507 [vw (kSlice 3 (kInt .i64)) a0 [.slice p3 a0.length c4], vw (kSlice 38 k_api_Process) y35.Processes [.slice p37 y35.Processes.length c38], vw (kSlice 38 k_api_Process) y43.1.Processes [.slice p45 y43.1.Processes.length c46], vw (kSlice 38 k_api_Process) y79.1.Processes [.slice p81 y79.1.Processes.length c82], vw (kSlice 38 k_api_Process) x3781 [.slice p3782 x3781.length c3783]] [[blk g22 [.slice p3 a0.length c4, .int .i64 (y4469.2)] 59], [], [], [blk g59 [.int .i64 x3779, .int .i64 x3780, .slice p3782 x3781.length c3783] 28], [], [row 81 k_api_Descriptor y103.1.Open (.slice p105 y103.1.Open.length c106)], [blk g117 [.int .i64 y103.1.PID, .int .i64 y103.1.PPID, .int .i64 y103.1.UID, .int .i64 y103.1.EUID, .int .i64 y103.1.GID, .int .i64 y103.1.EGID, .int .i64 y103.1.AUID, .int .i64 y103.1.Session, .int .i64 y103.1.Cwd.Dev, .int .i64 y103.1.Cwd.Ino, .string y103.1.Comm, .string y103.1.Exe, .slice p105 y103.1.Open.length c106, .bool y103.1.Audited] 38], [row 38 k_api_Process y4485.1.Processes (.slice p4487 y4485.1.Processes.length c4488)], [blk g4501 [.int .i64 y4485.1.Next, .int .i64 y4485.1.NextSession, .slice p4487 y4485.1.Processes.length c4488] 28]] := H
                    refine wl_cons (wl_val E4506 rfl (rn_assign E4506 rfl rfl) rfl fun a4508 E4509 => ?_)
                    clear E4506
                    refine wl_cons (wl_val E4509 rfl (rn_assign E4509 rfl rfl) rfl fun a4510 E4511 => ?_)
                    clear E4509
                    refine wl_nil ?_
                    refine then_normal (hK4480 _ _ ?_)
                    refine wp_seq_k fun _ hK4512 => ?_
                    refine wp_region_lit ?_
                    refine wl_cons (wl_val E4511 rfl (rn_move E4511 rfl rfl) rfl fun a4513 E4514 => ?_)
                    clear E4511
                    refine wl_cons (wl_val E4514 rfl (rn_int E4514 rfl rfl rfl rfl) rfl fun a4515 E4516 => ?_)
                    clear E4514
                    refine wl_nil ?_
                    refine then_normal (hK4512 _ _ ?_)
                    rcases Bool.eq_false_or_eq_true (y4485.2.2 == 0) with hb4517 | hb4517
                    · replace ho4298 := itT hb4517 ho4298
                      refine wc_T E4516 rfl hb4517 ?_
                      refine wp_region_lit ?_
                      refine wl_cons (wl_val E4516 rfl (rn_ldN (i := 8) [.int .i64 y4485.1.Next, .int .i64 y4485.1.NextSession, .slice p4487 y4485.1.Processes.length c4488] E4516 H rfl Try.underlying28 rfl ti28 rfl rfl rfl rfl) rfl fun a4518 E4519 => ?_)
                      clear E4516
                      refine wl_cons (wl_val E4519 rfl (rn_move E4519 rfl rfl) rfl fun a4520 E4521 => ?_)
                      clear E4519
                      refine wl_cons (wl_store (i := 3) (vs := [.int .i64 y4485.1.Next, .int .i64 y4485.1.NextSession, .slice p4487 y4485.1.Processes.length c4488]) (cs' := [.int .i64 y4485.1.Next, .int .i64 y4485.1.NextSession, .slice p4487 y4485.1.Processes.length c4488]) E4521 H rfl rfl rfl rfl ti28 rfl rfl rfl rfl rfl rfl fun w4524 a4522 E4523 H' => ?_)
                      clear H E4521; have H := H'; clear H'
                      refine wl_cons (wl_val E4523 rfl (rn_assign E4523 rfl rfl) rfl fun a4525 E4526 => ?_)
                      clear E4523
                      refine wl_nil ?_
                      refine block_normal ?_
                      replace H := H.share (i := 7) (A' := [vw (kSlice 38 k_api_Process) y4485.1.Processes [.slice p4487 y4485.1.Processes.length c4488]]) (by intro b h; exact h) rfl (fun Z S1 h => ⟨rowH.read h.1, trivial⟩)
                      obtain rfl := Option.some.inj ho4298
                      replace H : St w Nil Z w4524 [vw (kSlice 3 (kInt .i64)) a0 [.slice p3 a0.length c4], vw (kSlice 38 k_api_Process) y35.Processes [.slice p37 y35.Processes.length c38], vw (kSlice 38 k_api_Process) y43.1.Processes [.slice p45 y43.1.Processes.length c46], vw (kSlice 38 k_api_Process) y79.1.Processes [.slice p81 y79.1.Processes.length c82], vw (kSlice 38 k_api_Process) x3781 [.slice p3782 x3781.length c3783], vw (kSlice 38 k_api_Process) y4485.1.Processes [.slice p4487 y4485.1.Processes.length c4488]] ([[blk g22 [.slice p3 a0.length c4, .int .i64 (y4469.2)] 59], [], [], [blk g59 [.int .i64 y4485.1.Next, .int .i64 y4485.1.NextSession, .slice p4487 y4485.1.Processes.length c4488] 28], [], [row 81 k_api_Descriptor y103.1.Open (.slice p105 y103.1.Open.length c106)], [blk g117 [.int .i64 y103.1.PID, .int .i64 y103.1.PPID, .int .i64 y103.1.UID, .int .i64 y103.1.EUID, .int .i64 y103.1.GID, .int .i64 y103.1.EGID, .int .i64 y103.1.AUID, .int .i64 y103.1.Session, .int .i64 y103.1.Cwd.Dev, .int .i64 y103.1.Cwd.Ino, .string y103.1.Comm, .string y103.1.Exe, .slice p105 y103.1.Open.length c106, .bool y103.1.Audited] 38]] ++ [[], [blk g4501 [.int .i64 y4485.1.Next, .int .i64 y4485.1.NextSession, .slice p4487 y4485.1.Processes.length c4488] 28]]) := H
                      exact ⟨y4485.2.1, (y4469.2), y4485.1.Next, y4485.1.NextSession, y4485.1.Processes, p4487, c4488, E4526.pick ⟨rfl, rfl, rfl, rfl, rfl, rfl, rfl, rfl, rfl, rfl, rfl, rfl, rfl, rfl, rfl, rfl, rfl, rfl, rfl, rfl, rfl, rfl, rfl, rfl, rfl, rfl, rfl, rfl, rfl, rfl, rfl, rfl, rfl, rfl, rfl, rfl, rfl, rfl, rfl, rfl, rfl, rfl, rfl, rfl, rfl, rfl, rfl, rfl, rfl, rfl, rfl, rfl, rfl, rfl, rfl, rfl, rfl, rfl, trivial⟩, H.front.sel (fun Z hA => ⟨(argHolds_get hA (k := 0) rfl), (argHolds_get hA (k := 1) rfl), (argHolds_get hA (k := 2) rfl), (argHolds_get hA (k := 3) rfl), (argHolds_get hA (k := 4) rfl), (argHolds_get hA (k := 5) rfl), trivial⟩), h3790⟩
                    · replace ho4298 := itF hb4517 ho4298
                      refine wc_F E4516 rfl hb4517 ?_
                      refine wp_skip ?_
                      refine block_normal ?_
                      obtain rfl := Option.some.inj ho4298
                      replace H : St w Nil Z w4507 [vw (kSlice 3 (kInt .i64)) a0 [.slice p3 a0.length c4], vw (kSlice 38 k_api_Process) y35.Processes [.slice p37 y35.Processes.length c38], vw (kSlice 38 k_api_Process) y43.1.Processes [.slice p45 y43.1.Processes.length c46], vw (kSlice 38 k_api_Process) y79.1.Processes [.slice p81 y79.1.Processes.length c82], vw (kSlice 38 k_api_Process) x3781 [.slice p3782 x3781.length c3783]] ([[blk g22 [.slice p3 a0.length c4, .int .i64 (y4469.2)] 59], [], [], [blk g59 [.int .i64 x3779, .int .i64 x3780, .slice p3782 x3781.length c3783] 28], [], [row 81 k_api_Descriptor y103.1.Open (.slice p105 y103.1.Open.length c106)], [blk g117 [.int .i64 y103.1.PID, .int .i64 y103.1.PPID, .int .i64 y103.1.UID, .int .i64 y103.1.EUID, .int .i64 y103.1.GID, .int .i64 y103.1.EGID, .int .i64 y103.1.AUID, .int .i64 y103.1.Session, .int .i64 y103.1.Cwd.Dev, .int .i64 y103.1.Cwd.Ino, .string y103.1.Comm, .string y103.1.Exe, .slice p105 y103.1.Open.length c106, .bool y103.1.Audited] 38]] ++ [[row 38 k_api_Process y4485.1.Processes (.slice p4487 y4485.1.Processes.length c4488)], [blk g4501 [.int .i64 y4485.1.Next, .int .i64 y4485.1.NextSession, .slice p4487 y4485.1.Processes.length c4488] 28]]) := H
                      exact ⟨x3776, (y4469.2), x3779, x3780, x3781, p3782, c3783, E4516.pick ⟨rfl, rfl, rfl, rfl, rfl, rfl, rfl, rfl, rfl, rfl, rfl, rfl, rfl, rfl, rfl, rfl, rfl, rfl, rfl, rfl, rfl, rfl, rfl, rfl, rfl, rfl, rfl, rfl, rfl, rfl, rfl, rfl, rfl, rfl, rfl, rfl, rfl, rfl, rfl, rfl, rfl, rfl, rfl, rfl, rfl, rfl, rfl, rfl, rfl, rfl, rfl, rfl, rfl, rfl, rfl, rfl, rfl, rfl, trivial⟩, H.front.sel (fun Z hA => ⟨(argHolds_get hA (k := 0) rfl), (argHolds_get hA (k := 1) rfl), (argHolds_get hA (k := 2) rfl), (argHolds_get hA (k := 3) rfl), (argHolds_get hA (k := 4) rfl), (argHolds_get hA (k := 4) rfl), trivial⟩), h3790⟩
                  · replace ho4298 := itF hb4479 ho4298
                    refine wc_F E4478 rfl hb4479 ?_
                    refine wp_seq_k fun _ hK4527 => ?_
                    refine wp_region_lit ?_
                    refine wl_cons (wl_val E4478 rfl (rn_int E4478 rfl rfl rfl rfl) rfl fun a4528 E4529 => ?_)
                    clear E4478
                    refine wl_cons (wl_val E4529 rfl (rn_assign E4529 rfl rfl) rfl fun a4530 E4531 => ?_)
                    clear E4529
                    refine wl_nil ?_
                    refine then_normal (hK4527 _ _ ?_)
                    rcases Bool.eq_false_or_eq_true (y4469.1 == 1) with hb4532 | hb4532
                    · replace ho4298 := itT hb4532 ho4298
                      refine wc_T E4531 rfl hb4532 ?_
                      refine wp_seq_k fun _ hK4533 => ?_
                      refine wa_join (fun a_ w_ => ∃ (g4560 : Nat), ∃ (y4546 : api_Table × Int), ∃ (p4548 : Option Addr), ∃ (c4549 : Nat), ∃ (y4541 : Int × Int), Env 164 a_ [(0, .slice p3 a0.length c4), (1, .int .u16 a1), (4, .bool false), (5, .pointer (some ⟨g22, 0, none⟩)), (6, .pointer (some ⟨g59, 0, none⟩)), (7, .int .i64 x3776), (8, .int .i64 y43.2.2), (9, .int .i64 y79.2), (10, .pointer (some ⟨g117, 0, none⟩)), (11, .bool y103.2), (12, .int .i64 x3777), (16, .pointer (some ⟨g4560, 0, none⟩)), (17, .int .i64 y4546.2), (26, .slice p3 a0.length c4), (27, .pointer (some ⟨g22, 0, none⟩)), (28, .tuple #[.agg #[.int .i64 y43.1.Next, .int .i64 y43.1.NextSession, .slice p45 y43.1.Processes.length c46], .int .i64 y43.2.1, .int .i64 y43.2.2]), (29, .agg #[.int .i64 0, .int .i64 1]), (30, .agg #[.int .i64 y35.Next, .int .i64 y35.NextSession, .slice p37 y35.Processes.length c38]), (31, .tuple #[.agg #[.int .i64 y43.1.Next, .int .i64 y43.1.NextSession, .slice p45 y43.1.Processes.length c46], .int .i64 y43.2.1, .int .i64 y43.2.2]), (32, .agg #[.int .i64 y43.1.Next, .int .i64 y43.1.NextSession, .slice p45 y43.1.Processes.length c46]), (33, .int .i64 y43.2.1), (34, .int .i64 y43.2.2), (35, .tuple #[.agg #[.int .i64 y79.1.Next, .int .i64 y79.1.NextSession, .slice p81 y79.1.Processes.length c82], .int .i64 y79.2]), (36, .agg #[.int .i64 y43.1.Next, .int .i64 y43.1.NextSession, .slice p45 y43.1.Processes.length c46]), (37, .int .i64 y43.2.1), (38, .int .u16 a1), (39, .int .i64 (IntKind.wrap .i64 a1)), (40, .tuple #[.agg #[.int .i64 y79.1.Next, .int .i64 y79.1.NextSession, .slice p81 y79.1.Processes.length c82], .int .i64 y79.2]), (41, .agg #[.int .i64 y79.1.Next, .int .i64 y79.1.NextSession, .slice p81 y79.1.Processes.length c82]), (42, .int .i64 y79.2), (43, .tuple #[.agg #[.int .i64 y103.1.PID, .int .i64 y103.1.PPID, .int .i64 y103.1.UID, .int .i64 y103.1.EUID, .int .i64 y103.1.GID, .int .i64 y103.1.EGID, .int .i64 y103.1.AUID, .int .i64 y103.1.Session, .int .i64 y103.1.Cwd.Dev, .int .i64 y103.1.Cwd.Ino, .string y103.1.Comm, .string y103.1.Exe, .slice p105 y103.1.Open.length c106, .bool y103.1.Audited], .bool y103.2]), (44, .agg #[.int .i64 y79.1.Next, .int .i64 y79.1.NextSession, .slice p81 y79.1.Processes.length c82]), (45, .int .i64 y43.2.1), (46, .tuple #[.agg #[.int .i64 y103.1.PID, .int .i64 y103.1.PPID, .int .i64 y103.1.UID, .int .i64 y103.1.EUID, .int .i64 y103.1.GID, .int .i64 y103.1.EGID, .int .i64 y103.1.AUID, .int .i64 y103.1.Session, .int .i64 y103.1.Cwd.Dev, .int .i64 y103.1.Cwd.Ino, .string y103.1.Comm, .string y103.1.Exe, .slice p105 y103.1.Open.length c106, .bool y103.1.Audited], .bool y103.2]), (47, .agg #[.int .i64 y103.1.PID, .int .i64 y103.1.PPID, .int .i64 y103.1.UID, .int .i64 y103.1.EUID, .int .i64 y103.1.GID, .int .i64 y103.1.EGID, .int .i64 y103.1.AUID, .int .i64 y103.1.Session, .int .i64 y103.1.Cwd.Dev, .int .i64 y103.1.Cwd.Ino, .string y103.1.Comm, .string y103.1.Exe, .slice p105 y103.1.Open.length c106, .bool y103.1.Audited]), (48, .bool y103.2), (49, .int .i64 y43.2.2), (50, .bool (y43.2.2 != 0)), (51, .bool (y43.2.2 != 0)), (52, .int .i64 y79.2), (53, .bool (y79.2 != 0)), (54, .bool (y79.2 != 0)), (55, .bool (y79.2 != 0)), (56, .bool y103.2), (57, .bool (!y103.2)), (58, .bool (!y103.2)), (59, .bool (!y103.2)), (60, .pointer (some ⟨g117, 6, none⟩)), (61, .int .i64 y103.1.AUID), (62, .int .u16 a1), (63, .int .i64 (IntKind.wrap .i64 a1)), (64, .bool (y103.1.AUID != (IntKind.wrap .i64 a1))), (65, .bool (y103.1.AUID != (IntKind.wrap .i64 a1))), (66, .bool (y103.1.AUID != (IntKind.wrap .i64 a1))), (67, .pointer (some ⟨g117, 7, none⟩)), (68, .int .i64 y103.1.Session), (69, .bool (y103.1.Session == 4294967295)), (70, .bool (y103.1.Session == 4294967295)), (71, .int .i64 x3777), (72, .bool (decide (x3777 < 8))), (75, .pointer (some ⟨g22, 0, none⟩)), (76, .int .i64 y4469.1), (77, .bool (y4469.1 == 0)), (78, .bool (y4469.1 == 0)), (90, .bool (y4469.1 == 1)), (91, .bool (y4469.1 == 1)), (92, .tuple #[.agg #[.int .i64 y4546.1.Next, .int .i64 y4546.1.NextSession, .slice p4548 y4546.1.Processes.length c4549], .int .i64 y4546.2]), (93, .agg #[.int .i64 x3779, .int .i64 x3780, .slice p3782 x3781.length c3783]), (94, .int .i64 x3776), (95, .pointer (some ⟨g22, 0, none⟩)), (96, .int .i64 y4541.1), (97, .tuple #[.agg #[.int .i64 y4546.1.Next, .int .i64 y4546.1.NextSession, .slice p4548 y4546.1.Processes.length c4549], .int .i64 y4546.2]), (98, .agg #[.int .i64 y4546.1.Next, .int .i64 y4546.1.NextSession, .slice p4548 y4546.1.Processes.length c4549]), (99, .int .i64 y4546.2)] ∧ St w Nil Z w_ [vw (kSlice 3 (kInt .i64)) a0 [.slice p3 a0.length c4], vw (kSlice 38 k_api_Process) y35.Processes [.slice p37 y35.Processes.length c38], vw (kSlice 38 k_api_Process) y43.1.Processes [.slice p45 y43.1.Processes.length c46], vw (kSlice 38 k_api_Process) y79.1.Processes [.slice p81 y79.1.Processes.length c82], vw (kSlice 38 k_api_Process) x3781 [.slice p3782 x3781.length c3783]] [[blk g22 [.slice p3 a0.length c4, .int .i64 (y4541.2)] 59], [], [], [blk g59 [.int .i64 x3779, .int .i64 x3780, .slice p3782 x3781.length c3783] 28], [], [row 81 k_api_Descriptor y103.1.Open (.slice p105 y103.1.Open.length c106)], [blk g117 [.int .i64 y103.1.PID, .int .i64 y103.1.PPID, .int .i64 y103.1.UID, .int .i64 y103.1.EUID, .int .i64 y103.1.GID, .int .i64 y103.1.EGID, .int .i64 y103.1.AUID, .int .i64 y103.1.Session, .int .i64 y103.1.Cwd.Dev, .int .i64 y103.1.Cwd.Ino, .string y103.1.Comm, .string y103.1.Exe, .slice p105 y103.1.Open.length c106, .bool y103.1.Audited] 38], [row 38 k_api_Process y4546.1.Processes (.slice p4548 y4546.1.Processes.length c4549)], [blk g4560 [.int .i64 y4546.1.Next, .int .i64 y4546.1.NextSession, .slice p4548 y4546.1.Processes.length c4549] 28]] ∧ (if (y4546.2 == 0) = true then (some (x3776, (y4541.2), y4546.1.Next, y4546.1.NextSession, y4546.1.Processes)) else (some (x3776, (y4541.2), x3779, x3780, x3781))) = some o4297) ?_ ?_
                      · rintro a4569 w4570 ⟨g4560, y4546, p4548, c4549, y4541, E4571, H', h4572⟩
                        clear H E4531; have H := H'; clear H'
                        refine then_normal (hK4533 _ _ ?_)
                        refine wp_seq_k fun _ hK4573 => ?_
                        refine wp_region_lit ?_
                        refine wl_cons (wl_val E4571 rfl (rn_move E4571 rfl rfl) rfl fun a4574 E4575 => ?_)
                        clear E4571
                        replace H : St w Nil Z w4570 [vw (kSlice 3 (kInt .i64)) a0 [.slice p3 a0.length c4], vw (kSlice 38 k_api_Process) y35.Processes [.slice p37 y35.Processes.length c38], vw (kSlice 38 k_api_Process) y43.1.Processes [.slice p45 y43.1.Processes.length c46], vw (kSlice 38 k_api_Process) y79.1.Processes [.slice p81 y79.1.Processes.length c82], vw (kSlice 38 k_api_Process) x3781 [.slice p3782 x3781.length c3783]] [[blk g22 [.slice p3 a0.length c4, .int .i64 (y4541.2)] 59], [], [], [blk g59 [.int .i64 x3779, .int .i64 x3780, .slice p3782 x3781.length c3783] 28], [], [row 81 k_api_Descriptor y103.1.Open (.slice p105 y103.1.Open.length c106)], [blk g117 [.int .i64 y103.1.PID, .int .i64 y103.1.PPID, .int .i64 y103.1.UID, .int .i64 y103.1.EUID, .int .i64 y103.1.GID, .int .i64 y103.1.EGID, .int .i64 y103.1.AUID, .int .i64 y103.1.Session, .int .i64 y103.1.Cwd.Dev, .int .i64 y103.1.Cwd.Ino, .string y103.1.Comm, .string y103.1.Exe, .slice p105 y103.1.Open.length c106, .bool y103.1.Audited] 38], [row 38 k_api_Process y4546.1.Processes (.slice p4548 y4546.1.Processes.length c4549)], [blk g4560 [.int .i64 y4546.1.Next, .int .i64 y4546.1.NextSession, .slice p4548 y4546.1.Processes.length c4549] 28]] := H
                        refine wl_cons (wl_val E4575 rfl (rn_int E4575 rfl rfl rfl rfl) rfl fun a4576 E4577 => ?_)
                        clear E4575
                        refine wl_nil ?_
                        refine then_normal (hK4573 _ _ ?_)
                        rcases Bool.eq_false_or_eq_true (y4546.2 == 0) with hb4578 | hb4578
                        · replace h4572 := itT hb4578 h4572
                          refine wc_T E4577 rfl hb4578 ?_
                          refine wp_region_lit ?_
                          refine wl_cons (wl_val E4577 rfl (rn_ldN (i := 8) [.int .i64 y4546.1.Next, .int .i64 y4546.1.NextSession, .slice p4548 y4546.1.Processes.length c4549] E4577 H rfl Try.underlying28 rfl ti28 rfl rfl rfl rfl) rfl fun a4579 E4580 => ?_)
                          clear E4577
                          refine wl_cons (wl_store (i := 3) (vs := [.int .i64 y4546.1.Next, .int .i64 y4546.1.NextSession, .slice p4548 y4546.1.Processes.length c4549]) (cs' := [.int .i64 y4546.1.Next, .int .i64 y4546.1.NextSession, .slice p4548 y4546.1.Processes.length c4549]) E4580 H rfl rfl rfl rfl ti28 rfl rfl rfl rfl rfl rfl fun w4583 a4581 E4582 H' => ?_)
                          clear H E4580; have H := H'; clear H'
                          refine wl_nil ?_
                          refine block_normal ?_
                          replace H := H.share (i := 7) (A' := [vw (kSlice 38 k_api_Process) y4546.1.Processes [.slice p4548 y4546.1.Processes.length c4549]]) (by intro b h; exact h) rfl (fun Z S1 h => ⟨rowH.read h.1, trivial⟩)
                          obtain rfl := Option.some.inj h4572
                          replace H : St w Nil Z w4583 [vw (kSlice 3 (kInt .i64)) a0 [.slice p3 a0.length c4], vw (kSlice 38 k_api_Process) y35.Processes [.slice p37 y35.Processes.length c38], vw (kSlice 38 k_api_Process) y43.1.Processes [.slice p45 y43.1.Processes.length c46], vw (kSlice 38 k_api_Process) y79.1.Processes [.slice p81 y79.1.Processes.length c82], vw (kSlice 38 k_api_Process) x3781 [.slice p3782 x3781.length c3783], vw (kSlice 38 k_api_Process) y4546.1.Processes [.slice p4548 y4546.1.Processes.length c4549]] ([[blk g22 [.slice p3 a0.length c4, .int .i64 (y4541.2)] 59], [], [], [blk g59 [.int .i64 y4546.1.Next, .int .i64 y4546.1.NextSession, .slice p4548 y4546.1.Processes.length c4549] 28], [], [row 81 k_api_Descriptor y103.1.Open (.slice p105 y103.1.Open.length c106)], [blk g117 [.int .i64 y103.1.PID, .int .i64 y103.1.PPID, .int .i64 y103.1.UID, .int .i64 y103.1.EUID, .int .i64 y103.1.GID, .int .i64 y103.1.EGID, .int .i64 y103.1.AUID, .int .i64 y103.1.Session, .int .i64 y103.1.Cwd.Dev, .int .i64 y103.1.Cwd.Ino, .string y103.1.Comm, .string y103.1.Exe, .slice p105 y103.1.Open.length c106, .bool y103.1.Audited] 38]] ++ [[], [blk g4560 [.int .i64 y4546.1.Next, .int .i64 y4546.1.NextSession, .slice p4548 y4546.1.Processes.length c4549] 28]]) := H
                          exact ⟨x3776, (y4541.2), y4546.1.Next, y4546.1.NextSession, y4546.1.Processes, p4548, c4549, E4582.pick ⟨rfl, rfl, rfl, rfl, rfl, rfl, rfl, rfl, rfl, rfl, rfl, rfl, rfl, rfl, rfl, rfl, rfl, rfl, rfl, rfl, rfl, rfl, rfl, rfl, rfl, rfl, rfl, rfl, rfl, rfl, rfl, rfl, rfl, rfl, rfl, rfl, rfl, rfl, rfl, rfl, rfl, rfl, rfl, rfl, rfl, rfl, rfl, rfl, rfl, rfl, rfl, rfl, rfl, rfl, rfl, rfl, rfl, rfl, trivial⟩, H.front.sel (fun Z hA => ⟨(argHolds_get hA (k := 0) rfl), (argHolds_get hA (k := 1) rfl), (argHolds_get hA (k := 2) rfl), (argHolds_get hA (k := 3) rfl), (argHolds_get hA (k := 4) rfl), (argHolds_get hA (k := 5) rfl), trivial⟩), h3790⟩
                        · replace h4572 := itF hb4578 h4572
                          refine wc_F E4577 rfl hb4578 ?_
                          refine wp_skip ?_
                          refine block_normal ?_
                          obtain rfl := Option.some.inj h4572
                          replace H : St w Nil Z w4570 [vw (kSlice 3 (kInt .i64)) a0 [.slice p3 a0.length c4], vw (kSlice 38 k_api_Process) y35.Processes [.slice p37 y35.Processes.length c38], vw (kSlice 38 k_api_Process) y43.1.Processes [.slice p45 y43.1.Processes.length c46], vw (kSlice 38 k_api_Process) y79.1.Processes [.slice p81 y79.1.Processes.length c82], vw (kSlice 38 k_api_Process) x3781 [.slice p3782 x3781.length c3783]] ([[blk g22 [.slice p3 a0.length c4, .int .i64 (y4541.2)] 59], [], [], [blk g59 [.int .i64 x3779, .int .i64 x3780, .slice p3782 x3781.length c3783] 28], [], [row 81 k_api_Descriptor y103.1.Open (.slice p105 y103.1.Open.length c106)], [blk g117 [.int .i64 y103.1.PID, .int .i64 y103.1.PPID, .int .i64 y103.1.UID, .int .i64 y103.1.EUID, .int .i64 y103.1.GID, .int .i64 y103.1.EGID, .int .i64 y103.1.AUID, .int .i64 y103.1.Session, .int .i64 y103.1.Cwd.Dev, .int .i64 y103.1.Cwd.Ino, .string y103.1.Comm, .string y103.1.Exe, .slice p105 y103.1.Open.length c106, .bool y103.1.Audited] 38]] ++ [[row 38 k_api_Process y4546.1.Processes (.slice p4548 y4546.1.Processes.length c4549)], [blk g4560 [.int .i64 y4546.1.Next, .int .i64 y4546.1.NextSession, .slice p4548 y4546.1.Processes.length c4549] 28]]) := H
                          exact ⟨x3776, (y4541.2), x3779, x3780, x3781, p3782, c3783, E4577.pick ⟨rfl, rfl, rfl, rfl, rfl, rfl, rfl, rfl, rfl, rfl, rfl, rfl, rfl, rfl, rfl, rfl, rfl, rfl, rfl, rfl, rfl, rfl, rfl, rfl, rfl, rfl, rfl, rfl, rfl, rfl, rfl, rfl, rfl, rfl, rfl, rfl, rfl, rfl, rfl, rfl, rfl, rfl, rfl, rfl, rfl, rfl, rfl, rfl, rfl, rfl, rfl, rfl, rfl, rfl, rfl, rfl, rfl, rfl, trivial⟩, H.front.sel (fun Z hA => ⟨(argHolds_get hA (k := 0) rfl), (argHolds_get hA (k := 1) rfl), (argHolds_get hA (k := 2) rfl), (argHolds_get hA (k := 3) rfl), (argHolds_get hA (k := 4) rfl), (argHolds_get hA (k := 4) rfl), trivial⟩), h3790⟩
                      · refine wa_begin mixed (fun w_ => (∃ Z S, (blk g59 [.int .i64 x3779, .int .i64 x3780, .slice p3782 x3781.length c3783] 28).holds w_ Z S) ∧ True) [0] [3, 4, 8, 9] H rfl fun w4584 H' => ?_
                        clear H; have H := H'; clear H'
                        refine wa_takeS (i := 0) E4531 rfl (by kernel_rfl) (by kernel_rfl) (panic_join (panic_then (panic_block (panic_join (panic_then (panic_block (panic_then (panic_then (panic_block (panic_then panic_body)))))))))) rfl (fun w_ hS => rn_loadN (vs := [.int .i64 x3779, .int .i64 x3780, .slice p3782 x3781.length c3783]) E4531 rfl Try.underlying28 rfl ti28 rfl hS.1 rfl rfl) ⟨H.get (i := 3) (k := 0) rfl rfl, trivial⟩ rfl fun a4585 E4586 => ?_
                        clear E4531
                        refine wa_take (i := 1) E4586 rfl (by kernel_rfl) (panic_join (panic_then (panic_block (panic_join (panic_then (panic_block (panic_then (panic_then (panic_block (panic_then panic_body)))))))))) rfl (fun w_ => rn_move E4586 rfl rfl) rfl fun a4587 E4588 => ?_
                        clear E4586
                        refine wa_take (i := 2) E4588 rfl (by kernel_rfl) (panic_join (panic_then (panic_block (panic_join (panic_then (panic_block (panic_then (panic_then (panic_block (panic_then panic_body)))))))))) rfl (fun w_ => rn_move E4588 rfl rfl) rfl fun a4589 E4590 => ?_
                        clear E4588
                        refine wa_two (i := 3) (j := 8) rfl rfl (by kernel_rfl) (by kernel_rfl) ?_ ?_
                        · obtain ⟨y4591, hy4592, ho4298⟩ := bs ho4298
                          refine  (wl_funM (i := 0) E4590 H rfl (rn_call (args := [.pointer (some ⟨g22, 0, none⟩), .int .i64 9]) E4590 rfl rfl rfl Try.func17 nm17 rfl) rfl rfl (by exact fun Z hA => ⟨(argHolds_get hA (k := 0) rfl), trivial⟩) (C17 (⟨a0, (y4469.2)⟩ : kauditmake_Src) 9 g22 p3 c4 _ _ hy4592) ?_)
                          rintro v_ A_ I_ N_ w4595 a4593 ⟨rfl, rfl, rfl, rfl⟩ E4594 H'
                          replace H := H'; clear H' E4590
                          replace H : St w Nil Z w4595 [vw (kSlice 3 (kInt .i64)) a0 [.slice p3 a0.length c4], vw (kSlice 38 k_api_Process) y35.Processes [.slice p37 y35.Processes.length c38], vw (kSlice 38 k_api_Process) y43.1.Processes [.slice p45 y43.1.Processes.length c46], vw (kSlice 38 k_api_Process) y79.1.Processes [.slice p81 y79.1.Processes.length c82], vw (kSlice 38 k_api_Process) x3781 [.slice p3782 x3781.length c3783]] [[blk g22 [.slice p3 a0.length c4, .int .i64 (y4591.2)] 59], [], [], [blk g59 [.int .i64 x3779, .int .i64 x3780, .slice p3782 x3781.length c3783] 28], [], [row 81 k_api_Descriptor y103.1.Open (.slice p105 y103.1.Open.length c106)], [blk g117 [.int .i64 y103.1.PID, .int .i64 y103.1.PPID, .int .i64 y103.1.UID, .int .i64 y103.1.EUID, .int .i64 y103.1.GID, .int .i64 y103.1.EGID, .int .i64 y103.1.AUID, .int .i64 y103.1.Session, .int .i64 y103.1.Cwd.Dev, .int .i64 y103.1.Cwd.Ino, .string y103.1.Comm, .string y103.1.Exe, .slice p105 y103.1.Open.length c106, .bool y103.1.Audited] 38]] := H
                          refine ⟨fun _ => ⟨H.get (i := 3) (k := 0) rfl rfl, trivial⟩, ?_⟩
                          refine wa_two (i := 4) (j := 8) rfl rfl (by kernel_rfl) (by kernel_rfl) ?_ ?_
                          · obtain ⟨y4596, hy4597, ho4298⟩ := bs ho4298
                            refine  (wl_fun E4594 H rfl (rn_call (args := [.agg #[.int .i64 x3779, .int .i64 x3780, .slice p3782 x3781.length c3783], .int .i64 x3776, .int .i64 y4591.1]) E4594 rfl rfl rfl Try.func12 nm12 rfl) rfl (by exact fun Z hA => ⟨(argHolds_get hA (k := 4) rfl), trivial⟩) (C12 (⟨x3779, x3780, x3781⟩ : api_Table) x3776 y4591.1 p3782 c3783 _ _ hy4597) ?_)
                            rintro v_ A_ N_ w4603 a4601 ⟨p4598, c4599, rfl, rfl, rfl⟩ E4602 H'
                            replace H := H'; clear H' E4594
                            replace H : St w Nil Z w4603 [vw (kSlice 3 (kInt .i64)) a0 [.slice p3 a0.length c4], vw (kSlice 38 k_api_Process) y35.Processes [.slice p37 y35.Processes.length c38], vw (kSlice 38 k_api_Process) y43.1.Processes [.slice p45 y43.1.Processes.length c46], vw (kSlice 38 k_api_Process) y79.1.Processes [.slice p81 y79.1.Processes.length c82], vw (kSlice 38 k_api_Process) x3781 [.slice p3782 x3781.length c3783]] [[blk g22 [.slice p3 a0.length c4, .int .i64 (y4591.2)] 59], [], [], [blk g59 [.int .i64 x3779, .int .i64 x3780, .slice p3782 x3781.length c3783] 28], [], [row 81 k_api_Descriptor y103.1.Open (.slice p105 y103.1.Open.length c106)], [blk g117 [.int .i64 y103.1.PID, .int .i64 y103.1.PPID, .int .i64 y103.1.UID, .int .i64 y103.1.EUID, .int .i64 y103.1.GID, .int .i64 y103.1.EGID, .int .i64 y103.1.AUID, .int .i64 y103.1.Session, .int .i64 y103.1.Cwd.Dev, .int .i64 y103.1.Cwd.Ino, .string y103.1.Comm, .string y103.1.Exe, .slice p105 y103.1.Open.length c106, .bool y103.1.Audited] 38], [row 38 k_api_Process y4596.1.Processes (.slice p4598 y4596.1.Processes.length c4599)]] := H
                            refine ⟨fun h_ => (needs_no (by kernel_rfl) h_).elim, ?_⟩
                            refine wa_take (i := 5) E4602 rfl (by kernel_rfl) (panic_join (panic_then (panic_block (panic_join (panic_then (panic_block (panic_then (panic_then (panic_block (panic_then panic_body)))))))))) rfl (fun w_ => rn_move E4602 rfl rfl) rfl fun a4604 E4605 => ?_
                            clear E4602
                            refine wa_take (i := 6) E4605 rfl (by kernel_rfl) (panic_join (panic_then (panic_block (panic_join (panic_then (panic_block (panic_then (panic_then (panic_block (panic_then panic_body)))))))))) rfl (fun w_ => rn_extract E4605 rfl rfl rfl) rfl fun a4606 E4607 => ?_
                            clear E4605
                            refine wa_take (i := 7) E4607 rfl (by kernel_rfl) (panic_join (panic_then (panic_block (panic_join (panic_then (panic_block (panic_then (panic_then (panic_block (panic_then panic_body)))))))))) rfl (fun w_ => rn_extract E4607 rfl rfl rfl) rfl fun a4608 E4609 => ?_
                            clear E4607
                            refine wa_only (i := 8) rfl (by kernel_rfl) (by kernel_rfl) (wl_alloc (cs := [.int .i64 0, .int .i64 0, .slice none 0 0]) E4609 H rfl ti28 rfl rfl fun g4610 w4611 a4612 E4613 H' => ?_)
                            clear H E4609; have H := H'; clear H'
                            refine ⟨fun _ => ⟨H.get (i := 3) (k := 0) rfl rfl, trivial⟩, ?_⟩
                            refine wa_only (i := 9) rfl (by kernel_rfl) (by kernel_rfl) (wl_store (i := 8) (vs := [.int .i64 y4596.1.Next, .int .i64 y4596.1.NextSession, .slice p4598 y4596.1.Processes.length c4599]) (cs' := [.int .i64 y4596.1.Next, .int .i64 y4596.1.NextSession, .slice p4598 y4596.1.Processes.length c4599]) E4613 H rfl rfl rfl rfl ti28 rfl rfl rfl rfl rfl rfl fun w4616 a4614 E4615 H' => ?_)
                            clear H E4613; have H := H'; clear H'
                            refine ⟨fun h_ => (needs_no (by kernel_rfl) h_).elim, ?_⟩
                            refine wa_take (i := 10) E4615 rfl (by kernel_rfl) (panic_join (panic_then (panic_block (panic_join (panic_then (panic_block (panic_then (panic_then (panic_block (panic_then panic_body)))))))))) rfl (fun w_ => rn_assign E4615 rfl rfl) rfl fun a4617 E4618 => ?_
                            clear E4615
                            refine wa_done (by kernel_rfl) ?_
                            exact ⟨g4610, y4596, p4598, c4599, y4591, E4618.pick ⟨rfl, rfl, rfl, rfl, rfl, rfl, rfl, rfl, rfl, rfl, rfl, rfl, rfl, rfl, rfl, rfl, rfl, rfl, rfl, rfl, rfl, rfl, rfl, rfl, rfl, rfl, rfl, rfl, rfl, rfl, rfl, rfl, rfl, rfl, rfl, rfl, rfl, rfl, rfl, rfl, rfl, rfl, rfl, rfl, rfl, rfl, rfl, rfl, rfl, rfl, rfl, rfl, rfl, rfl, rfl, rfl, rfl, rfl, rfl, rfl, rfl, rfl, rfl, rfl, rfl, rfl, rfl, rfl, rfl, rfl, rfl, rfl, rfl, rfl, trivial⟩, H.sel (fun Z hA => ⟨(argHolds_get hA (k := 0) rfl), (argHolds_get hA (k := 1) rfl), (argHolds_get hA (k := 2) rfl), (argHolds_get hA (k := 3) rfl), (argHolds_get hA (k := 4) rfl), trivial⟩), ho4298⟩
                          · refine  (wl_alloc (cs := [.int .i64 0, .int .i64 0, .slice none 0 0]) E4594 H rfl ti28 rfl rfl fun g4619 w4620 a4621 E4622 H' => ?_)
                            clear H E4594; have H := H'; clear H'
                            replace H : St w Nil Z w4620 [vw (kSlice 3 (kInt .i64)) a0 [.slice p3 a0.length c4], vw (kSlice 38 k_api_Process) y35.Processes [.slice p37 y35.Processes.length c38], vw (kSlice 38 k_api_Process) y43.1.Processes [.slice p45 y43.1.Processes.length c46], vw (kSlice 38 k_api_Process) y79.1.Processes [.slice p81 y79.1.Processes.length c82], vw (kSlice 38 k_api_Process) x3781 [.slice p3782 x3781.length c3783]] [[blk g22 [.slice p3 a0.length c4, .int .i64 (y4591.2)] 59], [], [], [blk g59 [.int .i64 x3779, .int .i64 x3780, .slice p3782 x3781.length c3783] 28], [], [row 81 k_api_Descriptor y103.1.Open (.slice p105 y103.1.Open.length c106)], [blk g117 [.int .i64 y103.1.PID, .int .i64 y103.1.PPID, .int .i64 y103.1.UID, .int .i64 y103.1.EUID, .int .i64 y103.1.GID, .int .i64 y103.1.EGID, .int .i64 y103.1.AUID, .int .i64 y103.1.Session, .int .i64 y103.1.Cwd.Dev, .int .i64 y103.1.Cwd.Ino, .string y103.1.Comm, .string y103.1.Exe, .slice p105 y103.1.Open.length c106, .bool y103.1.Audited] 38], [blk g4619 [.int .i64 0, .int .i64 0, .slice none 0 0] 28]] := H
                            refine ⟨fun _ => ⟨H.get (i := 3) (k := 0) rfl rfl, trivial⟩, ?_⟩
                            obtain ⟨y4623, hy4624, ho4298⟩ := bs ho4298
                            refine wa_only (i := 4) rfl (by kernel_rfl) (by kernel_rfl) (wl_fun E4622 H rfl (rn_call (args := [.agg #[.int .i64 x3779, .int .i64 x3780, .slice p3782 x3781.length c3783], .int .i64 x3776, .int .i64 y4591.1]) E4622 rfl rfl rfl Try.func12 nm12 rfl) rfl (by exact fun Z hA => ⟨(argHolds_get hA (k := 4) rfl), trivial⟩) (C12 (⟨x3779, x3780, x3781⟩ : api_Table) x3776 y4591.1 p3782 c3783 _ _ hy4624) ?_)
                            rintro v_ A_ N_ w4630 a4628 ⟨p4625, c4626, rfl, rfl, rfl⟩ E4629 H'
                            replace H := H'; clear H' E4622
                            refine ⟨fun h_ => (needs_no (by kernel_rfl) h_).elim, ?_⟩
                            refine wa_take (i := 5) E4629 rfl (by kernel_rfl) (panic_join (panic_then (panic_block (panic_join (panic_then (panic_block (panic_then (panic_then (panic_block (panic_then panic_body)))))))))) rfl (fun w_ => rn_move E4629 rfl rfl) rfl fun a4631 E4632 => ?_
                            clear E4629
                            refine wa_take (i := 6) E4632 rfl (by kernel_rfl) (panic_join (panic_then (panic_block (panic_join (panic_then (panic_block (panic_then (panic_then (panic_block (panic_then panic_body)))))))))) rfl (fun w_ => rn_extract E4632 rfl rfl rfl) rfl fun a4633 E4634 => ?_
                            clear E4632
                            refine wa_take (i := 7) E4634 rfl (by kernel_rfl) (panic_join (panic_then (panic_block (panic_join (panic_then (panic_block (panic_then (panic_then (panic_block (panic_then panic_body)))))))))) rfl (fun w_ => rn_extract E4634 rfl rfl rfl) rfl fun a4635 E4636 => ?_
                            clear E4634
                            refine wa_only (i := 9) rfl (by kernel_rfl) (by kernel_rfl) (wl_store (i := 7) (vs := [.int .i64 y4623.1.Next, .int .i64 y4623.1.NextSession, .slice p4625 y4623.1.Processes.length c4626]) (cs' := [.int .i64 y4623.1.Next, .int .i64 y4623.1.NextSession, .slice p4625 y4623.1.Processes.length c4626]) E4636 H rfl rfl rfl rfl ti28 rfl rfl rfl rfl rfl rfl fun w4639 a4637 E4638 H' => ?_)
                            clear H E4636; have H := H'; clear H'
                            refine ⟨fun h_ => (needs_no (by kernel_rfl) h_).elim, ?_⟩
                            refine wa_take (i := 10) E4638 rfl (by kernel_rfl) (panic_join (panic_then (panic_block (panic_join (panic_then (panic_block (panic_then (panic_then (panic_block (panic_then panic_body)))))))))) rfl (fun w_ => rn_assign E4638 rfl rfl) rfl fun a4640 E4641 => ?_
                            clear E4638
                            refine wa_done (by kernel_rfl) ?_
                            replace H := H.toEnd 8 rfl
                            replace H := H.toEnd 7 rfl
                            replace H : St w Nil Z w4639 [vw (kSlice 3 (kInt .i64)) a0 [.slice p3 a0.length c4], vw (kSlice 38 k_api_Process) y35.Processes [.slice p37 y35.Processes.length c38], vw (kSlice 38 k_api_Process) y43.1.Processes [.slice p45 y43.1.Processes.length c46], vw (kSlice 38 k_api_Process) y79.1.Processes [.slice p81 y79.1.Processes.length c82], vw (kSlice 38 k_api_Process) x3781 [.slice p3782 x3781.length c3783]] [[blk g22 [.slice p3 a0.length c4, .int .i64 (y4591.2)] 59], [], [], [blk g59 [.int .i64 x3779, .int .i64 x3780, .slice p3782 x3781.length c3783] 28], [], [row 81 k_api_Descriptor y103.1.Open (.slice p105 y103.1.Open.length c106)], [blk g117 [.int .i64 y103.1.PID, .int .i64 y103.1.PPID, .int .i64 y103.1.UID, .int .i64 y103.1.EUID, .int .i64 y103.1.GID, .int .i64 y103.1.EGID, .int .i64 y103.1.AUID, .int .i64 y103.1.Session, .int .i64 y103.1.Cwd.Dev, .int .i64 y103.1.Cwd.Ino, .string y103.1.Comm, .string y103.1.Exe, .slice p105 y103.1.Open.length c106, .bool y103.1.Audited] 38], [row 38 k_api_Process y4623.1.Processes (.slice p4625 y4623.1.Processes.length c4626)], [blk g4619 [.int .i64 y4623.1.Next, .int .i64 y4623.1.NextSession, .slice p4625 y4623.1.Processes.length c4626] 28]] := H
                            exact ⟨g4619, y4623, p4625, c4626, y4591, E4641.pick ⟨rfl, rfl, rfl, rfl, rfl, rfl, rfl, rfl, rfl, rfl, rfl, rfl, rfl, rfl, rfl, rfl, rfl, rfl, rfl, rfl, rfl, rfl, rfl, rfl, rfl, rfl, rfl, rfl, rfl, rfl, rfl, rfl, rfl, rfl, rfl, rfl, rfl, rfl, rfl, rfl, rfl, rfl, rfl, rfl, rfl, rfl, rfl, rfl, rfl, rfl, rfl, rfl, rfl, rfl, rfl, rfl, rfl, rfl, rfl, rfl, rfl, rfl, rfl, rfl, rfl, rfl, rfl, rfl, rfl, rfl, rfl, rfl, rfl, rfl, trivial⟩, H.sel (fun Z hA => ⟨(argHolds_get hA (k := 0) rfl), (argHolds_get hA (k := 1) rfl), (argHolds_get hA (k := 2) rfl), (argHolds_get hA (k := 3) rfl), (argHolds_get hA (k := 4) rfl), trivial⟩), ho4298⟩
                        · refine  (wl_alloc (cs := [.int .i64 0, .int .i64 0, .slice none 0 0]) E4590 H rfl ti28 rfl rfl fun g4642 w4643 a4644 E4645 H' => ?_)
                          clear H E4590; have H := H'; clear H'
                          refine ⟨fun _ => ⟨H.get (i := 3) (k := 0) rfl rfl, trivial⟩, ?_⟩
                          obtain ⟨y4646, hy4647, ho4298⟩ := bs ho4298
                          refine wa_only (i := 3) rfl (by kernel_rfl) (by kernel_rfl) (wl_funM (i := 0) E4645 H rfl (rn_call (args := [.pointer (some ⟨g22, 0, none⟩), .int .i64 9]) E4645 rfl rfl rfl Try.func17 nm17 rfl) rfl rfl (by exact fun Z hA => ⟨(argHolds_get hA (k := 0) rfl), trivial⟩) (C17 (⟨a0, (y4469.2)⟩ : kauditmake_Src) 9 g22 p3 c4 _ _ hy4647) ?_)
                          rintro v_ A_ I_ N_ w4650 a4648 ⟨rfl, rfl, rfl, rfl⟩ E4649 H'
                          replace H := H'; clear H' E4645
                          replace H : St w Nil Z w4650 [vw (kSlice 3 (kInt .i64)) a0 [.slice p3 a0.length c4], vw (kSlice 38 k_api_Process) y35.Processes [.slice p37 y35.Processes.length c38], vw (kSlice 38 k_api_Process) y43.1.Processes [.slice p45 y43.1.Processes.length c46], vw (kSlice 38 k_api_Process) y79.1.Processes [.slice p81 y79.1.Processes.length c82], vw (kSlice 38 k_api_Process) x3781 [.slice p3782 x3781.length c3783]] [[blk g22 [.slice p3 a0.length c4, .int .i64 (y4646.2)] 59], [], [], [blk g59 [.int .i64 x3779, .int .i64 x3780, .slice p3782 x3781.length c3783] 28], [], [row 81 k_api_Descriptor y103.1.Open (.slice p105 y103.1.Open.length c106)], [blk g117 [.int .i64 y103.1.PID, .int .i64 y103.1.PPID, .int .i64 y103.1.UID, .int .i64 y103.1.EUID, .int .i64 y103.1.GID, .int .i64 y103.1.EGID, .int .i64 y103.1.AUID, .int .i64 y103.1.Session, .int .i64 y103.1.Cwd.Dev, .int .i64 y103.1.Cwd.Ino, .string y103.1.Comm, .string y103.1.Exe, .slice p105 y103.1.Open.length c106, .bool y103.1.Audited] 38], [blk g4642 [.int .i64 0, .int .i64 0, .slice none 0 0] 28]] := H
                          replace H : St w Nil Z w4650 [vw (kSlice 3 (kInt .i64)) a0 [.slice p3 a0.length c4], vw (kSlice 38 k_api_Process) y35.Processes [.slice p37 y35.Processes.length c38], vw (kSlice 38 k_api_Process) y43.1.Processes [.slice p45 y43.1.Processes.length c46], vw (kSlice 38 k_api_Process) y79.1.Processes [.slice p81 y79.1.Processes.length c82], vw (kSlice 38 k_api_Process) x3781 [.slice p3782 x3781.length c3783]] [[blk g22 [.slice p3 a0.length c4, .int .i64 (y4646.2)] 59], [], [], [blk g59 [.int .i64 x3779, .int .i64 x3780, .slice p3782 x3781.length c3783] 28], [], [row 81 k_api_Descriptor y103.1.Open (.slice p105 y103.1.Open.length c106)], [blk g117 [.int .i64 y103.1.PID, .int .i64 y103.1.PPID, .int .i64 y103.1.UID, .int .i64 y103.1.EUID, .int .i64 y103.1.GID, .int .i64 y103.1.EGID, .int .i64 y103.1.AUID, .int .i64 y103.1.Session, .int .i64 y103.1.Cwd.Dev, .int .i64 y103.1.Cwd.Ino, .string y103.1.Comm, .string y103.1.Exe, .slice p105 y103.1.Open.length c106, .bool y103.1.Audited] 38], [blk g4642 [.int .i64 0, .int .i64 0, .slice none 0 0] 28]] := H
                          refine ⟨fun _ => ⟨H.get (i := 3) (k := 0) rfl rfl, trivial⟩, ?_⟩
                          obtain ⟨y4651, hy4652, ho4298⟩ := bs ho4298
                          refine wa_only (i := 4) rfl (by kernel_rfl) (by kernel_rfl) (wl_fun E4649 H rfl (rn_call (args := [.agg #[.int .i64 x3779, .int .i64 x3780, .slice p3782 x3781.length c3783], .int .i64 x3776, .int .i64 y4646.1]) E4649 rfl rfl rfl Try.func12 nm12 rfl) rfl (by exact fun Z hA => ⟨(argHolds_get hA (k := 4) rfl), trivial⟩) (C12 (⟨x3779, x3780, x3781⟩ : api_Table) x3776 y4646.1 p3782 c3783 _ _ hy4652) ?_)
                          rintro v_ A_ N_ w4658 a4656 ⟨p4653, c4654, rfl, rfl, rfl⟩ E4657 H'
                          replace H := H'; clear H' E4649
                          refine ⟨fun h_ => (needs_no (by kernel_rfl) h_).elim, ?_⟩
                          refine wa_take (i := 5) E4657 rfl (by kernel_rfl) (panic_join (panic_then (panic_block (panic_join (panic_then (panic_block (panic_then (panic_then (panic_block (panic_then panic_body)))))))))) rfl (fun w_ => rn_move E4657 rfl rfl) rfl fun a4659 E4660 => ?_
                          clear E4657
                          refine wa_take (i := 6) E4660 rfl (by kernel_rfl) (panic_join (panic_then (panic_block (panic_join (panic_then (panic_block (panic_then (panic_then (panic_block (panic_then panic_body)))))))))) rfl (fun w_ => rn_extract E4660 rfl rfl rfl) rfl fun a4661 E4662 => ?_
                          clear E4660
                          refine wa_take (i := 7) E4662 rfl (by kernel_rfl) (panic_join (panic_then (panic_block (panic_join (panic_then (panic_block (panic_then (panic_then (panic_block (panic_then panic_body)))))))))) rfl (fun w_ => rn_extract E4662 rfl rfl rfl) rfl fun a4663 E4664 => ?_
                          clear E4662
                          refine wa_only (i := 9) rfl (by kernel_rfl) (by kernel_rfl) (wl_store (i := 7) (vs := [.int .i64 y4651.1.Next, .int .i64 y4651.1.NextSession, .slice p4653 y4651.1.Processes.length c4654]) (cs' := [.int .i64 y4651.1.Next, .int .i64 y4651.1.NextSession, .slice p4653 y4651.1.Processes.length c4654]) E4664 H rfl rfl rfl rfl ti28 rfl rfl rfl rfl rfl rfl fun w4667 a4665 E4666 H' => ?_)
                          clear H E4664; have H := H'; clear H'
                          refine ⟨fun h_ => (needs_no (by kernel_rfl) h_).elim, ?_⟩
                          refine wa_take (i := 10) E4666 rfl (by kernel_rfl) (panic_join (panic_then (panic_block (panic_join (panic_then (panic_block (panic_then (panic_then (panic_block (panic_then panic_body)))))))))) rfl (fun w_ => rn_assign E4666 rfl rfl) rfl fun a4668 E4669 => ?_
                          clear E4666
                          refine wa_done (by kernel_rfl) ?_
                          replace H := H.toEnd 8 rfl
                          replace H := H.toEnd 7 rfl
                          replace H : St w Nil Z w4667 [vw (kSlice 3 (kInt .i64)) a0 [.slice p3 a0.length c4], vw (kSlice 38 k_api_Process) y35.Processes [.slice p37 y35.Processes.length c38], vw (kSlice 38 k_api_Process) y43.1.Processes [.slice p45 y43.1.Processes.length c46], vw (kSlice 38 k_api_Process) y79.1.Processes [.slice p81 y79.1.Processes.length c82], vw (kSlice 38 k_api_Process) x3781 [.slice p3782 x3781.length c3783]] [[blk g22 [.slice p3 a0.length c4, .int .i64 (y4646.2)] 59], [], [], [blk g59 [.int .i64 x3779, .int .i64 x3780, .slice p3782 x3781.length c3783] 28], [], [row 81 k_api_Descriptor y103.1.Open (.slice p105 y103.1.Open.length c106)], [blk g117 [.int .i64 y103.1.PID, .int .i64 y103.1.PPID, .int .i64 y103.1.UID, .int .i64 y103.1.EUID, .int .i64 y103.1.GID, .int .i64 y103.1.EGID, .int .i64 y103.1.AUID, .int .i64 y103.1.Session, .int .i64 y103.1.Cwd.Dev, .int .i64 y103.1.Cwd.Ino, .string y103.1.Comm, .string y103.1.Exe, .slice p105 y103.1.Open.length c106, .bool y103.1.Audited] 38], [row 38 k_api_Process y4651.1.Processes (.slice p4653 y4651.1.Processes.length c4654)], [blk g4642 [.int .i64 y4651.1.Next, .int .i64 y4651.1.NextSession, .slice p4653 y4651.1.Processes.length c4654] 28]] := H
                          exact ⟨g4642, y4651, p4653, c4654, y4646, E4669.pick ⟨rfl, rfl, rfl, rfl, rfl, rfl, rfl, rfl, rfl, rfl, rfl, rfl, rfl, rfl, rfl, rfl, rfl, rfl, rfl, rfl, rfl, rfl, rfl, rfl, rfl, rfl, rfl, rfl, rfl, rfl, rfl, rfl, rfl, rfl, rfl, rfl, rfl, rfl, rfl, rfl, rfl, rfl, rfl, rfl, rfl, rfl, rfl, rfl, rfl, rfl, rfl, rfl, rfl, rfl, rfl, rfl, rfl, rfl, rfl, rfl, rfl, rfl, rfl, rfl, rfl, rfl, rfl, rfl, rfl, rfl, rfl, rfl, rfl, rfl, trivial⟩, H.sel (fun Z hA => ⟨(argHolds_get hA (k := 0) rfl), (argHolds_get hA (k := 1) rfl), (argHolds_get hA (k := 2) rfl), (argHolds_get hA (k := 3) rfl), (argHolds_get hA (k := 4) rfl), trivial⟩), ho4298⟩
                    · replace ho4298 := itF hb4532 ho4298
                      refine wc_F E4531 rfl hb4532 ?_
                      refine wp_seq_k fun _ hK4670 => ?_
                      refine wp_region_lit ?_
                      refine wl_cons (wl_val E4531 rfl (rn_int E4531 rfl rfl rfl rfl) rfl fun a4671 E4672 => ?_)
                      clear E4531
                      refine wl_cons (wl_val E4672 rfl (rn_assign E4672 rfl rfl) rfl fun a4673 E4674 => ?_)
                      clear E4672
                      refine wl_nil ?_
                      refine then_normal (hK4670 _ _ ?_)
                      rcases Bool.eq_false_or_eq_true (y4469.1 == 2) with hb4675 | hb4675
                      · replace ho4298 := itT hb4675 ho4298
                        refine wc_T E4674 rfl hb4675 ?_
                        refine wp_seq_k fun _ hK4676 => ?_
                        refine wa_join (fun a_ w_ => ∃ (g4703 : Nat), ∃ (y4689 : api_Table × Int), ∃ (p4691 : Option Addr), ∃ (c4692 : Nat), ∃ (y4684 : Int × Int), Env 164 a_ [(0, .slice p3 a0.length c4), (1, .int .u16 a1), (4, .bool false), (5, .pointer (some ⟨g22, 0, none⟩)), (6, .pointer (some ⟨g59, 0, none⟩)), (7, .int .i64 x3776), (8, .int .i64 y43.2.2), (9, .int .i64 y79.2), (10, .pointer (some ⟨g117, 0, none⟩)), (11, .bool y103.2), (12, .int .i64 x3777), (18, .pointer (some ⟨g4703, 0, none⟩)), (19, .int .i64 y4689.2), (26, .slice p3 a0.length c4), (27, .pointer (some ⟨g22, 0, none⟩)), (28, .tuple #[.agg #[.int .i64 y43.1.Next, .int .i64 y43.1.NextSession, .slice p45 y43.1.Processes.length c46], .int .i64 y43.2.1, .int .i64 y43.2.2]), (29, .agg #[.int .i64 0, .int .i64 1]), (30, .agg #[.int .i64 y35.Next, .int .i64 y35.NextSession, .slice p37 y35.Processes.length c38]), (31, .tuple #[.agg #[.int .i64 y43.1.Next, .int .i64 y43.1.NextSession, .slice p45 y43.1.Processes.length c46], .int .i64 y43.2.1, .int .i64 y43.2.2]), (32, .agg #[.int .i64 y43.1.Next, .int .i64 y43.1.NextSession, .slice p45 y43.1.Processes.length c46]), (33, .int .i64 y43.2.1), (34, .int .i64 y43.2.2), (35, .tuple #[.agg #[.int .i64 y79.1.Next, .int .i64 y79.1.NextSession, .slice p81 y79.1.Processes.length c82], .int .i64 y79.2]), (36, .agg #[.int .i64 y43.1.Next, .int .i64 y43.1.NextSession, .slice p45 y43.1.Processes.length c46]), (37, .int .i64 y43.2.1), (38, .int .u16 a1), (39, .int .i64 (IntKind.wrap .i64 a1)), (40, .tuple #[.agg #[.int .i64 y79.1.Next, .int .i64 y79.1.NextSession, .slice p81 y79.1.Processes.length c82], .int .i64 y79.2]), (41, .agg #[.int .i64 y79.1.Next, .int .i64 y79.1.NextSession, .slice p81 y79.1.Processes.length c82]), (42, .int .i64 y79.2), (43, .tuple #[.agg #[.int .i64 y103.1.PID, .int .i64 y103.1.PPID, .int .i64 y103.1.UID, .int .i64 y103.1.EUID, .int .i64 y103.1.GID, .int .i64 y103.1.EGID, .int .i64 y103.1.AUID, .int .i64 y103.1.Session, .int .i64 y103.1.Cwd.Dev, .int .i64 y103.1.Cwd.Ino, .string y103.1.Comm, .string y103.1.Exe, .slice p105 y103.1.Open.length c106, .bool y103.1.Audited], .bool y103.2]), (44, .agg #[.int .i64 y79.1.Next, .int .i64 y79.1.NextSession, .slice p81 y79.1.Processes.length c82]), (45, .int .i64 y43.2.1), (46, .tuple #[.agg #[.int .i64 y103.1.PID, .int .i64 y103.1.PPID, .int .i64 y103.1.UID, .int .i64 y103.1.EUID, .int .i64 y103.1.GID, .int .i64 y103.1.EGID, .int .i64 y103.1.AUID, .int .i64 y103.1.Session, .int .i64 y103.1.Cwd.Dev, .int .i64 y103.1.Cwd.Ino, .string y103.1.Comm, .string y103.1.Exe, .slice p105 y103.1.Open.length c106, .bool y103.1.Audited], .bool y103.2]), (47, .agg #[.int .i64 y103.1.PID, .int .i64 y103.1.PPID, .int .i64 y103.1.UID, .int .i64 y103.1.EUID, .int .i64 y103.1.GID, .int .i64 y103.1.EGID, .int .i64 y103.1.AUID, .int .i64 y103.1.Session, .int .i64 y103.1.Cwd.Dev, .int .i64 y103.1.Cwd.Ino, .string y103.1.Comm, .string y103.1.Exe, .slice p105 y103.1.Open.length c106, .bool y103.1.Audited]), (48, .bool y103.2), (49, .int .i64 y43.2.2), (50, .bool (y43.2.2 != 0)), (51, .bool (y43.2.2 != 0)), (52, .int .i64 y79.2), (53, .bool (y79.2 != 0)), (54, .bool (y79.2 != 0)), (55, .bool (y79.2 != 0)), (56, .bool y103.2), (57, .bool (!y103.2)), (58, .bool (!y103.2)), (59, .bool (!y103.2)), (60, .pointer (some ⟨g117, 6, none⟩)), (61, .int .i64 y103.1.AUID), (62, .int .u16 a1), (63, .int .i64 (IntKind.wrap .i64 a1)), (64, .bool (y103.1.AUID != (IntKind.wrap .i64 a1))), (65, .bool (y103.1.AUID != (IntKind.wrap .i64 a1))), (66, .bool (y103.1.AUID != (IntKind.wrap .i64 a1))), (67, .pointer (some ⟨g117, 7, none⟩)), (68, .int .i64 y103.1.Session), (69, .bool (y103.1.Session == 4294967295)), (70, .bool (y103.1.Session == 4294967295)), (71, .int .i64 x3777), (72, .bool (decide (x3777 < 8))), (75, .pointer (some ⟨g22, 0, none⟩)), (76, .int .i64 y4469.1), (77, .bool (y4469.1 == 0)), (78, .bool (y4469.1 == 0)), (90, .bool (y4469.1 == 1)), (91, .bool (y4469.1 == 1)), (103, .bool (y4469.1 == 2)), (104, .bool (y4469.1 == 2)), (105, .tuple #[.agg #[.int .i64 y4689.1.Next, .int .i64 y4689.1.NextSession, .slice p4691 y4689.1.Processes.length c4692], .int .i64 y4689.2]), (106, .agg #[.int .i64 x3779, .int .i64 x3780, .slice p3782 x3781.length c3783]), (107, .int .i64 x3776), (108, .pointer (some ⟨g22, 0, none⟩)), (109, .int .i64 y4684.1), (110, .tuple #[.agg #[.int .i64 y4689.1.Next, .int .i64 y4689.1.NextSession, .slice p4691 y4689.1.Processes.length c4692], .int .i64 y4689.2]), (111, .agg #[.int .i64 y4689.1.Next, .int .i64 y4689.1.NextSession, .slice p4691 y4689.1.Processes.length c4692]), (112, .int .i64 y4689.2)] ∧ St w Nil Z w_ [vw (kSlice 3 (kInt .i64)) a0 [.slice p3 a0.length c4], vw (kSlice 38 k_api_Process) y35.Processes [.slice p37 y35.Processes.length c38], vw (kSlice 38 k_api_Process) y43.1.Processes [.slice p45 y43.1.Processes.length c46], vw (kSlice 38 k_api_Process) y79.1.Processes [.slice p81 y79.1.Processes.length c82], vw (kSlice 38 k_api_Process) x3781 [.slice p3782 x3781.length c3783]] [[blk g22 [.slice p3 a0.length c4, .int .i64 (y4684.2)] 59], [], [], [blk g59 [.int .i64 x3779, .int .i64 x3780, .slice p3782 x3781.length c3783] 28], [], [row 81 k_api_Descriptor y103.1.Open (.slice p105 y103.1.Open.length c106)], [blk g117 [.int .i64 y103.1.PID, .int .i64 y103.1.PPID, .int .i64 y103.1.UID, .int .i64 y103.1.EUID, .int .i64 y103.1.GID, .int .i64 y103.1.EGID, .int .i64 y103.1.AUID, .int .i64 y103.1.Session, .int .i64 y103.1.Cwd.Dev, .int .i64 y103.1.Cwd.Ino, .string y103.1.Comm, .string y103.1.Exe, .slice p105 y103.1.Open.length c106, .bool y103.1.Audited] 38], [row 38 k_api_Process y4689.1.Processes (.slice p4691 y4689.1.Processes.length c4692)], [blk g4703 [.int .i64 y4689.1.Next, .int .i64 y4689.1.NextSession, .slice p4691 y4689.1.Processes.length c4692] 28]] ∧ (if (y4689.2 == 0) = true then (some (x3776, (y4684.2), y4689.1.Next, y4689.1.NextSession, y4689.1.Processes)) else (some (x3776, (y4684.2), x3779, x3780, x3781))) = some o4297) ?_ ?_
                        · rintro a4712 w4713 ⟨g4703, y4689, p4691, c4692, y4684, E4714, H', h4715⟩
                          clear H E4674; have H := H'; clear H'
                          refine then_normal (hK4676 _ _ ?_)
                          refine wp_seq_k fun _ hK4716 => ?_
                          refine wp_region_lit ?_
                          refine wl_cons (wl_val E4714 rfl (rn_move E4714 rfl rfl) rfl fun a4717 E4718 => ?_)
                          clear E4714
                          replace H : St w Nil Z w4713 [vw (kSlice 3 (kInt .i64)) a0 [.slice p3 a0.length c4], vw (kSlice 38 k_api_Process) y35.Processes [.slice p37 y35.Processes.length c38], vw (kSlice 38 k_api_Process) y43.1.Processes [.slice p45 y43.1.Processes.length c46], vw (kSlice 38 k_api_Process) y79.1.Processes [.slice p81 y79.1.Processes.length c82], vw (kSlice 38 k_api_Process) x3781 [.slice p3782 x3781.length c3783]] [[blk g22 [.slice p3 a0.length c4, .int .i64 (y4684.2)] 59], [], [], [blk g59 [.int .i64 x3779, .int .i64 x3780, .slice p3782 x3781.length c3783] 28], [], [row 81 k_api_Descriptor y103.1.Open (.slice p105 y103.1.Open.length c106)], [blk g117 [.int .i64 y103.1.PID, .int .i64 y103.1.PPID, .int .i64 y103.1.UID, .int .i64 y103.1.EUID, .int .i64 y103.1.GID, .int .i64 y103.1.EGID, .int .i64 y103.1.AUID, .int .i64 y103.1.Session, .int .i64 y103.1.Cwd.Dev, .int .i64 y103.1.Cwd.Ino, .string y103.1.Comm, .string y103.1.Exe, .slice p105 y103.1.Open.length c106, .bool y103.1.Audited] 38], [row 38 k_api_Process y4689.1.Processes (.slice p4691 y4689.1.Processes.length c4692)], [blk g4703 [.int .i64 y4689.1.Next, .int .i64 y4689.1.NextSession, .slice p4691 y4689.1.Processes.length c4692] 28]] := H
                          refine wl_cons (wl_val E4718 rfl (rn_int E4718 rfl rfl rfl rfl) rfl fun a4719 E4720 => ?_)
                          clear E4718
                          refine wl_nil ?_
                          refine then_normal (hK4716 _ _ ?_)
                          rcases Bool.eq_false_or_eq_true (y4689.2 == 0) with hb4721 | hb4721
                          · replace h4715 := itT hb4721 h4715
                            refine wc_T E4720 rfl hb4721 ?_
                            refine wp_region_lit ?_
                            refine wl_cons (wl_val E4720 rfl (rn_ldN (i := 8) [.int .i64 y4689.1.Next, .int .i64 y4689.1.NextSession, .slice p4691 y4689.1.Processes.length c4692] E4720 H rfl Try.underlying28 rfl ti28 rfl rfl rfl rfl) rfl fun a4722 E4723 => ?_)
                            clear E4720
                            refine wl_cons (wl_store (i := 3) (vs := [.int .i64 y4689.1.Next, .int .i64 y4689.1.NextSession, .slice p4691 y4689.1.Processes.length c4692]) (cs' := [.int .i64 y4689.1.Next, .int .i64 y4689.1.NextSession, .slice p4691 y4689.1.Processes.length c4692]) E4723 H rfl rfl rfl rfl ti28 rfl rfl rfl rfl rfl rfl fun w4726 a4724 E4725 H' => ?_)
                            clear H E4723; have H := H'; clear H'
                            refine wl_nil ?_
                            refine block_normal ?_
                            replace H := H.share (i := 7) (A' := [vw (kSlice 38 k_api_Process) y4689.1.Processes [.slice p4691 y4689.1.Processes.length c4692]]) (by intro b h; exact h) rfl (fun Z S1 h => ⟨rowH.read h.1, trivial⟩)
                            obtain rfl := Option.some.inj h4715
                            replace H : St w Nil Z w4726 [vw (kSlice 3 (kInt .i64)) a0 [.slice p3 a0.length c4], vw (kSlice 38 k_api_Process) y35.Processes [.slice p37 y35.Processes.length c38], vw (kSlice 38 k_api_Process) y43.1.Processes [.slice p45 y43.1.Processes.length c46], vw (kSlice 38 k_api_Process) y79.1.Processes [.slice p81 y79.1.Processes.length c82], vw (kSlice 38 k_api_Process) x3781 [.slice p3782 x3781.length c3783], vw (kSlice 38 k_api_Process) y4689.1.Processes [.slice p4691 y4689.1.Processes.length c4692]] ([[blk g22 [.slice p3 a0.length c4, .int .i64 (y4684.2)] 59], [], [], [blk g59 [.int .i64 y4689.1.Next, .int .i64 y4689.1.NextSession, .slice p4691 y4689.1.Processes.length c4692] 28], [], [row 81 k_api_Descriptor y103.1.Open (.slice p105 y103.1.Open.length c106)], [blk g117 [.int .i64 y103.1.PID, .int .i64 y103.1.PPID, .int .i64 y103.1.UID, .int .i64 y103.1.EUID, .int .i64 y103.1.GID, .int .i64 y103.1.EGID, .int .i64 y103.1.AUID, .int .i64 y103.1.Session, .int .i64 y103.1.Cwd.Dev, .int .i64 y103.1.Cwd.Ino, .string y103.1.Comm, .string y103.1.Exe, .slice p105 y103.1.Open.length c106, .bool y103.1.Audited] 38]] ++ [[], [blk g4703 [.int .i64 y4689.1.Next, .int .i64 y4689.1.NextSession, .slice p4691 y4689.1.Processes.length c4692] 28]]) := H
                            exact ⟨x3776, (y4684.2), y4689.1.Next, y4689.1.NextSession, y4689.1.Processes, p4691, c4692, E4725.pick ⟨rfl, rfl, rfl, rfl, rfl, rfl, rfl, rfl, rfl, rfl, rfl, rfl, rfl, rfl, rfl, rfl, rfl, rfl, rfl, rfl, rfl, rfl, rfl, rfl, rfl, rfl, rfl, rfl, rfl, rfl, rfl, rfl, rfl, rfl, rfl, rfl, rfl, rfl, rfl, rfl, rfl, rfl, rfl, rfl, rfl, rfl, rfl, rfl, rfl, rfl, rfl, rfl, rfl, rfl, rfl, rfl, rfl, rfl, trivial⟩, H.front.sel (fun Z hA => ⟨(argHolds_get hA (k := 0) rfl), (argHolds_get hA (k := 1) rfl), (argHolds_get hA (k := 2) rfl), (argHolds_get hA (k := 3) rfl), (argHolds_get hA (k := 4) rfl), (argHolds_get hA (k := 5) rfl), trivial⟩), h3790⟩
                          · replace h4715 := itF hb4721 h4715
                            refine wc_F E4720 rfl hb4721 ?_
                            refine wp_skip ?_
                            refine block_normal ?_
                            obtain rfl := Option.some.inj h4715
                            replace H : St w Nil Z w4713 [vw (kSlice 3 (kInt .i64)) a0 [.slice p3 a0.length c4], vw (kSlice 38 k_api_Process) y35.Processes [.slice p37 y35.Processes.length c38], vw (kSlice 38 k_api_Process) y43.1.Processes [.slice p45 y43.1.Processes.length c46], vw (kSlice 38 k_api_Process) y79.1.Processes [.slice p81 y79.1.Processes.length c82], vw (kSlice 38 k_api_Process) x3781 [.slice p3782 x3781.length c3783]] ([[blk g22 [.slice p3 a0.length c4, .int .i64 (y4684.2)] 59], [], [], [blk g59 [.int .i64 x3779, .int .i64 x3780, .slice p3782 x3781.length c3783] 28], [], [row 81 k_api_Descriptor y103.1.Open (.slice p105 y103.1.Open.length c106)], [blk g117 [.int .i64 y103.1.PID, .int .i64 y103.1.PPID, .int .i64 y103.1.UID, .int .i64 y103.1.EUID, .int .i64 y103.1.GID, .int .i64 y103.1.EGID, .int .i64 y103.1.AUID, .int .i64 y103.1.Session, .int .i64 y103.1.Cwd.Dev, .int .i64 y103.1.Cwd.Ino, .string y103.1.Comm, .string y103.1.Exe, .slice p105 y103.1.Open.length c106, .bool y103.1.Audited] 38]] ++ [[row 38 k_api_Process y4689.1.Processes (.slice p4691 y4689.1.Processes.length c4692)], [blk g4703 [.int .i64 y4689.1.Next, .int .i64 y4689.1.NextSession, .slice p4691 y4689.1.Processes.length c4692] 28]]) := H
                            exact ⟨x3776, (y4684.2), x3779, x3780, x3781, p3782, c3783, E4720.pick ⟨rfl, rfl, rfl, rfl, rfl, rfl, rfl, rfl, rfl, rfl, rfl, rfl, rfl, rfl, rfl, rfl, rfl, rfl, rfl, rfl, rfl, rfl, rfl, rfl, rfl, rfl, rfl, rfl, rfl, rfl, rfl, rfl, rfl, rfl, rfl, rfl, rfl, rfl, rfl, rfl, rfl, rfl, rfl, rfl, rfl, rfl, rfl, rfl, rfl, rfl, rfl, rfl, rfl, rfl, rfl, rfl, rfl, rfl, trivial⟩, H.front.sel (fun Z hA => ⟨(argHolds_get hA (k := 0) rfl), (argHolds_get hA (k := 1) rfl), (argHolds_get hA (k := 2) rfl), (argHolds_get hA (k := 3) rfl), (argHolds_get hA (k := 4) rfl), (argHolds_get hA (k := 4) rfl), trivial⟩), h3790⟩
                        · refine wa_begin mixed (fun w_ => (∃ Z S, (blk g59 [.int .i64 x3779, .int .i64 x3780, .slice p3782 x3781.length c3783] 28).holds w_ Z S) ∧ True) [0] [3, 4, 8, 9] H rfl fun w4727 H' => ?_
                          clear H; have H := H'; clear H'
                          refine wa_takeS (i := 0) E4674 rfl (by kernel_rfl) (by kernel_rfl) (panic_join (panic_then (panic_block (panic_join (panic_then (panic_block (panic_then (panic_then (panic_block (panic_then panic_body)))))))))) rfl (fun w_ hS => rn_loadN (vs := [.int .i64 x3779, .int .i64 x3780, .slice p3782 x3781.length c3783]) E4674 rfl Try.underlying28 rfl ti28 rfl hS.1 rfl rfl) ⟨H.get (i := 3) (k := 0) rfl rfl, trivial⟩ rfl fun a4728 E4729 => ?_
                          clear E4674
                          refine wa_take (i := 1) E4729 rfl (by kernel_rfl) (panic_join (panic_then (panic_block (panic_join (panic_then (panic_block (panic_then (panic_then (panic_block (panic_then panic_body)))))))))) rfl (fun w_ => rn_move E4729 rfl rfl) rfl fun a4730 E4731 => ?_
                          clear E4729
                          refine wa_take (i := 2) E4731 rfl (by kernel_rfl) (panic_join (panic_then (panic_block (panic_join (panic_then (panic_block (panic_then (panic_then (panic_block (panic_then panic_body)))))))))) rfl (fun w_ => rn_move E4731 rfl rfl) rfl fun a4732 E4733 => ?_
                          clear E4731
                          refine wa_two (i := 3) (j := 8) rfl rfl (by kernel_rfl) (by kernel_rfl) ?_ ?_
                          · obtain ⟨y4734, hy4735, ho4298⟩ := bs ho4298
                            refine  (wl_funM (i := 0) E4733 H rfl (rn_call (args := [.pointer (some ⟨g22, 0, none⟩), .int .i64 9]) E4733 rfl rfl rfl Try.func17 nm17 rfl) rfl rfl (by exact fun Z hA => ⟨(argHolds_get hA (k := 0) rfl), trivial⟩) (C17 (⟨a0, (y4469.2)⟩ : kauditmake_Src) 9 g22 p3 c4 _ _ hy4735) ?_)
                            rintro v_ A_ I_ N_ w4738 a4736 ⟨rfl, rfl, rfl, rfl⟩ E4737 H'
                            replace H := H'; clear H' E4733
                            replace H : St w Nil Z w4738 [vw (kSlice 3 (kInt .i64)) a0 [.slice p3 a0.length c4], vw (kSlice 38 k_api_Process) y35.Processes [.slice p37 y35.Processes.length c38], vw (kSlice 38 k_api_Process) y43.1.Processes [.slice p45 y43.1.Processes.length c46], vw (kSlice 38 k_api_Process) y79.1.Processes [.slice p81 y79.1.Processes.length c82], vw (kSlice 38 k_api_Process) x3781 [.slice p3782 x3781.length c3783]] [[blk g22 [.slice p3 a0.length c4, .int .i64 (y4734.2)] 59], [], [], [blk g59 [.int .i64 x3779, .int .i64 x3780, .slice p3782 x3781.length c3783] 28], [], [row 81 k_api_Descriptor y103.1.Open (.slice p105 y103.1.Open.length c106)], [blk g117 [.int .i64 y103.1.PID, .int .i64 y103.1.PPID, .int .i64 y103.1.UID, .int .i64 y103.1.EUID, .int .i64 y103.1.GID, .int .i64 y103.1.EGID, .int .i64 y103.1.AUID, .int .i64 y103.1.Session, .int .i64 y103.1.Cwd.Dev, .int .i64 y103.1.Cwd.Ino, .string y103.1.Comm, .string y103.1.Exe, .slice p105 y103.1.Open.length c106, .bool y103.1.Audited] 38]] := H
                            refine ⟨fun _ => ⟨H.get (i := 3) (k := 0) rfl rfl, trivial⟩, ?_⟩
                            refine wa_two (i := 4) (j := 8) rfl rfl (by kernel_rfl) (by kernel_rfl) ?_ ?_
                            · obtain ⟨y4739, hy4740, ho4298⟩ := bs ho4298
                              refine  (wl_fun E4737 H rfl (rn_call (args := [.agg #[.int .i64 x3779, .int .i64 x3780, .slice p3782 x3781.length c3783], .int .i64 x3776, .int .i64 y4734.1]) E4737 rfl rfl rfl Try.func18 nm18 rfl) rfl (by exact fun Z hA => ⟨(argHolds_get hA (k := 4) rfl), trivial⟩) (C18 (⟨x3779, x3780, x3781⟩ : api_Table) x3776 y4734.1 p3782 c3783 _ _ hy4740) ?_)
                              rintro v_ A_ N_ w4746 a4744 ⟨p4741, c4742, rfl, rfl, rfl⟩ E4745 H'
                              replace H := H'; clear H' E4737
                              replace H : St w Nil Z w4746 [vw (kSlice 3 (kInt .i64)) a0 [.slice p3 a0.length c4], vw (kSlice 38 k_api_Process) y35.Processes [.slice p37 y35.Processes.length c38], vw (kSlice 38 k_api_Process) y43.1.Processes [.slice p45 y43.1.Processes.length c46], vw (kSlice 38 k_api_Process) y79.1.Processes [.slice p81 y79.1.Processes.length c82], vw (kSlice 38 k_api_Process) x3781 [.slice p3782 x3781.length c3783]] [[blk g22 [.slice p3 a0.length c4, .int .i64 (y4734.2)] 59], [], [], [blk g59 [.int .i64 x3779, .int .i64 x3780, .slice p3782 x3781.length c3783] 28], [], [row 81 k_api_Descriptor y103.1.Open (.slice p105 y103.1.Open.length c106)], [blk g117 [.int .i64 y103.1.PID, .int .i64 y103.1.PPID, .int .i64 y103.1.UID, .int .i64 y103.1.EUID, .int .i64 y103.1.GID, .int .i64 y103.1.EGID, .int .i64 y103.1.AUID, .int .i64 y103.1.Session, .int .i64 y103.1.Cwd.Dev, .int .i64 y103.1.Cwd.Ino, .string y103.1.Comm, .string y103.1.Exe, .slice p105 y103.1.Open.length c106, .bool y103.1.Audited] 38], [row 38 k_api_Process y4739.1.Processes (.slice p4741 y4739.1.Processes.length c4742)]] := H
                              refine ⟨fun h_ => (needs_no (by kernel_rfl) h_).elim, ?_⟩
                              refine wa_take (i := 5) E4745 rfl (by kernel_rfl) (panic_join (panic_then (panic_block (panic_join (panic_then (panic_block (panic_then (panic_then (panic_block (panic_then panic_body)))))))))) rfl (fun w_ => rn_move E4745 rfl rfl) rfl fun a4747 E4748 => ?_
                              clear E4745
                              refine wa_take (i := 6) E4748 rfl (by kernel_rfl) (panic_join (panic_then (panic_block (panic_join (panic_then (panic_block (panic_then (panic_then (panic_block (panic_then panic_body)))))))))) rfl (fun w_ => rn_extract E4748 rfl rfl rfl) rfl fun a4749 E4750 => ?_
                              clear E4748
                              refine wa_take (i := 7) E4750 rfl (by kernel_rfl) (panic_join (panic_then (panic_block (panic_join (panic_then (panic_block (panic_then (panic_then (panic_block (panic_then panic_body)))))))))) rfl (fun w_ => rn_extract E4750 rfl rfl rfl) rfl fun a4751 E4752 => ?_
                              clear E4750
                              refine wa_only (i := 8) rfl (by kernel_rfl) (by kernel_rfl) (wl_alloc (cs := [.int .i64 0, .int .i64 0, .slice none 0 0]) E4752 H rfl ti28 rfl rfl fun g4753 w4754 a4755 E4756 H' => ?_)
                              clear H E4752; have H := H'; clear H'
                              refine ⟨fun _ => ⟨H.get (i := 3) (k := 0) rfl rfl, trivial⟩, ?_⟩
                              refine wa_only (i := 9) rfl (by kernel_rfl) (by kernel_rfl) (wl_store (i := 8) (vs := [.int .i64 y4739.1.Next, .int .i64 y4739.1.NextSession, .slice p4741 y4739.1.Processes.length c4742]) (cs' := [.int .i64 y4739.1.Next, .int .i64 y4739.1.NextSession, .slice p4741 y4739.1.Processes.length c4742]) E4756 H rfl rfl rfl rfl ti28 rfl rfl rfl rfl rfl rfl fun w4759 a4757 E4758 H' => ?_)
                              clear H E4756; have H := H'; clear H'
                              refine ⟨fun h_ => (needs_no (by kernel_rfl) h_).elim, ?_⟩
                              refine wa_take (i := 10) E4758 rfl (by kernel_rfl) (panic_join (panic_then (panic_block (panic_join (panic_then (panic_block (panic_then (panic_then (panic_block (panic_then panic_body)))))))))) rfl (fun w_ => rn_assign E4758 rfl rfl) rfl fun a4760 E4761 => ?_
                              clear E4758
                              refine wa_done (by kernel_rfl) ?_
                              exact ⟨g4753, y4739, p4741, c4742, y4734, E4761.pick ⟨rfl, rfl, rfl, rfl, rfl, rfl, rfl, rfl, rfl, rfl, rfl, rfl, rfl, rfl, rfl, rfl, rfl, rfl, rfl, rfl, rfl, rfl, rfl, rfl, rfl, rfl, rfl, rfl, rfl, rfl, rfl, rfl, rfl, rfl, rfl, rfl, rfl, rfl, rfl, rfl, rfl, rfl, rfl, rfl, rfl, rfl, rfl, rfl, rfl, rfl, rfl, rfl, rfl, rfl, rfl, rfl, rfl, rfl, rfl, rfl, rfl, rfl, rfl, rfl, rfl, rfl, rfl, rfl, rfl, rfl, rfl, rfl, rfl, rfl, rfl, rfl, trivial⟩, H.sel (fun Z hA => ⟨(argHolds_get hA (k := 0) rfl), (argHolds_get hA (k := 1) rfl), (argHolds_get hA (k := 2) rfl), (argHolds_get hA (k := 3) rfl), (argHolds_get hA (k := 4) rfl), trivial⟩), ho4298⟩
                            · refine  (wl_alloc (cs := [.int .i64 0, .int .i64 0, .slice none 0 0]) E4737 H rfl ti28 rfl rfl fun g4762 w4763 a4764 E4765 H' => ?_)
                              clear H E4737; have H := H'; clear H'
                              replace H : St w Nil Z w4763 [vw (kSlice 3 (kInt .i64)) a0 [.slice p3 a0.length c4], vw (kSlice 38 k_api_Process) y35.Processes [.slice p37 y35.Processes.length c38], vw (kSlice 38 k_api_Process) y43.1.Processes [.slice p45 y43.1.Processes.length c46], vw (kSlice 38 k_api_Process) y79.1.Processes [.slice p81 y79.1.Processes.length c82], vw (kSlice 38 k_api_Process) x3781 [.slice p3782 x3781.length c3783]] [[blk g22 [.slice p3 a0.length c4, .int .i64 (y4734.2)] 59], [], [], [blk g59 [.int .i64 x3779, .int .i64 x3780, .slice p3782 x3781.length c3783] 28], [], [row 81 k_api_Descriptor y103.1.Open (.slice p105 y103.1.Open.length c106)], [blk g117 [.int .i64 y103.1.PID, .int .i64 y103.1.PPID, .int .i64 y103.1.UID, .int .i64 y103.1.EUID, .int .i64 y103.1.GID, .int .i64 y103.1.EGID, .int .i64 y103.1.AUID, .int .i64 y103.1.Session, .int .i64 y103.1.Cwd.Dev, .int .i64 y103.1.Cwd.Ino, .string y103.1.Comm, .string y103.1.Exe, .slice p105 y103.1.Open.length c106, .bool y103.1.Audited] 38], [blk g4762 [.int .i64 0, .int .i64 0, .slice none 0 0] 28]] := H
                              refine ⟨fun _ => ⟨H.get (i := 3) (k := 0) rfl rfl, trivial⟩, ?_⟩
                              obtain ⟨y4766, hy4767, ho4298⟩ := bs ho4298
                              refine wa_only (i := 4) rfl (by kernel_rfl) (by kernel_rfl) (wl_fun E4765 H rfl (rn_call (args := [.agg #[.int .i64 x3779, .int .i64 x3780, .slice p3782 x3781.length c3783], .int .i64 x3776, .int .i64 y4734.1]) E4765 rfl rfl rfl Try.func18 nm18 rfl) rfl (by exact fun Z hA => ⟨(argHolds_get hA (k := 4) rfl), trivial⟩) (C18 (⟨x3779, x3780, x3781⟩ : api_Table) x3776 y4734.1 p3782 c3783 _ _ hy4767) ?_)
                              rintro v_ A_ N_ w4773 a4771 ⟨p4768, c4769, rfl, rfl, rfl⟩ E4772 H'
                              replace H := H'; clear H' E4765
                              refine ⟨fun h_ => (needs_no (by kernel_rfl) h_).elim, ?_⟩
                              refine wa_take (i := 5) E4772 rfl (by kernel_rfl) (panic_join (panic_then (panic_block (panic_join (panic_then (panic_block (panic_then (panic_then (panic_block (panic_then panic_body)))))))))) rfl (fun w_ => rn_move E4772 rfl rfl) rfl fun a4774 E4775 => ?_
                              clear E4772
                              refine wa_take (i := 6) E4775 rfl (by kernel_rfl) (panic_join (panic_then (panic_block (panic_join (panic_then (panic_block (panic_then (panic_then (panic_block (panic_then panic_body)))))))))) rfl (fun w_ => rn_extract E4775 rfl rfl rfl) rfl fun a4776 E4777 => ?_
                              clear E4775
                              refine wa_take (i := 7) E4777 rfl (by kernel_rfl) (panic_join (panic_then (panic_block (panic_join (panic_then (panic_block (panic_then (panic_then (panic_block (panic_then panic_body)))))))))) rfl (fun w_ => rn_extract E4777 rfl rfl rfl) rfl fun a4778 E4779 => ?_
                              clear E4777
                              refine wa_only (i := 9) rfl (by kernel_rfl) (by kernel_rfl) (wl_store (i := 7) (vs := [.int .i64 y4766.1.Next, .int .i64 y4766.1.NextSession, .slice p4768 y4766.1.Processes.length c4769]) (cs' := [.int .i64 y4766.1.Next, .int .i64 y4766.1.NextSession, .slice p4768 y4766.1.Processes.length c4769]) E4779 H rfl rfl rfl rfl ti28 rfl rfl rfl rfl rfl rfl fun w4782 a4780 E4781 H' => ?_)
                              clear H E4779; have H := H'; clear H'
                              refine ⟨fun h_ => (needs_no (by kernel_rfl) h_).elim, ?_⟩
                              refine wa_take (i := 10) E4781 rfl (by kernel_rfl) (panic_join (panic_then (panic_block (panic_join (panic_then (panic_block (panic_then (panic_then (panic_block (panic_then panic_body)))))))))) rfl (fun w_ => rn_assign E4781 rfl rfl) rfl fun a4783 E4784 => ?_
                              clear E4781
                              refine wa_done (by kernel_rfl) ?_
                              replace H := H.toEnd 8 rfl
                              replace H := H.toEnd 7 rfl
                              replace H : St w Nil Z w4782 [vw (kSlice 3 (kInt .i64)) a0 [.slice p3 a0.length c4], vw (kSlice 38 k_api_Process) y35.Processes [.slice p37 y35.Processes.length c38], vw (kSlice 38 k_api_Process) y43.1.Processes [.slice p45 y43.1.Processes.length c46], vw (kSlice 38 k_api_Process) y79.1.Processes [.slice p81 y79.1.Processes.length c82], vw (kSlice 38 k_api_Process) x3781 [.slice p3782 x3781.length c3783]] [[blk g22 [.slice p3 a0.length c4, .int .i64 (y4734.2)] 59], [], [], [blk g59 [.int .i64 x3779, .int .i64 x3780, .slice p3782 x3781.length c3783] 28], [], [row 81 k_api_Descriptor y103.1.Open (.slice p105 y103.1.Open.length c106)], [blk g117 [.int .i64 y103.1.PID, .int .i64 y103.1.PPID, .int .i64 y103.1.UID, .int .i64 y103.1.EUID, .int .i64 y103.1.GID, .int .i64 y103.1.EGID, .int .i64 y103.1.AUID, .int .i64 y103.1.Session, .int .i64 y103.1.Cwd.Dev, .int .i64 y103.1.Cwd.Ino, .string y103.1.Comm, .string y103.1.Exe, .slice p105 y103.1.Open.length c106, .bool y103.1.Audited] 38], [row 38 k_api_Process y4766.1.Processes (.slice p4768 y4766.1.Processes.length c4769)], [blk g4762 [.int .i64 y4766.1.Next, .int .i64 y4766.1.NextSession, .slice p4768 y4766.1.Processes.length c4769] 28]] := H
                              exact ⟨g4762, y4766, p4768, c4769, y4734, E4784.pick ⟨rfl, rfl, rfl, rfl, rfl, rfl, rfl, rfl, rfl, rfl, rfl, rfl, rfl, rfl, rfl, rfl, rfl, rfl, rfl, rfl, rfl, rfl, rfl, rfl, rfl, rfl, rfl, rfl, rfl, rfl, rfl, rfl, rfl, rfl, rfl, rfl, rfl, rfl, rfl, rfl, rfl, rfl, rfl, rfl, rfl, rfl, rfl, rfl, rfl, rfl, rfl, rfl, rfl, rfl, rfl, rfl, rfl, rfl, rfl, rfl, rfl, rfl, rfl, rfl, rfl, rfl, rfl, rfl, rfl, rfl, rfl, rfl, rfl, rfl, rfl, rfl, trivial⟩, H.sel (fun Z hA => ⟨(argHolds_get hA (k := 0) rfl), (argHolds_get hA (k := 1) rfl), (argHolds_get hA (k := 2) rfl), (argHolds_get hA (k := 3) rfl), (argHolds_get hA (k := 4) rfl), trivial⟩), ho4298⟩
                          · refine  (wl_alloc (cs := [.int .i64 0, .int .i64 0, .slice none 0 0]) E4733 H rfl ti28 rfl rfl fun g4785 w4786 a4787 E4788 H' => ?_)
                            clear H E4733; have H := H'; clear H'
                            refine ⟨fun _ => ⟨H.get (i := 3) (k := 0) rfl rfl, trivial⟩, ?_⟩
                            obtain ⟨y4789, hy4790, ho4298⟩ := bs ho4298
                            refine wa_only (i := 3) rfl (by kernel_rfl) (by kernel_rfl) (wl_funM (i := 0) E4788 H rfl (rn_call (args := [.pointer (some ⟨g22, 0, none⟩), .int .i64 9]) E4788 rfl rfl rfl Try.func17 nm17 rfl) rfl rfl (by exact fun Z hA => ⟨(argHolds_get hA (k := 0) rfl), trivial⟩) (C17 (⟨a0, (y4469.2)⟩ : kauditmake_Src) 9 g22 p3 c4 _ _ hy4790) ?_)
                            rintro v_ A_ I_ N_ w4793 a4791 ⟨rfl, rfl, rfl, rfl⟩ E4792 H'
                            replace H := H'; clear H' E4788
                            replace H : St w Nil Z w4793 [vw (kSlice 3 (kInt .i64)) a0 [.slice p3 a0.length c4], vw (kSlice 38 k_api_Process) y35.Processes [.slice p37 y35.Processes.length c38], vw (kSlice 38 k_api_Process) y43.1.Processes [.slice p45 y43.1.Processes.length c46], vw (kSlice 38 k_api_Process) y79.1.Processes [.slice p81 y79.1.Processes.length c82], vw (kSlice 38 k_api_Process) x3781 [.slice p3782 x3781.length c3783]] [[blk g22 [.slice p3 a0.length c4, .int .i64 (y4789.2)] 59], [], [], [blk g59 [.int .i64 x3779, .int .i64 x3780, .slice p3782 x3781.length c3783] 28], [], [row 81 k_api_Descriptor y103.1.Open (.slice p105 y103.1.Open.length c106)], [blk g117 [.int .i64 y103.1.PID, .int .i64 y103.1.PPID, .int .i64 y103.1.UID, .int .i64 y103.1.EUID, .int .i64 y103.1.GID, .int .i64 y103.1.EGID, .int .i64 y103.1.AUID, .int .i64 y103.1.Session, .int .i64 y103.1.Cwd.Dev, .int .i64 y103.1.Cwd.Ino, .string y103.1.Comm, .string y103.1.Exe, .slice p105 y103.1.Open.length c106, .bool y103.1.Audited] 38], [blk g4785 [.int .i64 0, .int .i64 0, .slice none 0 0] 28]] := H
                            replace H : St w Nil Z w4793 [vw (kSlice 3 (kInt .i64)) a0 [.slice p3 a0.length c4], vw (kSlice 38 k_api_Process) y35.Processes [.slice p37 y35.Processes.length c38], vw (kSlice 38 k_api_Process) y43.1.Processes [.slice p45 y43.1.Processes.length c46], vw (kSlice 38 k_api_Process) y79.1.Processes [.slice p81 y79.1.Processes.length c82], vw (kSlice 38 k_api_Process) x3781 [.slice p3782 x3781.length c3783]] [[blk g22 [.slice p3 a0.length c4, .int .i64 (y4789.2)] 59], [], [], [blk g59 [.int .i64 x3779, .int .i64 x3780, .slice p3782 x3781.length c3783] 28], [], [row 81 k_api_Descriptor y103.1.Open (.slice p105 y103.1.Open.length c106)], [blk g117 [.int .i64 y103.1.PID, .int .i64 y103.1.PPID, .int .i64 y103.1.UID, .int .i64 y103.1.EUID, .int .i64 y103.1.GID, .int .i64 y103.1.EGID, .int .i64 y103.1.AUID, .int .i64 y103.1.Session, .int .i64 y103.1.Cwd.Dev, .int .i64 y103.1.Cwd.Ino, .string y103.1.Comm, .string y103.1.Exe, .slice p105 y103.1.Open.length c106, .bool y103.1.Audited] 38], [blk g4785 [.int .i64 0, .int .i64 0, .slice none 0 0] 28]] := H
                            refine ⟨fun _ => ⟨H.get (i := 3) (k := 0) rfl rfl, trivial⟩, ?_⟩
                            obtain ⟨y4794, hy4795, ho4298⟩ := bs ho4298
                            refine wa_only (i := 4) rfl (by kernel_rfl) (by kernel_rfl) (wl_fun E4792 H rfl (rn_call (args := [.agg #[.int .i64 x3779, .int .i64 x3780, .slice p3782 x3781.length c3783], .int .i64 x3776, .int .i64 y4789.1]) E4792 rfl rfl rfl Try.func18 nm18 rfl) rfl (by exact fun Z hA => ⟨(argHolds_get hA (k := 4) rfl), trivial⟩) (C18 (⟨x3779, x3780, x3781⟩ : api_Table) x3776 y4789.1 p3782 c3783 _ _ hy4795) ?_)
                            rintro v_ A_ N_ w4801 a4799 ⟨p4796, c4797, rfl, rfl, rfl⟩ E4800 H'
                            replace H := H'; clear H' E4792
                            refine ⟨fun h_ => (needs_no (by kernel_rfl) h_).elim, ?_⟩
                            refine wa_take (i := 5) E4800 rfl (by kernel_rfl) (panic_join (panic_then (panic_block (panic_join (panic_then (panic_block (panic_then (panic_then (panic_block (panic_then panic_body)))))))))) rfl (fun w_ => rn_move E4800 rfl rfl) rfl fun a4802 E4803 => ?_
                            clear E4800
                            refine wa_take (i := 6) E4803 rfl (by kernel_rfl) (panic_join (panic_then (panic_block (panic_join (panic_then (panic_block (panic_then (panic_then (panic_block (panic_then panic_body)))))))))) rfl (fun w_ => rn_extract E4803 rfl rfl rfl) rfl fun a4804 E4805 => ?_
                            clear E4803
                            refine wa_take (i := 7) E4805 rfl (by kernel_rfl) (panic_join (panic_then (panic_block (panic_join (panic_then (panic_block (panic_then (panic_then (panic_block (panic_then panic_body)))))))))) rfl (fun w_ => rn_extract E4805 rfl rfl rfl) rfl fun a4806 E4807 => ?_
                            clear E4805
                            refine wa_only (i := 9) rfl (by kernel_rfl) (by kernel_rfl) (wl_store (i := 7) (vs := [.int .i64 y4794.1.Next, .int .i64 y4794.1.NextSession, .slice p4796 y4794.1.Processes.length c4797]) (cs' := [.int .i64 y4794.1.Next, .int .i64 y4794.1.NextSession, .slice p4796 y4794.1.Processes.length c4797]) E4807 H rfl rfl rfl rfl ti28 rfl rfl rfl rfl rfl rfl fun w4810 a4808 E4809 H' => ?_)
                            clear H E4807; have H := H'; clear H'
                            refine ⟨fun h_ => (needs_no (by kernel_rfl) h_).elim, ?_⟩
                            refine wa_take (i := 10) E4809 rfl (by kernel_rfl) (panic_join (panic_then (panic_block (panic_join (panic_then (panic_block (panic_then (panic_then (panic_block (panic_then panic_body)))))))))) rfl (fun w_ => rn_assign E4809 rfl rfl) rfl fun a4811 E4812 => ?_
                            clear E4809
                            refine wa_done (by kernel_rfl) ?_
                            replace H := H.toEnd 8 rfl
                            replace H := H.toEnd 7 rfl
                            replace H : St w Nil Z w4810 [vw (kSlice 3 (kInt .i64)) a0 [.slice p3 a0.length c4], vw (kSlice 38 k_api_Process) y35.Processes [.slice p37 y35.Processes.length c38], vw (kSlice 38 k_api_Process) y43.1.Processes [.slice p45 y43.1.Processes.length c46], vw (kSlice 38 k_api_Process) y79.1.Processes [.slice p81 y79.1.Processes.length c82], vw (kSlice 38 k_api_Process) x3781 [.slice p3782 x3781.length c3783]] [[blk g22 [.slice p3 a0.length c4, .int .i64 (y4789.2)] 59], [], [], [blk g59 [.int .i64 x3779, .int .i64 x3780, .slice p3782 x3781.length c3783] 28], [], [row 81 k_api_Descriptor y103.1.Open (.slice p105 y103.1.Open.length c106)], [blk g117 [.int .i64 y103.1.PID, .int .i64 y103.1.PPID, .int .i64 y103.1.UID, .int .i64 y103.1.EUID, .int .i64 y103.1.GID, .int .i64 y103.1.EGID, .int .i64 y103.1.AUID, .int .i64 y103.1.Session, .int .i64 y103.1.Cwd.Dev, .int .i64 y103.1.Cwd.Ino, .string y103.1.Comm, .string y103.1.Exe, .slice p105 y103.1.Open.length c106, .bool y103.1.Audited] 38], [row 38 k_api_Process y4794.1.Processes (.slice p4796 y4794.1.Processes.length c4797)], [blk g4785 [.int .i64 y4794.1.Next, .int .i64 y4794.1.NextSession, .slice p4796 y4794.1.Processes.length c4797] 28]] := H
                            exact ⟨g4785, y4794, p4796, c4797, y4789, E4812.pick ⟨rfl, rfl, rfl, rfl, rfl, rfl, rfl, rfl, rfl, rfl, rfl, rfl, rfl, rfl, rfl, rfl, rfl, rfl, rfl, rfl, rfl, rfl, rfl, rfl, rfl, rfl, rfl, rfl, rfl, rfl, rfl, rfl, rfl, rfl, rfl, rfl, rfl, rfl, rfl, rfl, rfl, rfl, rfl, rfl, rfl, rfl, rfl, rfl, rfl, rfl, rfl, rfl, rfl, rfl, rfl, rfl, rfl, rfl, rfl, rfl, rfl, rfl, rfl, rfl, rfl, rfl, rfl, rfl, rfl, rfl, rfl, rfl, rfl, rfl, rfl, rfl, trivial⟩, H.sel (fun Z hA => ⟨(argHolds_get hA (k := 0) rfl), (argHolds_get hA (k := 1) rfl), (argHolds_get hA (k := 2) rfl), (argHolds_get hA (k := 3) rfl), (argHolds_get hA (k := 4) rfl), trivial⟩), ho4298⟩
                      · replace ho4298 := itF hb4675 ho4298
                        refine wc_F E4674 rfl hb4675 ?_
                        refine wp_seq_k fun _ hK4813 => ?_
                        refine wp_region_lit ?_
                        refine wl_cons (wl_val E4674 rfl (rn_int E4674 rfl rfl rfl rfl) rfl fun a4814 E4815 => ?_)
                        clear E4674
                        refine wl_cons (wl_val E4815 rfl (rn_assign E4815 rfl rfl) rfl fun a4816 E4817 => ?_)
                        clear E4815
                        refine wl_nil ?_
                        refine then_normal (hK4813 _ _ ?_)
                        rcases Bool.eq_false_or_eq_true (y4469.1 == 3) with hb4818 | hb4818
                        · replace ho4298 := itT hb4818 ho4298
                          refine wc_T E4817 rfl hb4818 ?_
                          refine wp_seq_k fun _ hK4819 => ?_
                          refine wa_join (fun a_ w_ => ∃ (g4846 : Nat), ∃ (y4832 : api_Table × Int), ∃ (p4834 : Option Addr), ∃ (c4835 : Nat), ∃ (y4827 : ByteArray × Int), Env 164 a_ [(0, .slice p3 a0.length c4), (1, .int .u16 a1), (4, .bool false), (5, .pointer (some ⟨g22, 0, none⟩)), (6, .pointer (some ⟨g59, 0, none⟩)), (7, .int .i64 x3776), (8, .int .i64 y43.2.2), (9, .int .i64 y79.2), (10, .pointer (some ⟨g117, 0, none⟩)), (11, .bool y103.2), (12, .int .i64 x3777), (20, .pointer (some ⟨g4846, 0, none⟩)), (21, .int .i64 y4832.2), (26, .slice p3 a0.length c4), (27, .pointer (some ⟨g22, 0, none⟩)), (28, .tuple #[.agg #[.int .i64 y43.1.Next, .int .i64 y43.1.NextSession, .slice p45 y43.1.Processes.length c46], .int .i64 y43.2.1, .int .i64 y43.2.2]), (29, .agg #[.int .i64 0, .int .i64 1]), (30, .agg #[.int .i64 y35.Next, .int .i64 y35.NextSession, .slice p37 y35.Processes.length c38]), (31, .tuple #[.agg #[.int .i64 y43.1.Next, .int .i64 y43.1.NextSession, .slice p45 y43.1.Processes.length c46], .int .i64 y43.2.1, .int .i64 y43.2.2]), (32, .agg #[.int .i64 y43.1.Next, .int .i64 y43.1.NextSession, .slice p45 y43.1.Processes.length c46]), (33, .int .i64 y43.2.1), (34, .int .i64 y43.2.2), (35, .tuple #[.agg #[.int .i64 y79.1.Next, .int .i64 y79.1.NextSession, .slice p81 y79.1.Processes.length c82], .int .i64 y79.2]), (36, .agg #[.int .i64 y43.1.Next, .int .i64 y43.1.NextSession, .slice p45 y43.1.Processes.length c46]), (37, .int .i64 y43.2.1), (38, .int .u16 a1), (39, .int .i64 (IntKind.wrap .i64 a1)), (40, .tuple #[.agg #[.int .i64 y79.1.Next, .int .i64 y79.1.NextSession, .slice p81 y79.1.Processes.length c82], .int .i64 y79.2]), (41, .agg #[.int .i64 y79.1.Next, .int .i64 y79.1.NextSession, .slice p81 y79.1.Processes.length c82]), (42, .int .i64 y79.2), (43, .tuple #[.agg #[.int .i64 y103.1.PID, .int .i64 y103.1.PPID, .int .i64 y103.1.UID, .int .i64 y103.1.EUID, .int .i64 y103.1.GID, .int .i64 y103.1.EGID, .int .i64 y103.1.AUID, .int .i64 y103.1.Session, .int .i64 y103.1.Cwd.Dev, .int .i64 y103.1.Cwd.Ino, .string y103.1.Comm, .string y103.1.Exe, .slice p105 y103.1.Open.length c106, .bool y103.1.Audited], .bool y103.2]), (44, .agg #[.int .i64 y79.1.Next, .int .i64 y79.1.NextSession, .slice p81 y79.1.Processes.length c82]), (45, .int .i64 y43.2.1), (46, .tuple #[.agg #[.int .i64 y103.1.PID, .int .i64 y103.1.PPID, .int .i64 y103.1.UID, .int .i64 y103.1.EUID, .int .i64 y103.1.GID, .int .i64 y103.1.EGID, .int .i64 y103.1.AUID, .int .i64 y103.1.Session, .int .i64 y103.1.Cwd.Dev, .int .i64 y103.1.Cwd.Ino, .string y103.1.Comm, .string y103.1.Exe, .slice p105 y103.1.Open.length c106, .bool y103.1.Audited], .bool y103.2]), (47, .agg #[.int .i64 y103.1.PID, .int .i64 y103.1.PPID, .int .i64 y103.1.UID, .int .i64 y103.1.EUID, .int .i64 y103.1.GID, .int .i64 y103.1.EGID, .int .i64 y103.1.AUID, .int .i64 y103.1.Session, .int .i64 y103.1.Cwd.Dev, .int .i64 y103.1.Cwd.Ino, .string y103.1.Comm, .string y103.1.Exe, .slice p105 y103.1.Open.length c106, .bool y103.1.Audited]), (48, .bool y103.2), (49, .int .i64 y43.2.2), (50, .bool (y43.2.2 != 0)), (51, .bool (y43.2.2 != 0)), (52, .int .i64 y79.2), (53, .bool (y79.2 != 0)), (54, .bool (y79.2 != 0)), (55, .bool (y79.2 != 0)), (56, .bool y103.2), (57, .bool (!y103.2)), (58, .bool (!y103.2)), (59, .bool (!y103.2)), (60, .pointer (some ⟨g117, 6, none⟩)), (61, .int .i64 y103.1.AUID), (62, .int .u16 a1), (63, .int .i64 (IntKind.wrap .i64 a1)), (64, .bool (y103.1.AUID != (IntKind.wrap .i64 a1))), (65, .bool (y103.1.AUID != (IntKind.wrap .i64 a1))), (66, .bool (y103.1.AUID != (IntKind.wrap .i64 a1))), (67, .pointer (some ⟨g117, 7, none⟩)), (68, .int .i64 y103.1.Session), (69, .bool (y103.1.Session == 4294967295)), (70, .bool (y103.1.Session == 4294967295)), (71, .int .i64 x3777), (72, .bool (decide (x3777 < 8))), (75, .pointer (some ⟨g22, 0, none⟩)), (76, .int .i64 y4469.1), (77, .bool (y4469.1 == 0)), (78, .bool (y4469.1 == 0)), (90, .bool (y4469.1 == 1)), (91, .bool (y4469.1 == 1)), (103, .bool (y4469.1 == 2)), (104, .bool (y4469.1 == 2)), (116, .bool (y4469.1 == 3)), (117, .bool (y4469.1 == 3)), (118, .tuple #[.agg #[.int .i64 y4832.1.Next, .int .i64 y4832.1.NextSession, .slice p4834 y4832.1.Processes.length c4835], .int .i64 y4832.2]), (119, .agg #[.int .i64 x3779, .int .i64 x3780, .slice p3782 x3781.length c3783]), (120, .int .i64 x3776), (121, .pointer (some ⟨g22, 0, none⟩)), (122, .string y4827.1), (123, .tuple #[.agg #[.int .i64 y4832.1.Next, .int .i64 y4832.1.NextSession, .slice p4834 y4832.1.Processes.length c4835], .int .i64 y4832.2]), (124, .agg #[.int .i64 y4832.1.Next, .int .i64 y4832.1.NextSession, .slice p4834 y4832.1.Processes.length c4835]), (125, .int .i64 y4832.2)] ∧ St w Nil Z w_ [vw (kSlice 3 (kInt .i64)) a0 [.slice p3 a0.length c4], vw (kSlice 38 k_api_Process) y35.Processes [.slice p37 y35.Processes.length c38], vw (kSlice 38 k_api_Process) y43.1.Processes [.slice p45 y43.1.Processes.length c46], vw (kSlice 38 k_api_Process) y79.1.Processes [.slice p81 y79.1.Processes.length c82], vw (kSlice 38 k_api_Process) x3781 [.slice p3782 x3781.length c3783]] [[blk g22 [.slice p3 a0.length c4, .int .i64 (y4827.2)] 59], [], [], [blk g59 [.int .i64 x3779, .int .i64 x3780, .slice p3782 x3781.length c3783] 28], [], [row 81 k_api_Descriptor y103.1.Open (.slice p105 y103.1.Open.length c106)], [blk g117 [.int .i64 y103.1.PID, .int .i64 y103.1.PPID, .int .i64 y103.1.UID, .int .i64 y103.1.EUID, .int .i64 y103.1.GID, .int .i64 y103.1.EGID, .int .i64 y103.1.AUID, .int .i64 y103.1.Session, .int .i64 y103.1.Cwd.Dev, .int .i64 y103.1.Cwd.Ino, .string y103.1.Comm, .string y103.1.Exe, .slice p105 y103.1.Open.length c106, .bool y103.1.Audited] 38], [row 38 k_api_Process y4832.1.Processes (.slice p4834 y4832.1.Processes.length c4835)], [blk g4846 [.int .i64 y4832.1.Next, .int .i64 y4832.1.NextSession, .slice p4834 y4832.1.Processes.length c4835] 28]] ∧ (if (y4832.2 == 0) = true then (some (x3776, (y4827.2), y4832.1.Next, y4832.1.NextSession, y4832.1.Processes)) else (some (x3776, (y4827.2), x3779, x3780, x3781))) = some o4297) ?_ ?_
                          · rintro a4855 w4856 ⟨g4846, y4832, p4834, c4835, y4827, E4857, H', h4858⟩
                            clear H E4817; have H := H'; clear H'
                            refine then_normal (hK4819 _ _ ?_)
                            refine wp_seq_k fun _ hK4859 => ?_
                            refine wp_region_lit ?_
                            refine wl_cons (wl_val E4857 rfl (rn_move E4857 rfl rfl) rfl fun a4860 E4861 => ?_)
                            clear E4857
                            replace H : St w Nil Z w4856 [vw (kSlice 3 (kInt .i64)) a0 [.slice p3 a0.length c4], vw (kSlice 38 k_api_Process) y35.Processes [.slice p37 y35.Processes.length c38], vw (kSlice 38 k_api_Process) y43.1.Processes [.slice p45 y43.1.Processes.length c46], vw (kSlice 38 k_api_Process) y79.1.Processes [.slice p81 y79.1.Processes.length c82], vw (kSlice 38 k_api_Process) x3781 [.slice p3782 x3781.length c3783]] [[blk g22 [.slice p3 a0.length c4, .int .i64 (y4827.2)] 59], [], [], [blk g59 [.int .i64 x3779, .int .i64 x3780, .slice p3782 x3781.length c3783] 28], [], [row 81 k_api_Descriptor y103.1.Open (.slice p105 y103.1.Open.length c106)], [blk g117 [.int .i64 y103.1.PID, .int .i64 y103.1.PPID, .int .i64 y103.1.UID, .int .i64 y103.1.EUID, .int .i64 y103.1.GID, .int .i64 y103.1.EGID, .int .i64 y103.1.AUID, .int .i64 y103.1.Session, .int .i64 y103.1.Cwd.Dev, .int .i64 y103.1.Cwd.Ino, .string y103.1.Comm, .string y103.1.Exe, .slice p105 y103.1.Open.length c106, .bool y103.1.Audited] 38], [row 38 k_api_Process y4832.1.Processes (.slice p4834 y4832.1.Processes.length c4835)], [blk g4846 [.int .i64 y4832.1.Next, .int .i64 y4832.1.NextSession, .slice p4834 y4832.1.Processes.length c4835] 28]] := H
                            refine wl_cons (wl_val E4861 rfl (rn_int E4861 rfl rfl rfl rfl) rfl fun a4862 E4863 => ?_)
                            clear E4861
                            refine wl_nil ?_
                            refine then_normal (hK4859 _ _ ?_)
                            rcases Bool.eq_false_or_eq_true (y4832.2 == 0) with hb4864 | hb4864
                            · replace h4858 := itT hb4864 h4858
                              refine wc_T E4863 rfl hb4864 ?_
                              refine wp_region_lit ?_
                              refine wl_cons (wl_val E4863 rfl (rn_ldN (i := 8) [.int .i64 y4832.1.Next, .int .i64 y4832.1.NextSession, .slice p4834 y4832.1.Processes.length c4835] E4863 H rfl Try.underlying28 rfl ti28 rfl rfl rfl rfl) rfl fun a4865 E4866 => ?_)
                              clear E4863
                              refine wl_cons (wl_store (i := 3) (vs := [.int .i64 y4832.1.Next, .int .i64 y4832.1.NextSession, .slice p4834 y4832.1.Processes.length c4835]) (cs' := [.int .i64 y4832.1.Next, .int .i64 y4832.1.NextSession, .slice p4834 y4832.1.Processes.length c4835]) E4866 H rfl rfl rfl rfl ti28 rfl rfl rfl rfl rfl rfl fun w4869 a4867 E4868 H' => ?_)
                              clear H E4866; have H := H'; clear H'
                              refine wl_nil ?_
                              refine block_normal ?_
                              replace H := H.share (i := 7) (A' := [vw (kSlice 38 k_api_Process) y4832.1.Processes [.slice p4834 y4832.1.Processes.length c4835]]) (by intro b h; exact h) rfl (fun Z S1 h => ⟨rowH.read h.1, trivial⟩)
                              obtain rfl := Option.some.inj h4858
                              replace H : St w Nil Z w4869 [vw (kSlice 3 (kInt .i64)) a0 [.slice p3 a0.length c4], vw (kSlice 38 k_api_Process) y35.Processes [.slice p37 y35.Processes.length c38], vw (kSlice 38 k_api_Process) y43.1.Processes [.slice p45 y43.1.Processes.length c46], vw (kSlice 38 k_api_Process) y79.1.Processes [.slice p81 y79.1.Processes.length c82], vw (kSlice 38 k_api_Process) x3781 [.slice p3782 x3781.length c3783], vw (kSlice 38 k_api_Process) y4832.1.Processes [.slice p4834 y4832.1.Processes.length c4835]] ([[blk g22 [.slice p3 a0.length c4, .int .i64 (y4827.2)] 59], [], [], [blk g59 [.int .i64 y4832.1.Next, .int .i64 y4832.1.NextSession, .slice p4834 y4832.1.Processes.length c4835] 28], [], [row 81 k_api_Descriptor y103.1.Open (.slice p105 y103.1.Open.length c106)], [blk g117 [.int .i64 y103.1.PID, .int .i64 y103.1.PPID, .int .i64 y103.1.UID, .int .i64 y103.1.EUID, .int .i64 y103.1.GID, .int .i64 y103.1.EGID, .int .i64 y103.1.AUID, .int .i64 y103.1.Session, .int .i64 y103.1.Cwd.Dev, .int .i64 y103.1.Cwd.Ino, .string y103.1.Comm, .string y103.1.Exe, .slice p105 y103.1.Open.length c106, .bool y103.1.Audited] 38]] ++ [[], [blk g4846 [.int .i64 y4832.1.Next, .int .i64 y4832.1.NextSession, .slice p4834 y4832.1.Processes.length c4835] 28]]) := H
                              exact ⟨x3776, (y4827.2), y4832.1.Next, y4832.1.NextSession, y4832.1.Processes, p4834, c4835, E4868.pick ⟨rfl, rfl, rfl, rfl, rfl, rfl, rfl, rfl, rfl, rfl, rfl, rfl, rfl, rfl, rfl, rfl, rfl, rfl, rfl, rfl, rfl, rfl, rfl, rfl, rfl, rfl, rfl, rfl, rfl, rfl, rfl, rfl, rfl, rfl, rfl, rfl, rfl, rfl, rfl, rfl, rfl, rfl, rfl, rfl, rfl, rfl, rfl, rfl, rfl, rfl, rfl, rfl, rfl, rfl, rfl, rfl, rfl, rfl, trivial⟩, H.front.sel (fun Z hA => ⟨(argHolds_get hA (k := 0) rfl), (argHolds_get hA (k := 1) rfl), (argHolds_get hA (k := 2) rfl), (argHolds_get hA (k := 3) rfl), (argHolds_get hA (k := 4) rfl), (argHolds_get hA (k := 5) rfl), trivial⟩), h3790⟩
                            · replace h4858 := itF hb4864 h4858
                              refine wc_F E4863 rfl hb4864 ?_
                              refine wp_skip ?_
                              refine block_normal ?_
                              obtain rfl := Option.some.inj h4858
                              replace H : St w Nil Z w4856 [vw (kSlice 3 (kInt .i64)) a0 [.slice p3 a0.length c4], vw (kSlice 38 k_api_Process) y35.Processes [.slice p37 y35.Processes.length c38], vw (kSlice 38 k_api_Process) y43.1.Processes [.slice p45 y43.1.Processes.length c46], vw (kSlice 38 k_api_Process) y79.1.Processes [.slice p81 y79.1.Processes.length c82], vw (kSlice 38 k_api_Process) x3781 [.slice p3782 x3781.length c3783]] ([[blk g22 [.slice p3 a0.length c4, .int .i64 (y4827.2)] 59], [], [], [blk g59 [.int .i64 x3779, .int .i64 x3780, .slice p3782 x3781.length c3783] 28], [], [row 81 k_api_Descriptor y103.1.Open (.slice p105 y103.1.Open.length c106)], [blk g117 [.int .i64 y103.1.PID, .int .i64 y103.1.PPID, .int .i64 y103.1.UID, .int .i64 y103.1.EUID, .int .i64 y103.1.GID, .int .i64 y103.1.EGID, .int .i64 y103.1.AUID, .int .i64 y103.1.Session, .int .i64 y103.1.Cwd.Dev, .int .i64 y103.1.Cwd.Ino, .string y103.1.Comm, .string y103.1.Exe, .slice p105 y103.1.Open.length c106, .bool y103.1.Audited] 38]] ++ [[row 38 k_api_Process y4832.1.Processes (.slice p4834 y4832.1.Processes.length c4835)], [blk g4846 [.int .i64 y4832.1.Next, .int .i64 y4832.1.NextSession, .slice p4834 y4832.1.Processes.length c4835] 28]]) := H
                              exact ⟨x3776, (y4827.2), x3779, x3780, x3781, p3782, c3783, E4863.pick ⟨rfl, rfl, rfl, rfl, rfl, rfl, rfl, rfl, rfl, rfl, rfl, rfl, rfl, rfl, rfl, rfl, rfl, rfl, rfl, rfl, rfl, rfl, rfl, rfl, rfl, rfl, rfl, rfl, rfl, rfl, rfl, rfl, rfl, rfl, rfl, rfl, rfl, rfl, rfl, rfl, rfl, rfl, rfl, rfl, rfl, rfl, rfl, rfl, rfl, rfl, rfl, rfl, rfl, rfl, rfl, rfl, rfl, rfl, trivial⟩, H.front.sel (fun Z hA => ⟨(argHolds_get hA (k := 0) rfl), (argHolds_get hA (k := 1) rfl), (argHolds_get hA (k := 2) rfl), (argHolds_get hA (k := 3) rfl), (argHolds_get hA (k := 4) rfl), (argHolds_get hA (k := 4) rfl), trivial⟩), h3790⟩
                          · refine wa_begin mixed (fun w_ => (∃ Z S, (blk g59 [.int .i64 x3779, .int .i64 x3780, .slice p3782 x3781.length c3783] 28).holds w_ Z S) ∧ True) [0] [3, 4, 8, 9] H rfl fun w4870 H' => ?_
                            clear H; have H := H'; clear H'
                            refine wa_takeS (i := 0) E4817 rfl (by kernel_rfl) (by kernel_rfl) (panic_join (panic_then (panic_block (panic_join (panic_then (panic_block (panic_then (panic_then (panic_block (panic_then panic_body)))))))))) rfl (fun w_ hS => rn_loadN (vs := [.int .i64 x3779, .int .i64 x3780, .slice p3782 x3781.length c3783]) E4817 rfl Try.underlying28 rfl ti28 rfl hS.1 rfl rfl) ⟨H.get (i := 3) (k := 0) rfl rfl, trivial⟩ rfl fun a4871 E4872 => ?_
                            clear E4817
                            refine wa_take (i := 1) E4872 rfl (by kernel_rfl) (panic_join (panic_then (panic_block (panic_join (panic_then (panic_block (panic_then (panic_then (panic_block (panic_then panic_body)))))))))) rfl (fun w_ => rn_move E4872 rfl rfl) rfl fun a4873 E4874 => ?_
                            clear E4872
                            refine wa_take (i := 2) E4874 rfl (by kernel_rfl) (panic_join (panic_then (panic_block (panic_join (panic_then (panic_block (panic_then (panic_then (panic_block (panic_then panic_body)))))))))) rfl (fun w_ => rn_move E4874 rfl rfl) rfl fun a4875 E4876 => ?_
                            clear E4874
                            refine wa_two (i := 3) (j := 8) rfl rfl (by kernel_rfl) (by kernel_rfl) ?_ ?_
                            · obtain ⟨y4877, hy4878, ho4298⟩ := bs ho4298
                              refine  (wl_funM (i := 0) E4876 H rfl (rn_call (args := [.pointer (some ⟨g22, 0, none⟩)]) E4876 rfl rfl rfl Try.func20 nm20 rfl) rfl rfl (by exact fun Z hA => ⟨(argHolds_get hA (k := 0) rfl), trivial⟩) (C20 (⟨a0, (y4469.2)⟩ : kauditmake_Src) g22 p3 c4 _ _ hy4878) ?_)
                              rintro v_ A_ I_ N_ w4881 a4879 ⟨rfl, rfl, rfl, rfl⟩ E4880 H'
                              replace H := H'; clear H' E4876
                              replace H : St w Nil Z w4881 [vw (kSlice 3 (kInt .i64)) a0 [.slice p3 a0.length c4], vw (kSlice 38 k_api_Process) y35.Processes [.slice p37 y35.Processes.length c38], vw (kSlice 38 k_api_Process) y43.1.Processes [.slice p45 y43.1.Processes.length c46], vw (kSlice 38 k_api_Process) y79.1.Processes [.slice p81 y79.1.Processes.length c82], vw (kSlice 38 k_api_Process) x3781 [.slice p3782 x3781.length c3783]] [[blk g22 [.slice p3 a0.length c4, .int .i64 (y4877.2)] 59], [], [], [blk g59 [.int .i64 x3779, .int .i64 x3780, .slice p3782 x3781.length c3783] 28], [], [row 81 k_api_Descriptor y103.1.Open (.slice p105 y103.1.Open.length c106)], [blk g117 [.int .i64 y103.1.PID, .int .i64 y103.1.PPID, .int .i64 y103.1.UID, .int .i64 y103.1.EUID, .int .i64 y103.1.GID, .int .i64 y103.1.EGID, .int .i64 y103.1.AUID, .int .i64 y103.1.Session, .int .i64 y103.1.Cwd.Dev, .int .i64 y103.1.Cwd.Ino, .string y103.1.Comm, .string y103.1.Exe, .slice p105 y103.1.Open.length c106, .bool y103.1.Audited] 38]] := H
                              refine ⟨fun _ => ⟨H.get (i := 3) (k := 0) rfl rfl, trivial⟩, ?_⟩
                              refine wa_two (i := 4) (j := 8) rfl rfl (by kernel_rfl) (by kernel_rfl) ?_ ?_
                              · obtain ⟨y4882, hy4883, ho4298⟩ := bs ho4298
                                refine  (wl_fun E4880 H rfl (rn_call (args := [.agg #[.int .i64 x3779, .int .i64 x3780, .slice p3782 x3781.length c3783], .int .i64 x3776, .string y4877.1, .string (⟨#[97]⟩ : ByteArray)]) E4880 rfl rfl rfl Try.func19 nm19 rfl) rfl (by exact fun Z hA => ⟨(argHolds_get hA (k := 4) rfl), trivial⟩) (C19 (⟨x3779, x3780, x3781⟩ : api_Table) x3776 y4877.1 (⟨#[97]⟩ : ByteArray) p3782 c3783 _ _ hy4883) ?_)
                                rintro v_ A_ N_ w4889 a4887 ⟨p4884, c4885, rfl, rfl, rfl⟩ E4888 H'
                                replace H := H'; clear H' E4880
                                replace H : St w Nil Z w4889 [vw (kSlice 3 (kInt .i64)) a0 [.slice p3 a0.length c4], vw (kSlice 38 k_api_Process) y35.Processes [.slice p37 y35.Processes.length c38], vw (kSlice 38 k_api_Process) y43.1.Processes [.slice p45 y43.1.Processes.length c46], vw (kSlice 38 k_api_Process) y79.1.Processes [.slice p81 y79.1.Processes.length c82], vw (kSlice 38 k_api_Process) x3781 [.slice p3782 x3781.length c3783]] [[blk g22 [.slice p3 a0.length c4, .int .i64 (y4877.2)] 59], [], [], [blk g59 [.int .i64 x3779, .int .i64 x3780, .slice p3782 x3781.length c3783] 28], [], [row 81 k_api_Descriptor y103.1.Open (.slice p105 y103.1.Open.length c106)], [blk g117 [.int .i64 y103.1.PID, .int .i64 y103.1.PPID, .int .i64 y103.1.UID, .int .i64 y103.1.EUID, .int .i64 y103.1.GID, .int .i64 y103.1.EGID, .int .i64 y103.1.AUID, .int .i64 y103.1.Session, .int .i64 y103.1.Cwd.Dev, .int .i64 y103.1.Cwd.Ino, .string y103.1.Comm, .string y103.1.Exe, .slice p105 y103.1.Open.length c106, .bool y103.1.Audited] 38], [row 38 k_api_Process y4882.1.Processes (.slice p4884 y4882.1.Processes.length c4885)]] := H
                                refine ⟨fun h_ => (needs_no (by kernel_rfl) h_).elim, ?_⟩
                                refine wa_take (i := 5) E4888 rfl (by kernel_rfl) (panic_join (panic_then (panic_block (panic_join (panic_then (panic_block (panic_then (panic_then (panic_block (panic_then panic_body)))))))))) rfl (fun w_ => rn_move E4888 rfl rfl) rfl fun a4890 E4891 => ?_
                                clear E4888
                                refine wa_take (i := 6) E4891 rfl (by kernel_rfl) (panic_join (panic_then (panic_block (panic_join (panic_then (panic_block (panic_then (panic_then (panic_block (panic_then panic_body)))))))))) rfl (fun w_ => rn_extract E4891 rfl rfl rfl) rfl fun a4892 E4893 => ?_
                                clear E4891
                                refine wa_take (i := 7) E4893 rfl (by kernel_rfl) (panic_join (panic_then (panic_block (panic_join (panic_then (panic_block (panic_then (panic_then (panic_block (panic_then panic_body)))))))))) rfl (fun w_ => rn_extract E4893 rfl rfl rfl) rfl fun a4894 E4895 => ?_
                                clear E4893
                                refine wa_only (i := 8) rfl (by kernel_rfl) (by kernel_rfl) (wl_alloc (cs := [.int .i64 0, .int .i64 0, .slice none 0 0]) E4895 H rfl ti28 rfl rfl fun g4896 w4897 a4898 E4899 H' => ?_)
                                clear H E4895; have H := H'; clear H'
                                refine ⟨fun _ => ⟨H.get (i := 3) (k := 0) rfl rfl, trivial⟩, ?_⟩
                                refine wa_only (i := 9) rfl (by kernel_rfl) (by kernel_rfl) (wl_store (i := 8) (vs := [.int .i64 y4882.1.Next, .int .i64 y4882.1.NextSession, .slice p4884 y4882.1.Processes.length c4885]) (cs' := [.int .i64 y4882.1.Next, .int .i64 y4882.1.NextSession, .slice p4884 y4882.1.Processes.length c4885]) E4899 H rfl rfl rfl rfl ti28 rfl rfl rfl rfl rfl rfl fun w4902 a4900 E4901 H' => ?_)
                                clear H E4899; have H := H'; clear H'
                                refine ⟨fun h_ => (needs_no (by kernel_rfl) h_).elim, ?_⟩
                                refine wa_take (i := 10) E4901 rfl (by kernel_rfl) (panic_join (panic_then (panic_block (panic_join (panic_then (panic_block (panic_then (panic_then (panic_block (panic_then panic_body)))))))))) rfl (fun w_ => rn_assign E4901 rfl rfl) rfl fun a4903 E4904 => ?_
                                clear E4901
                                refine wa_done (by kernel_rfl) ?_
                                exact ⟨g4896, y4882, p4884, c4885, y4877, E4904.pick ⟨rfl, rfl, rfl, rfl, rfl, rfl, rfl, rfl, rfl, rfl, rfl, rfl, rfl, rfl, rfl, rfl, rfl, rfl, rfl, rfl, rfl, rfl, rfl, rfl, rfl, rfl, rfl, rfl, rfl, rfl, rfl, rfl, rfl, rfl, rfl, rfl, rfl, rfl, rfl, rfl, rfl, rfl, rfl, rfl, rfl, rfl, rfl, rfl, rfl, rfl, rfl, rfl, rfl, rfl, rfl, rfl, rfl, rfl, rfl, rfl, rfl, rfl, rfl, rfl, rfl, rfl, rfl, rfl, rfl, rfl, rfl, rfl, rfl, rfl, rfl, rfl, rfl, rfl, trivial⟩, H.sel (fun Z hA => ⟨(argHolds_get hA (k := 0) rfl), (argHolds_get hA (k := 1) rfl), (argHolds_get hA (k := 2) rfl), (argHolds_get hA (k := 3) rfl), (argHolds_get hA (k := 4) rfl), trivial⟩), ho4298⟩
                              · refine  (wl_alloc (cs := [.int .i64 0, .int .i64 0, .slice none 0 0]) E4880 H rfl ti28 rfl rfl fun g4905 w4906 a4907 E4908 H' => ?_)
                                clear H E4880; have H := H'; clear H'
                                replace H : St w Nil Z w4906 [vw (kSlice 3 (kInt .i64)) a0 [.slice p3 a0.length c4], vw (kSlice 38 k_api_Process) y35.Processes [.slice p37 y35.Processes.length c38], vw (kSlice 38 k_api_Process) y43.1.Processes [.slice p45 y43.1.Processes.length c46], vw (kSlice 38 k_api_Process) y79.1.Processes [.slice p81 y79.1.Processes.length c82], vw (kSlice 38 k_api_Process) x3781 [.slice p3782 x3781.length c3783]] [[blk g22 [.slice p3 a0.length c4, .int .i64 (y4877.2)] 59], [], [], [blk g59 [.int .i64 x3779, .int .i64 x3780, .slice p3782 x3781.length c3783] 28], [], [row 81 k_api_Descriptor y103.1.Open (.slice p105 y103.1.Open.length c106)], [blk g117 [.int .i64 y103.1.PID, .int .i64 y103.1.PPID, .int .i64 y103.1.UID, .int .i64 y103.1.EUID, .int .i64 y103.1.GID, .int .i64 y103.1.EGID, .int .i64 y103.1.AUID, .int .i64 y103.1.Session, .int .i64 y103.1.Cwd.Dev, .int .i64 y103.1.Cwd.Ino, .string y103.1.Comm, .string y103.1.Exe, .slice p105 y103.1.Open.length c106, .bool y103.1.Audited] 38], [blk g4905 [.int .i64 0, .int .i64 0, .slice none 0 0] 28]] := H
                                refine ⟨fun _ => ⟨H.get (i := 3) (k := 0) rfl rfl, trivial⟩, ?_⟩
                                obtain ⟨y4909, hy4910, ho4298⟩ := bs ho4298
                                refine wa_only (i := 4) rfl (by kernel_rfl) (by kernel_rfl) (wl_fun E4908 H rfl (rn_call (args := [.agg #[.int .i64 x3779, .int .i64 x3780, .slice p3782 x3781.length c3783], .int .i64 x3776, .string y4877.1, .string (⟨#[97]⟩ : ByteArray)]) E4908 rfl rfl rfl Try.func19 nm19 rfl) rfl (by exact fun Z hA => ⟨(argHolds_get hA (k := 4) rfl), trivial⟩) (C19 (⟨x3779, x3780, x3781⟩ : api_Table) x3776 y4877.1 (⟨#[97]⟩ : ByteArray) p3782 c3783 _ _ hy4910) ?_)
                                rintro v_ A_ N_ w4916 a4914 ⟨p4911, c4912, rfl, rfl, rfl⟩ E4915 H'
                                replace H := H'; clear H' E4908
                                refine ⟨fun h_ => (needs_no (by kernel_rfl) h_).elim, ?_⟩
                                refine wa_take (i := 5) E4915 rfl (by kernel_rfl) (panic_join (panic_then (panic_block (panic_join (panic_then (panic_block (panic_then (panic_then (panic_block (panic_then panic_body)))))))))) rfl (fun w_ => rn_move E4915 rfl rfl) rfl fun a4917 E4918 => ?_
                                clear E4915
                                refine wa_take (i := 6) E4918 rfl (by kernel_rfl) (panic_join (panic_then (panic_block (panic_join (panic_then (panic_block (panic_then (panic_then (panic_block (panic_then panic_body)))))))))) rfl (fun w_ => rn_extract E4918 rfl rfl rfl) rfl fun a4919 E4920 => ?_
                                clear E4918
                                refine wa_take (i := 7) E4920 rfl (by kernel_rfl) (panic_join (panic_then (panic_block (panic_join (panic_then (panic_block (panic_then (panic_then (panic_block (panic_then panic_body)))))))))) rfl (fun w_ => rn_extract E4920 rfl rfl rfl) rfl fun a4921 E4922 => ?_
                                clear E4920
                                refine wa_only (i := 9) rfl (by kernel_rfl) (by kernel_rfl) (wl_store (i := 7) (vs := [.int .i64 y4909.1.Next, .int .i64 y4909.1.NextSession, .slice p4911 y4909.1.Processes.length c4912]) (cs' := [.int .i64 y4909.1.Next, .int .i64 y4909.1.NextSession, .slice p4911 y4909.1.Processes.length c4912]) E4922 H rfl rfl rfl rfl ti28 rfl rfl rfl rfl rfl rfl fun w4925 a4923 E4924 H' => ?_)
                                clear H E4922; have H := H'; clear H'
                                refine ⟨fun h_ => (needs_no (by kernel_rfl) h_).elim, ?_⟩
                                refine wa_take (i := 10) E4924 rfl (by kernel_rfl) (panic_join (panic_then (panic_block (panic_join (panic_then (panic_block (panic_then (panic_then (panic_block (panic_then panic_body)))))))))) rfl (fun w_ => rn_assign E4924 rfl rfl) rfl fun a4926 E4927 => ?_
                                clear E4924
                                refine wa_done (by kernel_rfl) ?_
                                replace H := H.toEnd 8 rfl
                                replace H := H.toEnd 7 rfl
                                replace H : St w Nil Z w4925 [vw (kSlice 3 (kInt .i64)) a0 [.slice p3 a0.length c4], vw (kSlice 38 k_api_Process) y35.Processes [.slice p37 y35.Processes.length c38], vw (kSlice 38 k_api_Process) y43.1.Processes [.slice p45 y43.1.Processes.length c46], vw (kSlice 38 k_api_Process) y79.1.Processes [.slice p81 y79.1.Processes.length c82], vw (kSlice 38 k_api_Process) x3781 [.slice p3782 x3781.length c3783]] [[blk g22 [.slice p3 a0.length c4, .int .i64 (y4877.2)] 59], [], [], [blk g59 [.int .i64 x3779, .int .i64 x3780, .slice p3782 x3781.length c3783] 28], [], [row 81 k_api_Descriptor y103.1.Open (.slice p105 y103.1.Open.length c106)], [blk g117 [.int .i64 y103.1.PID, .int .i64 y103.1.PPID, .int .i64 y103.1.UID, .int .i64 y103.1.EUID, .int .i64 y103.1.GID, .int .i64 y103.1.EGID, .int .i64 y103.1.AUID, .int .i64 y103.1.Session, .int .i64 y103.1.Cwd.Dev, .int .i64 y103.1.Cwd.Ino, .string y103.1.Comm, .string y103.1.Exe, .slice p105 y103.1.Open.length c106, .bool y103.1.Audited] 38], [row 38 k_api_Process y4909.1.Processes (.slice p4911 y4909.1.Processes.length c4912)], [blk g4905 [.int .i64 y4909.1.Next, .int .i64 y4909.1.NextSession, .slice p4911 y4909.1.Processes.length c4912] 28]] := H
                                exact ⟨g4905, y4909, p4911, c4912, y4877, E4927.pick ⟨rfl, rfl, rfl, rfl, rfl, rfl, rfl, rfl, rfl, rfl, rfl, rfl, rfl, rfl, rfl, rfl, rfl, rfl, rfl, rfl, rfl, rfl, rfl, rfl, rfl, rfl, rfl, rfl, rfl, rfl, rfl, rfl, rfl, rfl, rfl, rfl, rfl, rfl, rfl, rfl, rfl, rfl, rfl, rfl, rfl, rfl, rfl, rfl, rfl, rfl, rfl, rfl, rfl, rfl, rfl, rfl, rfl, rfl, rfl, rfl, rfl, rfl, rfl, rfl, rfl, rfl, rfl, rfl, rfl, rfl, rfl, rfl, rfl, rfl, rfl, rfl, rfl, rfl, trivial⟩, H.sel (fun Z hA => ⟨(argHolds_get hA (k := 0) rfl), (argHolds_get hA (k := 1) rfl), (argHolds_get hA (k := 2) rfl), (argHolds_get hA (k := 3) rfl), (argHolds_get hA (k := 4) rfl), trivial⟩), ho4298⟩
                            · refine  (wl_alloc (cs := [.int .i64 0, .int .i64 0, .slice none 0 0]) E4876 H rfl ti28 rfl rfl fun g4928 w4929 a4930 E4931 H' => ?_)
                              clear H E4876; have H := H'; clear H'
                              refine ⟨fun _ => ⟨H.get (i := 3) (k := 0) rfl rfl, trivial⟩, ?_⟩
                              obtain ⟨y4932, hy4933, ho4298⟩ := bs ho4298
                              refine wa_only (i := 3) rfl (by kernel_rfl) (by kernel_rfl) (wl_funM (i := 0) E4931 H rfl (rn_call (args := [.pointer (some ⟨g22, 0, none⟩)]) E4931 rfl rfl rfl Try.func20 nm20 rfl) rfl rfl (by exact fun Z hA => ⟨(argHolds_get hA (k := 0) rfl), trivial⟩) (C20 (⟨a0, (y4469.2)⟩ : kauditmake_Src) g22 p3 c4 _ _ hy4933) ?_)
                              rintro v_ A_ I_ N_ w4936 a4934 ⟨rfl, rfl, rfl, rfl⟩ E4935 H'
                              replace H := H'; clear H' E4931
                              replace H : St w Nil Z w4936 [vw (kSlice 3 (kInt .i64)) a0 [.slice p3 a0.length c4], vw (kSlice 38 k_api_Process) y35.Processes [.slice p37 y35.Processes.length c38], vw (kSlice 38 k_api_Process) y43.1.Processes [.slice p45 y43.1.Processes.length c46], vw (kSlice 38 k_api_Process) y79.1.Processes [.slice p81 y79.1.Processes.length c82], vw (kSlice 38 k_api_Process) x3781 [.slice p3782 x3781.length c3783]] [[blk g22 [.slice p3 a0.length c4, .int .i64 (y4932.2)] 59], [], [], [blk g59 [.int .i64 x3779, .int .i64 x3780, .slice p3782 x3781.length c3783] 28], [], [row 81 k_api_Descriptor y103.1.Open (.slice p105 y103.1.Open.length c106)], [blk g117 [.int .i64 y103.1.PID, .int .i64 y103.1.PPID, .int .i64 y103.1.UID, .int .i64 y103.1.EUID, .int .i64 y103.1.GID, .int .i64 y103.1.EGID, .int .i64 y103.1.AUID, .int .i64 y103.1.Session, .int .i64 y103.1.Cwd.Dev, .int .i64 y103.1.Cwd.Ino, .string y103.1.Comm, .string y103.1.Exe, .slice p105 y103.1.Open.length c106, .bool y103.1.Audited] 38], [blk g4928 [.int .i64 0, .int .i64 0, .slice none 0 0] 28]] := H
                              replace H : St w Nil Z w4936 [vw (kSlice 3 (kInt .i64)) a0 [.slice p3 a0.length c4], vw (kSlice 38 k_api_Process) y35.Processes [.slice p37 y35.Processes.length c38], vw (kSlice 38 k_api_Process) y43.1.Processes [.slice p45 y43.1.Processes.length c46], vw (kSlice 38 k_api_Process) y79.1.Processes [.slice p81 y79.1.Processes.length c82], vw (kSlice 38 k_api_Process) x3781 [.slice p3782 x3781.length c3783]] [[blk g22 [.slice p3 a0.length c4, .int .i64 (y4932.2)] 59], [], [], [blk g59 [.int .i64 x3779, .int .i64 x3780, .slice p3782 x3781.length c3783] 28], [], [row 81 k_api_Descriptor y103.1.Open (.slice p105 y103.1.Open.length c106)], [blk g117 [.int .i64 y103.1.PID, .int .i64 y103.1.PPID, .int .i64 y103.1.UID, .int .i64 y103.1.EUID, .int .i64 y103.1.GID, .int .i64 y103.1.EGID, .int .i64 y103.1.AUID, .int .i64 y103.1.Session, .int .i64 y103.1.Cwd.Dev, .int .i64 y103.1.Cwd.Ino, .string y103.1.Comm, .string y103.1.Exe, .slice p105 y103.1.Open.length c106, .bool y103.1.Audited] 38], [blk g4928 [.int .i64 0, .int .i64 0, .slice none 0 0] 28]] := H
                              refine ⟨fun _ => ⟨H.get (i := 3) (k := 0) rfl rfl, trivial⟩, ?_⟩
                              obtain ⟨y4937, hy4938, ho4298⟩ := bs ho4298
                              refine wa_only (i := 4) rfl (by kernel_rfl) (by kernel_rfl) (wl_fun E4935 H rfl (rn_call (args := [.agg #[.int .i64 x3779, .int .i64 x3780, .slice p3782 x3781.length c3783], .int .i64 x3776, .string y4932.1, .string (⟨#[97]⟩ : ByteArray)]) E4935 rfl rfl rfl Try.func19 nm19 rfl) rfl (by exact fun Z hA => ⟨(argHolds_get hA (k := 4) rfl), trivial⟩) (C19 (⟨x3779, x3780, x3781⟩ : api_Table) x3776 y4932.1 (⟨#[97]⟩ : ByteArray) p3782 c3783 _ _ hy4938) ?_)
                              rintro v_ A_ N_ w4944 a4942 ⟨p4939, c4940, rfl, rfl, rfl⟩ E4943 H'
                              replace H := H'; clear H' E4935
                              refine ⟨fun h_ => (needs_no (by kernel_rfl) h_).elim, ?_⟩
                              refine wa_take (i := 5) E4943 rfl (by kernel_rfl) (panic_join (panic_then (panic_block (panic_join (panic_then (panic_block (panic_then (panic_then (panic_block (panic_then panic_body)))))))))) rfl (fun w_ => rn_move E4943 rfl rfl) rfl fun a4945 E4946 => ?_
                              clear E4943
                              refine wa_take (i := 6) E4946 rfl (by kernel_rfl) (panic_join (panic_then (panic_block (panic_join (panic_then (panic_block (panic_then (panic_then (panic_block (panic_then panic_body)))))))))) rfl (fun w_ => rn_extract E4946 rfl rfl rfl) rfl fun a4947 E4948 => ?_
                              clear E4946
                              refine wa_take (i := 7) E4948 rfl (by kernel_rfl) (panic_join (panic_then (panic_block (panic_join (panic_then (panic_block (panic_then (panic_then (panic_block (panic_then panic_body)))))))))) rfl (fun w_ => rn_extract E4948 rfl rfl rfl) rfl fun a4949 E4950 => ?_
                              clear E4948
                              refine wa_only (i := 9) rfl (by kernel_rfl) (by kernel_rfl) (wl_store (i := 7) (vs := [.int .i64 y4937.1.Next, .int .i64 y4937.1.NextSession, .slice p4939 y4937.1.Processes.length c4940]) (cs' := [.int .i64 y4937.1.Next, .int .i64 y4937.1.NextSession, .slice p4939 y4937.1.Processes.length c4940]) E4950 H rfl rfl rfl rfl ti28 rfl rfl rfl rfl rfl rfl fun w4953 a4951 E4952 H' => ?_)
                              clear H E4950; have H := H'; clear H'
                              refine ⟨fun h_ => (needs_no (by kernel_rfl) h_).elim, ?_⟩
                              refine wa_take (i := 10) E4952 rfl (by kernel_rfl) (panic_join (panic_then (panic_block (panic_join (panic_then (panic_block (panic_then (panic_then (panic_block (panic_then panic_body)))))))))) rfl (fun w_ => rn_assign E4952 rfl rfl) rfl fun a4954 E4955 => ?_
                              clear E4952
                              refine wa_done (by kernel_rfl) ?_
                              replace H := H.toEnd 8 rfl
                              replace H := H.toEnd 7 rfl
                              replace H : St w Nil Z w4953 [vw (kSlice 3 (kInt .i64)) a0 [.slice p3 a0.length c4], vw (kSlice 38 k_api_Process) y35.Processes [.slice p37 y35.Processes.length c38], vw (kSlice 38 k_api_Process) y43.1.Processes [.slice p45 y43.1.Processes.length c46], vw (kSlice 38 k_api_Process) y79.1.Processes [.slice p81 y79.1.Processes.length c82], vw (kSlice 38 k_api_Process) x3781 [.slice p3782 x3781.length c3783]] [[blk g22 [.slice p3 a0.length c4, .int .i64 (y4932.2)] 59], [], [], [blk g59 [.int .i64 x3779, .int .i64 x3780, .slice p3782 x3781.length c3783] 28], [], [row 81 k_api_Descriptor y103.1.Open (.slice p105 y103.1.Open.length c106)], [blk g117 [.int .i64 y103.1.PID, .int .i64 y103.1.PPID, .int .i64 y103.1.UID, .int .i64 y103.1.EUID, .int .i64 y103.1.GID, .int .i64 y103.1.EGID, .int .i64 y103.1.AUID, .int .i64 y103.1.Session, .int .i64 y103.1.Cwd.Dev, .int .i64 y103.1.Cwd.Ino, .string y103.1.Comm, .string y103.1.Exe, .slice p105 y103.1.Open.length c106, .bool y103.1.Audited] 38], [row 38 k_api_Process y4937.1.Processes (.slice p4939 y4937.1.Processes.length c4940)], [blk g4928 [.int .i64 y4937.1.Next, .int .i64 y4937.1.NextSession, .slice p4939 y4937.1.Processes.length c4940] 28]] := H
                              exact ⟨g4928, y4937, p4939, c4940, y4932, E4955.pick ⟨rfl, rfl, rfl, rfl, rfl, rfl, rfl, rfl, rfl, rfl, rfl, rfl, rfl, rfl, rfl, rfl, rfl, rfl, rfl, rfl, rfl, rfl, rfl, rfl, rfl, rfl, rfl, rfl, rfl, rfl, rfl, rfl, rfl, rfl, rfl, rfl, rfl, rfl, rfl, rfl, rfl, rfl, rfl, rfl, rfl, rfl, rfl, rfl, rfl, rfl, rfl, rfl, rfl, rfl, rfl, rfl, rfl, rfl, rfl, rfl, rfl, rfl, rfl, rfl, rfl, rfl, rfl, rfl, rfl, rfl, rfl, rfl, rfl, rfl, rfl, rfl, rfl, rfl, trivial⟩, H.sel (fun Z hA => ⟨(argHolds_get hA (k := 0) rfl), (argHolds_get hA (k := 1) rfl), (argHolds_get hA (k := 2) rfl), (argHolds_get hA (k := 3) rfl), (argHolds_get hA (k := 4) rfl), trivial⟩), ho4298⟩
                        · replace ho4298 := itF hb4818 ho4298
                          refine wc_F E4817 rfl hb4818 ?_
                          refine wp_skip ?_
                          refine block_normal ?_
                          obtain rfl := Option.some.inj ho4298
                          replace H : St w Nil Z w4473 [vw (kSlice 3 (kInt .i64)) a0 [.slice p3 a0.length c4], vw (kSlice 38 k_api_Process) y35.Processes [.slice p37 y35.Processes.length c38], vw (kSlice 38 k_api_Process) y43.1.Processes [.slice p45 y43.1.Processes.length c46], vw (kSlice 38 k_api_Process) y79.1.Processes [.slice p81 y79.1.Processes.length c82], vw (kSlice 38 k_api_Process) x3781 [.slice p3782 x3781.length c3783]] ([[blk g22 [.slice p3 a0.length c4, .int .i64 (y4469.2)] 59], [], [], [blk g59 [.int .i64 x3779, .int .i64 x3780, .slice p3782 x3781.length c3783] 28], [], [row 81 k_api_Descriptor y103.1.Open (.slice p105 y103.1.Open.length c106)], [blk g117 [.int .i64 y103.1.PID, .int .i64 y103.1.PPID, .int .i64 y103.1.UID, .int .i64 y103.1.EUID, .int .i64 y103.1.GID, .int .i64 y103.1.EGID, .int .i64 y103.1.AUID, .int .i64 y103.1.Session, .int .i64 y103.1.Cwd.Dev, .int .i64 y103.1.Cwd.Ino, .string y103.1.Comm, .string y103.1.Exe, .slice p105 y103.1.Open.length c106, .bool y103.1.Audited] 38]] ++ []) := H
                          exact ⟨x3776, (y4469.2), x3779, x3780, x3781, p3782, c3783, E4817.pick ⟨rfl, rfl, rfl, rfl, rfl, rfl, rfl, rfl, rfl, rfl, rfl, rfl, rfl, rfl, rfl, rfl, rfl, rfl, rfl, rfl, rfl, rfl, rfl, rfl, rfl, rfl, rfl, rfl, rfl, rfl, rfl, rfl, rfl, rfl, rfl, rfl, rfl, rfl, rfl, rfl, rfl, rfl, rfl, rfl, rfl, rfl, rfl, rfl, rfl, rfl, rfl, rfl, rfl, rfl, rfl, rfl, rfl, rfl, trivial⟩, H.front.sel (fun Z hA => ⟨(argHolds_get hA (k := 0) rfl), (argHolds_get hA (k := 1) rfl), (argHolds_get hA (k := 2) rfl), (argHolds_get hA (k := 3) rfl), (argHolds_get hA (k := 4) rfl), (argHolds_get hA (k := 4) rfl), trivial⟩), h3790⟩
              · replace h3790 := itF hb3797 h3790
                refine wc_F E3796 rfl hb3797 ?_
                refine wp_exit ?_
                obtain rfl := Option.some.inj h3790
                try dsimp only at h
                refine then_exit (then_exit (block_exit (?_)))
                refine then_normal (hK265 _ _ ?_)
                refine wp_seq_k fun _ hK4956 => ?_
                refine wp_region_lit ?_
                obtain ⟨y4957, hy4958, h⟩ := bs h
                refine wl_cons (wl_fun E3796 H rfl (rn_call (args := []) E3796 rfl rfl rfl Try.func15 nm15 rfl) rfl (by exact fun Z hA => trivial) (C15  _ _ hy4958) ?_)
                rintro v_ A_ N_ w4961 a4959 ⟨rfl, rfl, rfl⟩ E4960 H'
                replace H := H'; clear H' E3796
                replace H : St w Nil Z w4961 [vw (kSlice 3 (kInt .i64)) a0 [.slice p3 a0.length c4], vw (kSlice 38 k_api_Process) y35.Processes [.slice p37 y35.Processes.length c38], vw (kSlice 38 k_api_Process) y43.1.Processes [.slice p45 y43.1.Processes.length c46], vw (kSlice 38 k_api_Process) y79.1.Processes [.slice p81 y79.1.Processes.length c82], vw (kSlice 38 k_api_Process) x3781 [.slice p3782 x3781.length c3783]] [[blk g22 [.slice p3 a0.length c4, .int .i64 x3778] 59], [], [], [blk g59 [.int .i64 x3779, .int .i64 x3780, .slice p3782 x3781.length c3783] 28], [], [row 81 k_api_Descriptor y103.1.Open (.slice p105 y103.1.Open.length c106)], [blk g117 [.int .i64 y103.1.PID, .int .i64 y103.1.PPID, .int .i64 y103.1.UID, .int .i64 y103.1.EUID, .int .i64 y103.1.GID, .int .i64 y103.1.EGID, .int .i64 y103.1.AUID, .int .i64 y103.1.Session, .int .i64 y103.1.Cwd.Dev, .int .i64 y103.1.Cwd.Ino, .string y103.1.Comm, .string y103.1.Exe, .slice p105 y103.1.Open.length c106, .bool y103.1.Audited] 38]] := H
                refine wl_cons (wl_val E4960 rfl (rn_assign E4960 rfl rfl) rfl fun a4962 E4963 => ?_)
                clear E4960
                refine wl_nil ?_
                refine then_normal (hK4956 _ _ ?_)
                refine wp_ret ?_
                refine ?_
                obtain rfl := Option.some.inj h
                refine wb_ret1 E4963 rfl (rv_tmp E4963 rfl) ?_
                exact ⟨_, rfl, [], [], ⟨rfl, rfl, rfl⟩, H.leave (fun Z hA => trivial) (fun Z S hA hL => trivial)⟩
      · replace h := itF hb226 h
        refine wl_cons (wl_pass E225 (E225.unwanted rfl rfl rfl (congrArg Bool.not hb226)) rfl fun a4964 E4965 => ?_)
        clear E225
        refine wl_cons (wl_pass E4965 (E4965.unwanted rfl rfl rfl (congrArg Bool.not hb226)) rfl fun a4966 E4967 => ?_)
        clear E4965
        refine wl_cons (wl_pass E4967 (E4967.unwanted rfl rfl rfl (congrArg Bool.not hb226)) rfl fun a4968 E4969 => ?_)
        clear E4967
        refine wl_cons (wl_pass E4969 (E4969.unwanted rfl rfl rfl (congrArg Bool.not hb226)) rfl fun a4970 E4971 => ?_)
        clear E4969
        refine wl_cons (wl_pass E4971 (E4971.unwanted rfl rfl rfl (congrArg Bool.not hb226)) rfl fun a4972 E4973 => ?_)
        clear E4971
        refine wl_cons (wl_val E4973 rfl (rn_pickT E4973 rfl rfl (congrArg Bool.not hb226) rfl) rfl fun a4974 E4975 => ?_)
        clear E4973
        refine wl_cons (wl_val E4975 rfl (rn_move E4975 rfl rfl) rfl fun a4976 E4977 => ?_)
        clear E4975
        refine wl_cons (wl_pass E4977 (E4977.unwanted rfl rfl rfl rfl) rfl fun a4978 E4979 => ?_)
        clear E4977
        refine wl_cons (wl_pass E4979 (E4979.unwanted rfl rfl rfl rfl) rfl fun a4980 E4981 => ?_)
        clear E4979
        refine wl_cons (wl_pass E4981 (E4981.unwanted rfl rfl rfl rfl) rfl fun a4982 E4983 => ?_)
        clear E4981
        refine wl_cons (wl_val E4983 rfl (rn_pickT E4983 rfl rfl rfl rfl) rfl fun a4984 E4985 => ?_)
        clear E4983
        refine wl_nil ?_
        refine then_normal (hK127 _ _ ?_)
        refine wc_T E4985 rfl rfl ?_
        refine wp_seq_k fun _ hK4986 => ?_
        refine wp_region_lit ?_
        refine wl_cons (wl_val E4985 rfl (rn_assign E4985 rfl rfl) rfl fun a4987 E4988 => ?_)
        clear E4985
        refine wl_nil ?_
        refine then_normal (hK4986 _ _ ?_)
        refine wp_ret ?_
        refine then_ret (?_)
        obtain rfl := Option.some.inj h
        refine wb_ret1 E4988 rfl (rv_tmp E4988 rfl) ?_
        exact ⟨_, rfl, [], [], ⟨rfl, rfl, rfl⟩, H.leave (fun Z hA => trivial) (fun Z S hA hL => trivial)⟩
theorem C4_flat {r : Bool} : ∀ v_ A_ N_, (fun (v_ : Value) (A_ : List VP) (N_ : List (List SP)) => v_ = .bool r ∧ A_ = [] ∧ N_ = []) v_ A_ N_ → A_ = [] ∧ Flat N_ := by
  rintro v_ A_ N_ ⟨rfl, rfl, rfl⟩
  exact ⟨rfl, flat_nil⟩
end Go.Proofs.Ytanimjbmkhpnaaa.Gx
