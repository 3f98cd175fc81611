/- Function 43, kaudit/kauditref09.SameProcess: what it answers as a plain function, and that the Go code comes to exactly that (where the plain function gives an answer). -/
import Derived.Test.YtanimjbmkhpnaaaXT
set_option linter.unusedVariables false
set_option linter.unusedSimpArgs false
namespace Go.Proofs.Ytanimjbmkhpnaaa.Gx
open Go.Gx Go.RowKit
/-! ### kaudit/kauditref09.SameProcess: function 43 -/
def f_kauditref09_SameProcess_l1 (a0 : api_Process) (a1 : api_Process) : Nat → Int → Option (Sum (Unit) (Bool))
  | 0, _ => none
  | k_ + 1, x1356 => if (decide (x1356 < (a0.Open.length : Int))) = true then ((at_ a0.Open x1356).bind fun u1386 => (at_ a1.Open x1356).bind fun u1402 => if ((u1386.FD == u1402.FD) && (((u1386.File.Dev == u1402.File.Dev) && ((u1386.File.Ino == u1402.File.Ino) && true)) && ((u1386.Flags == u1402.Flags) && true))) = true then (f_kauditref09_SameProcess_l1 a0 a1 k_ (IntKind.wrap .i64 (x1356 + 1))) else (some (Sum.inr (false)))) else (some (Sum.inl ()))
def f_kauditref09_SameProcess (a0 : api_Process) (a1 : api_Process) : Option (Bool) := if (a0.PID != a1.PID) = true then (some (false)) else (if (a0.PPID != a1.PPID) = true then (some (false)) else (if (a0.UID != a1.UID) = true then (some (false)) else (if (a0.EUID != a1.EUID) = true then (some (false)) else (if (a0.GID != a1.GID) = true then (some (false)) else (if (a0.EGID != a1.EGID) = true then (some (false)) else (if (a0.AUID != a1.AUID) = true then (some (false)) else (if (a0.Session != a1.Session) = true then (some (false)) else (if ((a0.Cwd.Dev == a1.Cwd.Dev) && ((a0.Cwd.Ino == a1.Cwd.Ino) && true)) = true then (if (a0.Comm.toList == a1.Comm.toList) = true then (if (a0.Exe.toList == a1.Exe.toList) = true then (if (a0.Audited != a1.Audited) = true then (some (false)) else (if ((a0.Open.length : Int) != (a1.Open.length : Int)) = true then (some (false)) else ((f_kauditref09_SameProcess_l1 a0 a1 (((((a0.Open.length : Int) : Int) - (0)).toNat + 1)) 0).bind fun o_ => match o_ with | Sum.inl _ => some (true) | Sum.inr r_ => some (r_)))) else (some (false))) else (some (false))) else (some (false))))))))))
set_option maxHeartbeats 4000000 in
set_option maxRecDepth 100000 in
theorem C43 (a0 : api_Process) (a1 : api_Process) (p5 : Option Addr) (c6 : Nat) (p7 : Option Addr) (c8 : Nat) (r : Bool) (w : World) (h : f_kauditref09_SameProcess a0 a1 = some r) : Fun Try.prog 43 #[.agg #[.int .i64 a0.PID, .int .i64 a0.PPID, .int .i64 a0.UID, .int .i64 a0.EUID, .int .i64 a0.GID, .int .i64 a0.EGID, .int .i64 a0.AUID, .int .i64 a0.Session, .int .i64 a0.Cwd.Dev, .int .i64 a0.Cwd.Ino, .string a0.Comm, .string a0.Exe, .slice p5 a0.Open.length c6, .bool a0.Audited], .agg #[.int .i64 a1.PID, .int .i64 a1.PPID, .int .i64 a1.UID, .int .i64 a1.EUID, .int .i64 a1.GID, .int .i64 a1.EGID, .int .i64 a1.AUID, .int .i64 a1.Session, .int .i64 a1.Cwd.Dev, .int .i64 a1.Cwd.Ino, .string a1.Comm, .string a1.Exe, .slice p7 a1.Open.length c8, .bool a1.Audited]] w [vw (kSlice 81 k_api_Descriptor) a0.Open [.slice p5 a0.Open.length c6], vw (kSlice 81 k_api_Descriptor) a1.Open [.slice p7 a1.Open.length c8]] (fun (v_ : Value) (A_ : List VP) (N_ : List (List SP)) => v_ = .bool r ∧ A_ = [] ∧ N_ = []) := by
  unfold f_kauditref09_SameProcess at h
  refine fun_begin (args := [.agg #[.int .i64 a0.PID, .int .i64 a0.PPID, .int .i64 a0.UID, .int .i64 a0.EUID, .int .i64 a0.GID, .int .i64 a0.EGID, .int .i64 a0.AUID, .int .i64 a0.Session, .int .i64 a0.Cwd.Dev, .int .i64 a0.Cwd.Ino, .string a0.Comm, .string a0.Exe, .slice p5 a0.Open.length c6, .bool a0.Audited], .agg #[.int .i64 a1.PID, .int .i64 a1.PPID, .int .i64 a1.UID, .int .i64 a1.EUID, .int .i64 a1.GID, .int .i64 a1.EGID, .int .i64 a1.AUID, .int .i64 a1.Session, .int .i64 a1.Cwd.Dev, .int .i64 a1.Cwd.Ino, .string a1.Comm, .string a1.Exe, .slice p7 a1.Open.length c8, .bool a1.Audited]]) Try.func43 rfl Try.ntmps43 rfl fun Z a E H => ?_
  refine wp_seq_k fun _ hK9 => ?_
  refine wp_region_lit ?_
  refine wl_cons (wl_box (T := 38) (cs := [.int .i64 a0.PID, .int .i64 a0.PPID, .int .i64 a0.UID, .int .i64 a0.EUID, .int .i64 a0.GID, .int .i64 a0.EGID, .int .i64 a0.AUID, .int .i64 a0.Session, .int .i64 a0.Cwd.Dev, .int .i64 a0.Cwd.Ino, .string a0.Comm, .string a0.Exe, .slice p5 a0.Open.length c6, .bool a0.Audited]) E H rfl rfl rfl rfl fun g10 w11 a12 E13 H' => ?_)
  clear H E; have H := H'; clear H'
  refine wl_cons (wl_box (T := 38) (cs := [.int .i64 a1.PID, .int .i64 a1.PPID, .int .i64 a1.UID, .int .i64 a1.EUID, .int .i64 a1.GID, .int .i64 a1.EGID, .int .i64 a1.AUID, .int .i64 a1.Session, .int .i64 a1.Cwd.Dev, .int .i64 a1.Cwd.Ino, .string a1.Comm, .string a1.Exe, .slice p7 a1.Open.length c8, .bool a1.Audited]) E13 H rfl rfl rfl rfl fun g14 w15 a16 E17 H' => ?_)
  clear H E13; have H := H'; clear H'
  refine wl_cons (wl_val E17 rfl (rn_assign E17 rfl rfl) rfl fun a18 E19 => ?_)
  clear E17
  refine wl_nil ?_
  refine then_normal (hK9 _ _ ?_)
  refine wp_seq_k fun _ hK20 => ?_
  refine wp_seq_k fun _ hK21 => ?_
  refine wp_region_lit ?_
  refine wl_cons (wl_val E19 rfl (rn_fieldAddr E19 rfl Try.underlying38 rfl ti3 rfl rfl) rfl fun a22 E23 => ?_)
  clear E19
  refine wl_cons (wl_val E23 rfl (rn_ld1 (i := 0) E23 H rfl Try.underlying3 rfl rfl rfl rfl) rfl fun a24 E25 => ?_)
  clear E23
  refine wl_cons (wl_val E25 rfl (rn_fieldAddr E25 rfl Try.underlying38 rfl ti3 rfl rfl) rfl fun a26 E27 => ?_)
  clear E25
  refine wl_cons (wl_val E27 rfl (rn_ld1 (i := 1) E27 H rfl Try.underlying3 rfl rfl rfl rfl) rfl fun a28 E29 => ?_)
  clear E27
  refine wl_cons (wl_val E29 rfl (rn_int E29 rfl rfl rfl rfl) rfl fun a30 E31 => ?_)
  clear E29
  refine wl_cons (wl_val E31 rfl (rn_move E31 rfl rfl) rfl fun a32 E33 => ?_)
  clear E31
  rcases Bool.eq_false_or_eq_true (a0.PID != a1.PID) with hb34 | hb34
  · replace h := itT hb34 h
    refine wl_cons (wl_pass E33 (E33.unwanted rfl rfl rfl hb34) rfl fun a35 E36 => ?_)
    clear E33
    refine wl_cons (wl_pass E36 (E36.unwanted rfl rfl rfl hb34) rfl fun a37 E38 => ?_)
    clear E36
    refine wl_cons (wl_pass E38 (E38.unwanted rfl rfl rfl hb34) rfl fun a39 E40 => ?_)
    clear E38
    refine wl_cons (wl_pass E40 (E40.unwanted rfl rfl rfl hb34) rfl fun a41 E42 => ?_)
    clear E40
    refine wl_cons (wl_pass E42 (E42.unwanted rfl rfl rfl hb34) rfl fun a43 E44 => ?_)
    clear E42
    refine wl_cons (wl_val E44 rfl (rn_pickT E44 rfl rfl hb34 rfl) rfl fun a45 E46 => ?_)
    clear E44
    refine wl_cons (wl_val E46 rfl (rn_move E46 rfl rfl) rfl fun a47 E48 => ?_)
    clear E46
    refine wl_cons (wl_pass E48 (E48.unwanted rfl rfl rfl rfl) rfl fun a49 E50 => ?_)
    clear E48
    refine wl_cons (wl_pass E50 (E50.unwanted rfl rfl rfl rfl) rfl fun a51 E52 => ?_)
    clear E50
    refine wl_cons (wl_pass E52 (E52.unwanted rfl rfl rfl rfl) rfl fun a53 E54 => ?_)
    clear E52
    refine wl_cons (wl_pass E54 (E54.unwanted rfl rfl rfl rfl) rfl fun a55 E56 => ?_)
    clear E54
    refine wl_cons (wl_pass E56 (E56.unwanted rfl rfl rfl rfl) rfl fun a57 E58 => ?_)
    clear E56
    refine wl_cons (wl_val E58 rfl (rn_pickT E58 rfl rfl rfl rfl) rfl fun a59 E60 => ?_)
    clear E58
    refine wl_cons (wl_val E60 rfl (rn_move E60 rfl rfl) rfl fun a61 E62 => ?_)
    clear E60
    refine wl_cons (wl_pass E62 (E62.unwanted rfl rfl rfl rfl) rfl fun a63 E64 => ?_)
    clear E62
    refine wl_cons (wl_pass E64 (E64.unwanted rfl rfl rfl rfl) rfl fun a65 E66 => ?_)
    clear E64
    refine wl_cons (wl_pass E66 (E66.unwanted rfl rfl rfl rfl) rfl fun a67 E68 => ?_)
    clear E66
    refine wl_cons (wl_pass E68 (E68.unwanted rfl rfl rfl rfl) rfl fun a69 E70 => ?_)
    clear E68
    refine wl_cons (wl_pass E70 (E70.unwanted rfl rfl rfl rfl) rfl fun a71 E72 => ?_)
    clear E70
    refine wl_cons (wl_val E72 rfl (rn_pickT E72 rfl rfl rfl rfl) rfl fun a73 E74 => ?_)
    clear E72
    refine wl_cons (wl_val E74 rfl (rn_move E74 rfl rfl) rfl fun a75 E76 => ?_)
    clear E74
    refine wl_cons (wl_pass E76 (E76.unwanted rfl rfl rfl rfl) rfl fun a77 E78 => ?_)
    clear E76
    refine wl_cons (wl_pass E78 (E78.unwanted rfl rfl rfl rfl) rfl fun a79 E80 => ?_)
    clear E78
    refine wl_cons (wl_pass E80 (E80.unwanted rfl rfl rfl rfl) rfl fun a81 E82 => ?_)
    clear E80
    refine wl_cons (wl_pass E82 (E82.unwanted rfl rfl rfl rfl) rfl fun a83 E84 => ?_)
    clear E82
    refine wl_cons (wl_pass E84 (E84.unwanted rfl rfl rfl rfl) rfl fun a85 E86 => ?_)
    clear E84
    refine wl_cons (wl_val E86 rfl (rn_pickT E86 rfl rfl rfl rfl) rfl fun a87 E88 => ?_)
    clear E86
    refine wl_cons (wl_val E88 rfl (rn_move E88 rfl rfl) rfl fun a89 E90 => ?_)
    clear E88
    refine wl_cons (wl_pass E90 (E90.unwanted rfl rfl rfl rfl) rfl fun a91 E92 => ?_)
    clear E90
    refine wl_cons (wl_pass E92 (E92.unwanted rfl rfl rfl rfl) rfl fun a93 E94 => ?_)
    clear E92
    refine wl_cons (wl_pass E94 (E94.unwanted rfl rfl rfl rfl) rfl fun a95 E96 => ?_)
    clear E94
    refine wl_cons (wl_pass E96 (E96.unwanted rfl rfl rfl rfl) rfl fun a97 E98 => ?_)
    clear E96
    refine wl_cons (wl_pass E98 (E98.unwanted rfl rfl rfl rfl) rfl fun a99 E100 => ?_)
    clear E98
    refine wl_cons (wl_val E100 rfl (rn_pickT E100 rfl rfl rfl rfl) rfl fun a101 E102 => ?_)
    clear E100
    refine wl_cons (wl_val E102 rfl (rn_move E102 rfl rfl) rfl fun a103 E104 => ?_)
    clear E102
    refine wl_cons (wl_pass E104 (E104.unwanted rfl rfl rfl rfl) rfl fun a105 E106 => ?_)
    clear E104
    refine wl_cons (wl_pass E106 (E106.unwanted rfl rfl rfl rfl) rfl fun a107 E108 => ?_)
    clear E106
    refine wl_cons (wl_pass E108 (E108.unwanted rfl rfl rfl rfl) rfl fun a109 E110 => ?_)
    clear E108
    refine wl_cons (wl_pass E110 (E110.unwanted rfl rfl rfl rfl) rfl fun a111 E112 => ?_)
    clear E110
    refine wl_cons (wl_pass E112 (E112.unwanted rfl rfl rfl rfl) rfl fun a113 E114 => ?_)
    clear E112
    refine wl_cons (wl_val E114 rfl (rn_pickT E114 rfl rfl rfl rfl) rfl fun a115 E116 => ?_)
    clear E114
    refine wl_cons (wl_val E116 rfl (rn_move E116 rfl rfl) rfl fun a117 E118 => ?_)
    clear E116
    refine wl_cons (wl_pass E118 (E118.unwanted rfl rfl rfl rfl) rfl fun a119 E120 => ?_)
    clear E118
    refine wl_cons (wl_pass E120 (E120.unwanted rfl rfl rfl rfl) rfl fun a121 E122 => ?_)
    clear E120
    refine wl_cons (wl_pass E122 (E122.unwanted rfl rfl rfl rfl) rfl fun a123 E124 => ?_)
    clear E122
    refine wl_cons (wl_pass E124 (E124.unwanted rfl rfl rfl rfl) rfl fun a125 E126 => ?_)
    clear E124
    refine wl_cons (wl_pass E126 (E126.unwanted rfl rfl rfl rfl) rfl fun a127 E128 => ?_)
    clear E126
    refine wl_cons (wl_val E128 rfl (rn_pickT E128 rfl rfl rfl rfl) rfl fun a129 E130 => ?_)
    clear E128
    refine wl_cons (wl_val E130 rfl (rn_move E130 rfl rfl) rfl fun a131 E132 => ?_)
    clear E130
    refine wl_cons (wl_pass E132 (E132.unwanted rfl rfl rfl rfl) rfl fun a133 E134 => ?_)
    clear E132
    refine wl_cons (wl_pass E134 (E134.unwanted rfl rfl rfl rfl) rfl fun a135 E136 => ?_)
    clear E134
    refine wl_cons (wl_pass E136 (E136.unwanted rfl rfl rfl rfl) rfl fun a137 E138 => ?_)
    clear E136
    refine wl_cons (wl_pass E138 (E138.unwanted rfl rfl rfl rfl) rfl fun a139 E140 => ?_)
    clear E138
    refine wl_cons (wl_pass E140 (E140.unwanted rfl rfl rfl rfl) rfl fun a141 E142 => ?_)
    clear E140
    refine wl_cons (wl_val E142 rfl (rn_pickT E142 rfl rfl rfl rfl) rfl fun a143 E144 => ?_)
    clear E142
    refine wl_cons (wl_val E144 rfl (rn_move E144 rfl rfl) rfl fun a145 E146 => ?_)
    clear E144
    refine wl_cons (wl_pass E146 (E146.unwanted rfl rfl rfl rfl) rfl fun a147 E148 => ?_)
    clear E146
    refine wl_cons (wl_pass E148 (E148.unwanted rfl rfl rfl rfl) rfl fun a149 E150 => ?_)
    clear E148
    refine wl_cons (wl_pass E150 (E150.unwanted rfl rfl rfl rfl) rfl fun a151 E152 => ?_)
    clear E150
    refine wl_cons (wl_pass E152 (E152.unwanted rfl rfl rfl rfl) rfl fun a153 E154 => ?_)
    clear E152
    refine wl_cons (wl_pass E154 (E154.unwanted rfl rfl rfl rfl) rfl fun a155 E156 => ?_)
    clear E154
    refine wl_cons (wl_val E156 rfl (rn_pickT E156 rfl rfl rfl rfl) rfl fun a157 E158 => ?_)
    clear E156
    refine wl_cons (wl_val E158 rfl (rn_move E158 rfl rfl) rfl fun a159 E160 => ?_)
    clear E158
    refine wl_cons (wl_pass E160 (E160.unwanted rfl rfl rfl rfl) rfl fun a161 E162 => ?_)
    clear E160
    refine wl_cons (wl_pass E162 (E162.unwanted rfl rfl rfl rfl) rfl fun a163 E164 => ?_)
    clear E162
    refine wl_cons (wl_pass E164 (E164.unwanted rfl rfl rfl rfl) rfl fun a165 E166 => ?_)
    clear E164
    refine wl_cons (wl_pass E166 (E166.unwanted rfl rfl rfl rfl) rfl fun a167 E168 => ?_)
    clear E166
    refine wl_cons (wl_pass E168 (E168.unwanted rfl rfl rfl rfl) rfl fun a169 E170 => ?_)
    clear E168
    refine wl_cons (wl_val E170 rfl (rn_pickT E170 rfl rfl rfl rfl) rfl fun a171 E172 => ?_)
    clear E170
    refine wl_cons (wl_val E172 rfl (rn_move E172 rfl rfl) rfl fun a173 E174 => ?_)
    clear E172
    refine wl_cons (wl_pass E174 (E174.unwanted rfl rfl rfl rfl) rfl fun a175 E176 => ?_)
    clear E174
    refine wl_cons (wl_pass E176 (E176.unwanted rfl rfl rfl rfl) rfl fun a177 E178 => ?_)
    clear E176
    refine wl_cons (wl_pass E178 (E178.unwanted rfl rfl rfl rfl) rfl fun a179 E180 => ?_)
    clear E178
    refine wl_cons (wl_pass E180 (E180.unwanted rfl rfl rfl rfl) rfl fun a181 E182 => ?_)
    clear E180
    refine wl_cons (wl_pass E182 (E182.unwanted rfl rfl rfl rfl) rfl fun a183 E184 => ?_)
    clear E182
    refine wl_cons (wl_val E184 rfl (rn_pickT E184 rfl rfl rfl rfl) rfl fun a185 E186 => ?_)
    clear E184
    refine wl_cons (wl_val E186 rfl (rn_move E186 rfl rfl) rfl fun a187 E188 => ?_)
    clear E186
    refine wl_cons (wl_pass E188 (E188.unwanted rfl rfl rfl rfl) rfl fun a189 E190 => ?_)
    clear E188
    refine wl_cons (wl_pass E190 (E190.unwanted rfl rfl rfl rfl) rfl fun a191 E192 => ?_)
    clear E190
    refine wl_cons (wl_pass E192 (E192.unwanted rfl rfl rfl rfl) rfl fun a193 E194 => ?_)
    clear E192
    refine wl_cons (wl_pass E194 (E194.unwanted rfl rfl rfl rfl) rfl fun a195 E196 => ?_)
    clear E194
    refine wl_cons (wl_pass E196 (E196.unwanted rfl rfl rfl rfl) rfl fun a197 E198 => ?_)
    clear E196
    refine wl_cons (wl_pass E198 (E198.unwanted rfl rfl rfl rfl) rfl fun a199 E200 => ?_)
    clear E198
    refine wl_cons (wl_pass E200 (E200.unwanted rfl rfl rfl rfl) rfl fun a201 E202 => ?_)
    clear E200
    refine wl_cons (wl_val E202 rfl (rn_pickT E202 rfl rfl rfl rfl) rfl fun a203 E204 => ?_)
    clear E202
    refine wl_nil ?_
    refine then_normal (hK21 _ _ ?_)
    refine wc_T E204 rfl rfl ?_
    refine wp_seq_k fun _ hK205 => ?_
    refine wp_region_lit ?_
    refine wl_cons (wl_val E204 rfl (rn_assign E204 rfl rfl) rfl fun a206 E207 => ?_)
    clear E204
    refine wl_nil ?_
    refine then_normal (hK205 _ _ ?_)
    refine wp_ret ?_
    refine then_ret (?_)
    obtain rfl := Option.some.inj h
    refine wb_ret1 E207 rfl (rv_tmp E207 rfl) ?_
    exact ⟨_, rfl, [], [], ⟨rfl, rfl, rfl⟩, H.leave (fun Z hA => trivial) (fun Z S hA hL => trivial)⟩
  · replace h := itF hb34 h
    refine wl_cons (wl_val E33 (E33.wantedB rfl rfl rfl hb34) (rn_fieldAddr E33 rfl Try.underlying38 rfl ti3 rfl rfl) rfl fun a208 E209 => ?_)
    clear E33
    refine wl_cons (wl_val E209 (E209.wantedB rfl rfl rfl hb34) (rn_ld1 (i := 0) E209 H rfl Try.underlying3 rfl rfl rfl rfl) rfl fun a210 E211 => ?_)
    clear E209
    refine wl_cons (wl_val E211 (E211.wantedB rfl rfl rfl hb34) (rn_fieldAddr E211 rfl Try.underlying38 rfl ti3 rfl rfl) rfl fun a212 E213 => ?_)
    clear E211
    refine wl_cons (wl_val E213 (E213.wantedB rfl rfl rfl hb34) (rn_ld1 (i := 1) E213 H rfl Try.underlying3 rfl rfl rfl rfl) rfl fun a214 E215 => ?_)
    clear E213
    refine wl_cons (wl_val E215 (E215.wantedB rfl rfl rfl hb34) (rn_int E215 rfl rfl rfl rfl) rfl fun a216 E217 => ?_)
    clear E215
    refine wl_cons (wl_val E217 rfl (rn_pickF E217 rfl rfl hb34 rfl) rfl fun a218 E219 => ?_)
    clear E217
    refine wl_cons (wl_val E219 rfl (rn_move E219 rfl rfl) rfl fun a220 E221 => ?_)
    clear E219
    rcases Bool.eq_false_or_eq_true (a0.PPID != a1.PPID) with hb222 | hb222
    · replace h := itT hb222 h
      refine wl_cons (wl_pass E221 (E221.unwanted rfl rfl rfl hb222) rfl fun a223 E224 => ?_)
      clear E221
      refine wl_cons (wl_pass E224 (E224.unwanted rfl rfl rfl hb222) rfl fun a225 E226 => ?_)
      clear E224
      refine wl_cons (wl_pass E226 (E226.unwanted rfl rfl rfl hb222) rfl fun a227 E228 => ?_)
      clear E226
      refine wl_cons (wl_pass E228 (E228.unwanted rfl rfl rfl hb222) rfl fun a229 E230 => ?_)
      clear E228
      refine wl_cons (wl_pass E230 (E230.unwanted rfl rfl rfl hb222) rfl fun a231 E232 => ?_)
      clear E230
      refine wl_cons (wl_val E232 rfl (rn_pickT E232 rfl rfl hb222 rfl) rfl fun a233 E234 => ?_)
      clear E232
      refine wl_cons (wl_val E234 rfl (rn_move E234 rfl rfl) rfl fun a235 E236 => ?_)
      clear E234
      refine wl_cons (wl_pass E236 (E236.unwanted rfl rfl rfl rfl) rfl fun a237 E238 => ?_)
      clear E236
      refine wl_cons (wl_pass E238 (E238.unwanted rfl rfl rfl rfl) rfl fun a239 E240 => ?_)
      clear E238
      refine wl_cons (wl_pass E240 (E240.unwanted rfl rfl rfl rfl) rfl fun a241 E242 => ?_)
      clear E240
      refine wl_cons (wl_pass E242 (E242.unwanted rfl rfl rfl rfl) rfl fun a243 E244 => ?_)
      clear E242
      refine wl_cons (wl_pass E244 (E244.unwanted rfl rfl rfl rfl) rfl fun a245 E246 => ?_)
      clear E244
      refine wl_cons (wl_val E246 rfl (rn_pickT E246 rfl rfl rfl rfl) rfl fun a247 E248 => ?_)
      clear E246
      refine wl_cons (wl_val E248 rfl (rn_move E248 rfl rfl) rfl fun a249 E250 => ?_)
      clear E248
      refine wl_cons (wl_pass E250 (E250.unwanted rfl rfl rfl rfl) rfl fun a251 E252 => ?_)
      clear E250
      refine wl_cons (wl_pass E252 (E252.unwanted rfl rfl rfl rfl) rfl fun a253 E254 => ?_)
      clear E252
      refine wl_cons (wl_pass E254 (E254.unwanted rfl rfl rfl rfl) rfl fun a255 E256 => ?_)
      clear E254
      refine wl_cons (wl_pass E256 (E256.unwanted rfl rfl rfl rfl) rfl fun a257 E258 => ?_)
      clear E256
      refine wl_cons (wl_pass E258 (E258.unwanted rfl rfl rfl rfl) rfl fun a259 E260 => ?_)
      clear E258
      refine wl_cons (wl_val E260 rfl (rn_pickT E260 rfl rfl rfl rfl) rfl fun a261 E262 => ?_)
      clear E260
      refine wl_cons (wl_val E262 rfl (rn_move E262 rfl rfl) rfl fun a263 E264 => ?_)
      clear E262
      refine wl_cons (wl_pass E264 (E264.unwanted rfl rfl rfl rfl) rfl fun a265 E266 => ?_)
      clear E264
      refine wl_cons (wl_pass E266 (E266.unwanted rfl rfl rfl rfl) rfl fun a267 E268 => ?_)
      clear E266
      refine wl_cons (wl_pass E268 (E268.unwanted rfl rfl rfl rfl) rfl fun a269 E270 => ?_)
      clear E268
      refine wl_cons (wl_pass E270 (E270.unwanted rfl rfl rfl rfl) rfl fun a271 E272 => ?_)
      clear E270
      refine wl_cons (wl_pass E272 (E272.unwanted rfl rfl rfl rfl) rfl fun a273 E274 => ?_)
      clear E272
      refine wl_cons (wl_val E274 rfl (rn_pickT E274 rfl rfl rfl rfl) rfl fun a275 E276 => ?_)
      clear E274
      refine wl_cons (wl_val E276 rfl (rn_move E276 rfl rfl) rfl fun a277 E278 => ?_)
      clear E276
      refine wl_cons (wl_pass E278 (E278.unwanted rfl rfl rfl rfl) rfl fun a279 E280 => ?_)
      clear E278
      refine wl_cons (wl_pass E280 (E280.unwanted rfl rfl rfl rfl) rfl fun a281 E282 => ?_)
      clear E280
      refine wl_cons (wl_pass E282 (E282.unwanted rfl rfl rfl rfl) rfl fun a283 E284 => ?_)
      clear E282
      refine wl_cons (wl_pass E284 (E284.unwanted rfl rfl rfl rfl) rfl fun a285 E286 => ?_)
      clear E284
      refine wl_cons (wl_pass E286 (E286.unwanted rfl rfl rfl rfl) rfl fun a287 E288 => ?_)
      clear E286
      refine wl_cons (wl_val E288 rfl (rn_pickT E288 rfl rfl rfl rfl) rfl fun a289 E290 => ?_)
      clear E288
      refine wl_cons (wl_val E290 rfl (rn_move E290 rfl rfl) rfl fun a291 E292 => ?_)
      clear E290
      refine wl_cons (wl_pass E292 (E292.unwanted rfl rfl rfl rfl) rfl fun a293 E294 => ?_)
      clear E292
      refine wl_cons (wl_pass E294 (E294.unwanted rfl rfl rfl rfl) rfl fun a295 E296 => ?_)
      clear E294
      refine wl_cons (wl_pass E296 (E296.unwanted rfl rfl rfl rfl) rfl fun a297 E298 => ?_)
      clear E296
      refine wl_cons (wl_pass E298 (E298.unwanted rfl rfl rfl rfl) rfl fun a299 E300 => ?_)
      clear E298
      refine wl_cons (wl_pass E300 (E300.unwanted rfl rfl rfl rfl) rfl fun a301 E302 => ?_)
      clear E300
      refine wl_cons (wl_val E302 rfl (rn_pickT E302 rfl rfl rfl rfl) rfl fun a303 E304 => ?_)
      clear E302
      refine wl_cons (wl_val E304 rfl (rn_move E304 rfl rfl) rfl fun a305 E306 => ?_)
      clear E304
      refine wl_cons (wl_pass E306 (E306.unwanted rfl rfl rfl rfl) rfl fun a307 E308 => ?_)
      clear E306
      refine wl_cons (wl_pass E308 (E308.unwanted rfl rfl rfl rfl) rfl fun a309 E310 => ?_)
      clear E308
      refine wl_cons (wl_pass E310 (E310.unwanted rfl rfl rfl rfl) rfl fun a311 E312 => ?_)
      clear E310
      refine wl_cons (wl_pass E312 (E312.unwanted rfl rfl rfl rfl) rfl fun a313 E314 => ?_)
      clear E312
      refine wl_cons (wl_pass E314 (E314.unwanted rfl rfl rfl rfl) rfl fun a315 E316 => ?_)
      clear E314
      refine wl_cons (wl_val E316 rfl (rn_pickT E316 rfl rfl rfl rfl) rfl fun a317 E318 => ?_)
      clear E316
      refine wl_cons (wl_val E318 rfl (rn_move E318 rfl rfl) rfl fun a319 E320 => ?_)
      clear E318
      refine wl_cons (wl_pass E320 (E320.unwanted rfl rfl rfl rfl) rfl fun a321 E322 => ?_)
      clear E320
      refine wl_cons (wl_pass E322 (E322.unwanted rfl rfl rfl rfl) rfl fun a323 E324 => ?_)
      clear E322
      refine wl_cons (wl_pass E324 (E324.unwanted rfl rfl rfl rfl) rfl fun a325 E326 => ?_)
      clear E324
      refine wl_cons (wl_pass E326 (E326.unwanted rfl rfl rfl rfl) rfl fun a327 E328 => ?_)
      clear E326
      refine wl_cons (wl_pass E328 (E328.unwanted rfl rfl rfl rfl) rfl fun a329 E330 => ?_)
      clear E328
      refine wl_cons (wl_val E330 rfl (rn_pickT E330 rfl rfl rfl rfl) rfl fun a331 E332 => ?_)
      clear E330
      refine wl_cons (wl_val E332 rfl (rn_move E332 rfl rfl) rfl fun a333 E334 => ?_)
      clear E332
      refine wl_cons (wl_pass E334 (E334.unwanted rfl rfl rfl rfl) rfl fun a335 E336 => ?_)
      clear E334
      refine wl_cons (wl_pass E336 (E336.unwanted rfl rfl rfl rfl) rfl fun a337 E338 => ?_)
      clear E336
      refine wl_cons (wl_pass E338 (E338.unwanted rfl rfl rfl rfl) rfl fun a339 E340 => ?_)
      clear E338
      refine wl_cons (wl_pass E340 (E340.unwanted rfl rfl rfl rfl) rfl fun a341 E342 => ?_)
      clear E340
      refine wl_cons (wl_pass E342 (E342.unwanted rfl rfl rfl rfl) rfl fun a343 E344 => ?_)
      clear E342
      refine wl_cons (wl_val E344 rfl (rn_pickT E344 rfl rfl rfl rfl) rfl fun a345 E346 => ?_)
      clear E344
      refine wl_cons (wl_val E346 rfl (rn_move E346 rfl rfl) rfl fun a347 E348 => ?_)
      clear E346
      refine wl_cons (wl_pass E348 (E348.unwanted rfl rfl rfl rfl) rfl fun a349 E350 => ?_)
      clear E348
      refine wl_cons (wl_pass E350 (E350.unwanted rfl rfl rfl rfl) rfl fun a351 E352 => ?_)
      clear E350
      refine wl_cons (wl_pass E352 (E352.unwanted rfl rfl rfl rfl) rfl fun a353 E354 => ?_)
      clear E352
      refine wl_cons (wl_pass E354 (E354.unwanted rfl rfl rfl rfl) rfl fun a355 E356 => ?_)
      clear E354
      refine wl_cons (wl_pass E356 (E356.unwanted rfl rfl rfl rfl) rfl fun a357 E358 => ?_)
      clear E356
      refine wl_cons (wl_val E358 rfl (rn_pickT E358 rfl rfl rfl rfl) rfl fun a359 E360 => ?_)
      clear E358
      refine wl_cons (wl_val E360 rfl (rn_move E360 rfl rfl) rfl fun a361 E362 => ?_)
      clear E360
      refine wl_cons (wl_pass E362 (E362.unwanted rfl rfl rfl rfl) rfl fun a363 E364 => ?_)
      clear E362
      refine wl_cons (wl_pass E364 (E364.unwanted rfl rfl rfl rfl) rfl fun a365 E366 => ?_)
      clear E364
      refine wl_cons (wl_pass E366 (E366.unwanted rfl rfl rfl rfl) rfl fun a367 E368 => ?_)
      clear E366
      refine wl_cons (wl_pass E368 (E368.unwanted rfl rfl rfl rfl) rfl fun a369 E370 => ?_)
      clear E368
      refine wl_cons (wl_pass E370 (E370.unwanted rfl rfl rfl rfl) rfl fun a371 E372 => ?_)
      clear E370
      refine wl_cons (wl_pass E372 (E372.unwanted rfl rfl rfl rfl) rfl fun a373 E374 => ?_)
      clear E372
      refine wl_cons (wl_pass E374 (E374.unwanted rfl rfl rfl rfl) rfl fun a375 E376 => ?_)
      clear E374
      refine wl_cons (wl_val E376 rfl (rn_pickT E376 rfl rfl rfl rfl) rfl fun a377 E378 => ?_)
      clear E376
      refine wl_nil ?_
      refine then_normal (hK21 _ _ ?_)
      refine wc_T E378 rfl rfl ?_
      refine wp_seq_k fun _ hK379 => ?_
      refine wp_region_lit ?_
      refine wl_cons (wl_val E378 rfl (rn_assign E378 rfl rfl) rfl fun a380 E381 => ?_)
      clear E378
      refine wl_nil ?_
      refine then_normal (hK379 _ _ ?_)
      refine wp_ret ?_
      refine then_ret (?_)
      obtain rfl := Option.some.inj h
      refine wb_ret1 E381 rfl (rv_tmp E381 rfl) ?_
      exact ⟨_, rfl, [], [], ⟨rfl, rfl, rfl⟩, H.leave (fun Z hA => trivial) (fun Z S hA hL => trivial)⟩
    · replace h := itF hb222 h
      refine wl_cons (wl_val E221 (E221.wantedB rfl rfl rfl hb222) (rn_fieldAddr E221 rfl Try.underlying38 rfl ti3 rfl rfl) rfl fun a382 E383 => ?_)
      clear E221
      refine wl_cons (wl_val E383 (E383.wantedB rfl rfl rfl hb222) (rn_ld1 (i := 0) E383 H rfl Try.underlying3 rfl rfl rfl rfl) rfl fun a384 E385 => ?_)
      clear E383
      refine wl_cons (wl_val E385 (E385.wantedB rfl rfl rfl hb222) (rn_fieldAddr E385 rfl Try.underlying38 rfl ti3 rfl rfl) rfl fun a386 E387 => ?_)
      clear E385
      refine wl_cons (wl_val E387 (E387.wantedB rfl rfl rfl hb222) (rn_ld1 (i := 1) E387 H rfl Try.underlying3 rfl rfl rfl rfl) rfl fun a388 E389 => ?_)
      clear E387
      refine wl_cons (wl_val E389 (E389.wantedB rfl rfl rfl hb222) (rn_int E389 rfl rfl rfl rfl) rfl fun a390 E391 => ?_)
      clear E389
      refine wl_cons (wl_val E391 rfl (rn_pickF E391 rfl rfl hb222 rfl) rfl fun a392 E393 => ?_)
      clear E391
      refine wl_cons (wl_val E393 rfl (rn_move E393 rfl rfl) rfl fun a394 E395 => ?_)
      clear E393
      rcases Bool.eq_false_or_eq_true (a0.UID != a1.UID) with hb396 | hb396
      · replace h := itT hb396 h
        refine wl_cons (wl_pass E395 (E395.unwanted rfl rfl rfl hb396) rfl fun a397 E398 => ?_)
        clear E395
        refine wl_cons (wl_pass E398 (E398.unwanted rfl rfl rfl hb396) rfl fun a399 E400 => ?_)
        clear E398
        refine wl_cons (wl_pass E400 (E400.unwanted rfl rfl rfl hb396) rfl fun a401 E402 => ?_)
        clear E400
        refine wl_cons (wl_pass E402 (E402.unwanted rfl rfl rfl hb396) rfl fun a403 E404 => ?_)
        clear E402
        refine wl_cons (wl_pass E404 (E404.unwanted rfl rfl rfl hb396) rfl fun a405 E406 => ?_)
        clear E404
        refine wl_cons (wl_val E406 rfl (rn_pickT E406 rfl rfl hb396 rfl) rfl fun a407 E408 => ?_)
        clear E406
        refine wl_cons (wl_val E408 rfl (rn_move E408 rfl rfl) rfl fun a409 E410 => ?_)
        clear E408
        refine wl_cons (wl_pass E410 (E410.unwanted rfl rfl rfl rfl) rfl fun a411 E412 => ?_)
        clear E410
        refine wl_cons (wl_pass E412 (E412.unwanted rfl rfl rfl rfl) rfl fun a413 E414 => ?_)
        clear E412
        refine wl_cons (wl_pass E414 (E414.unwanted rfl rfl rfl rfl) rfl fun a415 E416 => ?_)
        clear E414
        refine wl_cons (wl_pass E416 (E416.unwanted rfl rfl rfl rfl) rfl fun a417 E418 => ?_)
        clear E416
        refine wl_cons (wl_pass E418 (E418.unwanted rfl rfl rfl rfl) rfl fun a419 E420 => ?_)
        clear E418
        refine wl_cons (wl_val E420 rfl (rn_pickT E420 rfl rfl rfl rfl) rfl fun a421 E422 => ?_)
        clear E420
        refine wl_cons (wl_val E422 rfl (rn_move E422 rfl rfl) rfl fun a423 E424 => ?_)
        clear E422
        refine wl_cons (wl_pass E424 (E424.unwanted rfl rfl rfl rfl) rfl fun a425 E426 => ?_)
        clear E424
        refine wl_cons (wl_pass E426 (E426.unwanted rfl rfl rfl rfl) rfl fun a427 E428 => ?_)
        clear E426
        refine wl_cons (wl_pass E428 (E428.unwanted rfl rfl rfl rfl) rfl fun a429 E430 => ?_)
        clear E428
        refine wl_cons (wl_pass E430 (E430.unwanted rfl rfl rfl rfl) rfl fun a431 E432 => ?_)
        clear E430
        refine wl_cons (wl_pass E432 (E432.unwanted rfl rfl rfl rfl) rfl fun a433 E434 => ?_)
        clear E432
        refine wl_cons (wl_val E434 rfl (rn_pickT E434 rfl rfl rfl rfl) rfl fun a435 E436 => ?_)
        clear E434
        refine wl_cons (wl_val E436 rfl (rn_move E436 rfl rfl) rfl fun a437 E438 => ?_)
        clear E436
        refine wl_cons (wl_pass E438 (E438.unwanted rfl rfl rfl rfl) rfl fun a439 E440 => ?_)
        clear E438
        refine wl_cons (wl_pass E440 (E440.unwanted rfl rfl rfl rfl) rfl fun a441 E442 => ?_)
        clear E440
        refine wl_cons (wl_pass E442 (E442.unwanted rfl rfl rfl rfl) rfl fun a443 E444 => ?_)
        clear E442
        refine wl_cons (wl_pass E444 (E444.unwanted rfl rfl rfl rfl) rfl fun a445 E446 => ?_)
        clear E444
        refine wl_cons (wl_pass E446 (E446.unwanted rfl rfl rfl rfl) rfl fun a447 E448 => ?_)
        clear E446
        refine wl_cons (wl_val E448 rfl (rn_pickT E448 rfl rfl rfl rfl) rfl fun a449 E450 => ?_)
        clear E448
        refine wl_cons (wl_val E450 rfl (rn_move E450 rfl rfl) rfl fun a451 E452 => ?_)
        clear E450
        refine wl_cons (wl_pass E452 (E452.unwanted rfl rfl rfl rfl) rfl fun a453 E454 => ?_)
        clear E452
        refine wl_cons (wl_pass E454 (E454.unwanted rfl rfl rfl rfl) rfl fun a455 E456 => ?_)
        clear E454
        refine wl_cons (wl_pass E456 (E456.unwanted rfl rfl rfl rfl) rfl fun a457 E458 => ?_)
        clear E456
        refine wl_cons (wl_pass E458 (E458.unwanted rfl rfl rfl rfl) rfl fun a459 E460 => ?_)
        clear E458
        refine wl_cons (wl_pass E460 (E460.unwanted rfl rfl rfl rfl) rfl fun a461 E462 => ?_)
        clear E460
        refine wl_cons (wl_val E462 rfl (rn_pickT E462 rfl rfl rfl rfl) rfl fun a463 E464 => ?_)
        clear E462
        refine wl_cons (wl_val E464 rfl (rn_move E464 rfl rfl) rfl fun a465 E466 => ?_)
        clear E464
        refine wl_cons (wl_pass E466 (E466.unwanted rfl rfl rfl rfl) rfl fun a467 E468 => ?_)
        clear E466
        refine wl_cons (wl_pass E468 (E468.unwanted rfl rfl rfl rfl) rfl fun a469 E470 => ?_)
        clear E468
        refine wl_cons (wl_pass E470 (E470.unwanted rfl rfl rfl rfl) rfl fun a471 E472 => ?_)
        clear E470
        refine wl_cons (wl_pass E472 (E472.unwanted rfl rfl rfl rfl) rfl fun a473 E474 => ?_)
        clear E472
        refine wl_cons (wl_pass E474 (E474.unwanted rfl rfl rfl rfl) rfl fun a475 E476 => ?_)
        clear E474
        refine wl_cons (wl_val E476 rfl (rn_pickT E476 rfl rfl rfl rfl) rfl fun a477 E478 => ?_)
        clear E476
        refine wl_cons (wl_val E478 rfl (rn_move E478 rfl rfl) rfl fun a479 E480 => ?_)
        clear E478
        refine wl_cons (wl_pass E480 (E480.unwanted rfl rfl rfl rfl) rfl fun a481 E482 => ?_)
        clear E480
        refine wl_cons (wl_pass E482 (E482.unwanted rfl rfl rfl rfl) rfl fun a483 E484 => ?_)
        clear E482
        refine wl_cons (wl_pass E484 (E484.unwanted rfl rfl rfl rfl) rfl fun a485 E486 => ?_)
        clear E484
        refine wl_cons (wl_pass E486 (E486.unwanted rfl rfl rfl rfl) rfl fun a487 E488 => ?_)
        clear E486
        refine wl_cons (wl_pass E488 (E488.unwanted rfl rfl rfl rfl) rfl fun a489 E490 => ?_)
        clear E488
        refine wl_cons (wl_val E490 rfl (rn_pickT E490 rfl rfl rfl rfl) rfl fun a491 E492 => ?_)
        clear E490
        refine wl_cons (wl_val E492 rfl (rn_move E492 rfl rfl) rfl fun a493 E494 => ?_)
        clear E492
        refine wl_cons (wl_pass E494 (E494.unwanted rfl rfl rfl rfl) rfl fun a495 E496 => ?_)
        clear E494
        refine wl_cons (wl_pass E496 (E496.unwanted rfl rfl rfl rfl) rfl fun a497 E498 => ?_)
        clear E496
        refine wl_cons (wl_pass E498 (E498.unwanted rfl rfl rfl rfl) rfl fun a499 E500 => ?_)
        clear E498
        refine wl_cons (wl_pass E500 (E500.unwanted rfl rfl rfl rfl) rfl fun a501 E502 => ?_)
        clear E500
        refine wl_cons (wl_pass E502 (E502.unwanted rfl rfl rfl rfl) rfl fun a503 E504 => ?_)
        clear E502
        refine wl_cons (wl_val E504 rfl (rn_pickT E504 rfl rfl rfl rfl) rfl fun a505 E506 => ?_)
        clear E504
        refine wl_cons (wl_val E506 rfl (rn_move E506 rfl rfl) rfl fun a507 E508 => ?_)
        clear E506
        refine wl_cons (wl_pass E508 (E508.unwanted rfl rfl rfl rfl) rfl fun a509 E510 => ?_)
        clear E508
        refine wl_cons (wl_pass E510 (E510.unwanted rfl rfl rfl rfl) rfl fun a511 E512 => ?_)
        clear E510
        refine wl_cons (wl_pass E512 (E512.unwanted rfl rfl rfl rfl) rfl fun a513 E514 => ?_)
        clear E512
        refine wl_cons (wl_pass E514 (E514.unwanted rfl rfl rfl rfl) rfl fun a515 E516 => ?_)
        clear E514
        refine wl_cons (wl_pass E516 (E516.unwanted rfl rfl rfl rfl) rfl fun a517 E518 => ?_)
        clear E516
        refine wl_cons (wl_val E518 rfl (rn_pickT E518 rfl rfl rfl rfl) rfl fun a519 E520 => ?_)
        clear E518
        refine wl_cons (wl_val E520 rfl (rn_move E520 rfl rfl) rfl fun a521 E522 => ?_)
        clear E520
        refine wl_cons (wl_pass E522 (E522.unwanted rfl rfl rfl rfl) rfl fun a523 E524 => ?_)
        clear E522
        refine wl_cons (wl_pass E524 (E524.unwanted rfl rfl rfl rfl) rfl fun a525 E526 => ?_)
        clear E524
        refine wl_cons (wl_pass E526 (E526.unwanted rfl rfl rfl rfl) rfl fun a527 E528 => ?_)
        clear E526
        refine wl_cons (wl_pass E528 (E528.unwanted rfl rfl rfl rfl) rfl fun a529 E530 => ?_)
        clear E528
        refine wl_cons (wl_pass E530 (E530.unwanted rfl rfl rfl rfl) rfl fun a531 E532 => ?_)
        clear E530
        refine wl_cons (wl_pass E532 (E532.unwanted rfl rfl rfl rfl) rfl fun a533 E534 => ?_)
        clear E532
        refine wl_cons (wl_pass E534 (E534.unwanted rfl rfl rfl rfl) rfl fun a535 E536 => ?_)
        clear E534
        refine wl_cons (wl_val E536 rfl (rn_pickT E536 rfl rfl rfl rfl) rfl fun a537 E538 => ?_)
        clear E536
        refine wl_nil ?_
        refine then_normal (hK21 _ _ ?_)
        refine wc_T E538 rfl rfl ?_
        refine wp_seq_k fun _ hK539 => ?_
        refine wp_region_lit ?_
        refine wl_cons (wl_val E538 rfl (rn_assign E538 rfl rfl) rfl fun a540 E541 => ?_)
        clear E538
        refine wl_nil ?_
        refine then_normal (hK539 _ _ ?_)
        refine wp_ret ?_
        refine then_ret (?_)
        obtain rfl := Option.some.inj h
        refine wb_ret1 E541 rfl (rv_tmp E541 rfl) ?_
        exact ⟨_, rfl, [], [], ⟨rfl, rfl, rfl⟩, H.leave (fun Z hA => trivial) (fun Z S hA hL => trivial)⟩
      · replace h := itF hb396 h
        refine wl_cons (wl_val E395 (E395.wantedB rfl rfl rfl hb396) (rn_fieldAddr E395 rfl Try.underlying38 rfl ti3 rfl rfl) rfl fun a542 E543 => ?_)
        clear E395
        refine wl_cons (wl_val E543 (E543.wantedB rfl rfl rfl hb396) (rn_ld1 (i := 0) E543 H rfl Try.underlying3 rfl rfl rfl rfl) rfl fun a544 E545 => ?_)
        clear E543
        refine wl_cons (wl_val E545 (E545.wantedB rfl rfl rfl hb396) (rn_fieldAddr E545 rfl Try.underlying38 rfl ti3 rfl rfl) rfl fun a546 E547 => ?_)
        clear E545
        refine wl_cons (wl_val E547 (E547.wantedB rfl rfl rfl hb396) (rn_ld1 (i := 1) E547 H rfl Try.underlying3 rfl rfl rfl rfl) rfl fun a548 E549 => ?_)
        clear E547
        refine wl_cons (wl_val E549 (E549.wantedB rfl rfl rfl hb396) (rn_int E549 rfl rfl rfl rfl) rfl fun a550 E551 => ?_)
        clear E549
        refine wl_cons (wl_val E551 rfl (rn_pickF E551 rfl rfl hb396 rfl) rfl fun a552 E553 => ?_)
        clear E551
        refine wl_cons (wl_val E553 rfl (rn_move E553 rfl rfl) rfl fun a554 E555 => ?_)
        clear E553
        rcases Bool.eq_false_or_eq_true (a0.EUID != a1.EUID) with hb556 | hb556
        · replace h := itT hb556 h
          refine wl_cons (wl_pass E555 (E555.unwanted rfl rfl rfl hb556) rfl fun a557 E558 => ?_)
          clear E555
          refine wl_cons (wl_pass E558 (E558.unwanted rfl rfl rfl hb556) rfl fun a559 E560 => ?_)
          clear E558
          refine wl_cons (wl_pass E560 (E560.unwanted rfl rfl rfl hb556) rfl fun a561 E562 => ?_)
          clear E560
          refine wl_cons (wl_pass E562 (E562.unwanted rfl rfl rfl hb556) rfl fun a563 E564 => ?_)
          clear E562
          refine wl_cons (wl_pass E564 (E564.unwanted rfl rfl rfl hb556) rfl fun a565 E566 => ?_)
          clear E564
          refine wl_cons (wl_val E566 rfl (rn_pickT E566 rfl rfl hb556 rfl) rfl fun a567 E568 => ?_)
          clear E566
          refine wl_cons (wl_val E568 rfl (rn_move E568 rfl rfl) rfl fun a569 E570 => ?_)
          clear E568
          refine wl_cons (wl_pass E570 (E570.unwanted rfl rfl rfl rfl) rfl fun a571 E572 => ?_)
          clear E570
          refine wl_cons (wl_pass E572 (E572.unwanted rfl rfl rfl rfl) rfl fun a573 E574 => ?_)
          clear E572
          refine wl_cons (wl_pass E574 (E574.unwanted rfl rfl rfl rfl) rfl fun a575 E576 => ?_)
          clear E574
          refine wl_cons (wl_pass E576 (E576.unwanted rfl rfl rfl rfl) rfl fun a577 E578 => ?_)
          clear E576
          refine wl_cons (wl_pass E578 (E578.unwanted rfl rfl rfl rfl) rfl fun a579 E580 => ?_)
          clear E578
          refine wl_cons (wl_val E580 rfl (rn_pickT E580 rfl rfl rfl rfl) rfl fun a581 E582 => ?_)
          clear E580
          refine wl_cons (wl_val E582 rfl (rn_move E582 rfl rfl) rfl fun a583 E584 => ?_)
          clear E582
          refine wl_cons (wl_pass E584 (E584.unwanted rfl rfl rfl rfl) rfl fun a585 E586 => ?_)
          clear E584
          refine wl_cons (wl_pass E586 (E586.unwanted rfl rfl rfl rfl) rfl fun a587 E588 => ?_)
          clear E586
          refine wl_cons (wl_pass E588 (E588.unwanted rfl rfl rfl rfl) rfl fun a589 E590 => ?_)
          clear E588
          refine wl_cons (wl_pass E590 (E590.unwanted rfl rfl rfl rfl) rfl fun a591 E592 => ?_)
          clear E590
          refine wl_cons (wl_pass E592 (E592.unwanted rfl rfl rfl rfl) rfl fun a593 E594 => ?_)
          clear E592
          refine wl_cons (wl_val E594 rfl (rn_pickT E594 rfl rfl rfl rfl) rfl fun a595 E596 => ?_)
          clear E594
          refine wl_cons (wl_val E596 rfl (rn_move E596 rfl rfl) rfl fun a597 E598 => ?_)
          clear E596
          refine wl_cons (wl_pass E598 (E598.unwanted rfl rfl rfl rfl) rfl fun a599 E600 => ?_)
          clear E598
          refine wl_cons (wl_pass E600 (E600.unwanted rfl rfl rfl rfl) rfl fun a601 E602 => ?_)
          clear E600
          refine wl_cons (wl_pass E602 (E602.unwanted rfl rfl rfl rfl) rfl fun a603 E604 => ?_)
          clear E602
          refine wl_cons (wl_pass E604 (E604.unwanted rfl rfl rfl rfl) rfl fun a605 E606 => ?_)
          clear E604
          refine wl_cons (wl_pass E606 (E606.unwanted rfl rfl rfl rfl) rfl fun a607 E608 => ?_)
          clear E606
          refine wl_cons (wl_val E608 rfl (rn_pickT E608 rfl rfl rfl rfl) rfl fun a609 E610 => ?_)
          clear E608
          refine wl_cons (wl_val E610 rfl (rn_move E610 rfl rfl) rfl fun a611 E612 => ?_)
          clear E610
          refine wl_cons (wl_pass E612 (E612.unwanted rfl rfl rfl rfl) rfl fun a613 E614 => ?_)
          clear E612
          refine wl_cons (wl_pass E614 (E614.unwanted rfl rfl rfl rfl) rfl fun a615 E616 => ?_)
          clear E614
          refine wl_cons (wl_pass E616 (E616.unwanted rfl rfl rfl rfl) rfl fun a617 E618 => ?_)
          clear E616
          refine wl_cons (wl_pass E618 (E618.unwanted rfl rfl rfl rfl) rfl fun a619 E620 => ?_)
          clear E618
          refine wl_cons (wl_pass E620 (E620.unwanted rfl rfl rfl rfl) rfl fun a621 E622 => ?_)
          clear E620
          refine wl_cons (wl_val E622 rfl (rn_pickT E622 rfl rfl rfl rfl) rfl fun a623 E624 => ?_)
          clear E622
          refine wl_cons (wl_val E624 rfl (rn_move E624 rfl rfl) rfl fun a625 E626 => ?_)
          clear E624
          refine wl_cons (wl_pass E626 (E626.unwanted rfl rfl rfl rfl) rfl fun a627 E628 => ?_)
          clear E626
          refine wl_cons (wl_pass E628 (E628.unwanted rfl rfl rfl rfl) rfl fun a629 E630 => ?_)
          clear E628
          refine wl_cons (wl_pass E630 (E630.unwanted rfl rfl rfl rfl) rfl fun a631 E632 => ?_)
          clear E630
          refine wl_cons (wl_pass E632 (E632.unwanted rfl rfl rfl rfl) rfl fun a633 E634 => ?_)
          clear E632
          refine wl_cons (wl_pass E634 (E634.unwanted rfl rfl rfl rfl) rfl fun a635 E636 => ?_)
          clear E634
          refine wl_cons (wl_val E636 rfl (rn_pickT E636 rfl rfl rfl rfl) rfl fun a637 E638 => ?_)
          clear E636
          refine wl_cons (wl_val E638 rfl (rn_move E638 rfl rfl) rfl fun a639 E640 => ?_)
          clear E638
          refine wl_cons (wl_pass E640 (E640.unwanted rfl rfl rfl rfl) rfl fun a641 E642 => ?_)
          clear E640
          refine wl_cons (wl_pass E642 (E642.unwanted rfl rfl rfl rfl) rfl fun a643 E644 => ?_)
          clear E642
          refine wl_cons (wl_pass E644 (E644.unwanted rfl rfl rfl rfl) rfl fun a645 E646 => ?_)
          clear E644
          refine wl_cons (wl_pass E646 (E646.unwanted rfl rfl rfl rfl) rfl fun a647 E648 => ?_)
          clear E646
          refine wl_cons (wl_pass E648 (E648.unwanted rfl rfl rfl rfl) rfl fun a649 E650 => ?_)
          clear E648
          refine wl_cons (wl_val E650 rfl (rn_pickT E650 rfl rfl rfl rfl) rfl fun a651 E652 => ?_)
          clear E650
          refine wl_cons (wl_val E652 rfl (rn_move E652 rfl rfl) rfl fun a653 E654 => ?_)
          clear E652
          refine wl_cons (wl_pass E654 (E654.unwanted rfl rfl rfl rfl) rfl fun a655 E656 => ?_)
          clear E654
          refine wl_cons (wl_pass E656 (E656.unwanted rfl rfl rfl rfl) rfl fun a657 E658 => ?_)
          clear E656
          refine wl_cons (wl_pass E658 (E658.unwanted rfl rfl rfl rfl) rfl fun a659 E660 => ?_)
          clear E658
          refine wl_cons (wl_pass E660 (E660.unwanted rfl rfl rfl rfl) rfl fun a661 E662 => ?_)
          clear E660
          refine wl_cons (wl_pass E662 (E662.unwanted rfl rfl rfl rfl) rfl fun a663 E664 => ?_)
          clear E662
          refine wl_cons (wl_val E664 rfl (rn_pickT E664 rfl rfl rfl rfl) rfl fun a665 E666 => ?_)
          clear E664
          refine wl_cons (wl_val E666 rfl (rn_move E666 rfl rfl) rfl fun a667 E668 => ?_)
          clear E666
          refine wl_cons (wl_pass E668 (E668.unwanted rfl rfl rfl rfl) rfl fun a669 E670 => ?_)
          clear E668
          refine wl_cons (wl_pass E670 (E670.unwanted rfl rfl rfl rfl) rfl fun a671 E672 => ?_)
          clear E670
          refine wl_cons (wl_pass E672 (E672.unwanted rfl rfl rfl rfl) rfl fun a673 E674 => ?_)
          clear E672
          refine wl_cons (wl_pass E674 (E674.unwanted rfl rfl rfl rfl) rfl fun a675 E676 => ?_)
          clear E674
          refine wl_cons (wl_pass E676 (E676.unwanted rfl rfl rfl rfl) rfl fun a677 E678 => ?_)
          clear E676
          refine wl_cons (wl_pass E678 (E678.unwanted rfl rfl rfl rfl) rfl fun a679 E680 => ?_)
          clear E678
          refine wl_cons (wl_pass E680 (E680.unwanted rfl rfl rfl rfl) rfl fun a681 E682 => ?_)
          clear E680
          refine wl_cons (wl_val E682 rfl (rn_pickT E682 rfl rfl rfl rfl) rfl fun a683 E684 => ?_)
          clear E682
          refine wl_nil ?_
          refine then_normal (hK21 _ _ ?_)
          refine wc_T E684 rfl rfl ?_
          refine wp_seq_k fun _ hK685 => ?_
          refine wp_region_lit ?_
          refine wl_cons (wl_val E684 rfl (rn_assign E684 rfl rfl) rfl fun a686 E687 => ?_)
          clear E684
          refine wl_nil ?_
          refine then_normal (hK685 _ _ ?_)
          refine wp_ret ?_
          refine then_ret (?_)
          obtain rfl := Option.some.inj h
          refine wb_ret1 E687 rfl (rv_tmp E687 rfl) ?_
          exact ⟨_, rfl, [], [], ⟨rfl, rfl, rfl⟩, H.leave (fun Z hA => trivial) (fun Z S hA hL => trivial)⟩
        · replace h := itF hb556 h
          refine wl_cons (wl_val E555 (E555.wantedB rfl rfl rfl hb556) (rn_fieldAddr E555 rfl Try.underlying38 rfl ti3 rfl rfl) rfl fun a688 E689 => ?_)
          clear E555
          refine wl_cons (wl_val E689 (E689.wantedB rfl rfl rfl hb556) (rn_ld1 (i := 0) E689 H rfl Try.underlying3 rfl rfl rfl rfl) rfl fun a690 E691 => ?_)
          clear E689
          refine wl_cons (wl_val E691 (E691.wantedB rfl rfl rfl hb556) (rn_fieldAddr E691 rfl Try.underlying38 rfl ti3 rfl rfl) rfl fun a692 E693 => ?_)
          clear E691
          refine wl_cons (wl_val E693 (E693.wantedB rfl rfl rfl hb556) (rn_ld1 (i := 1) E693 H rfl Try.underlying3 rfl rfl rfl rfl) rfl fun a694 E695 => ?_)
          clear E693
          refine wl_cons (wl_val E695 (E695.wantedB rfl rfl rfl hb556) (rn_int E695 rfl rfl rfl rfl) rfl fun a696 E697 => ?_)
          clear E695
          refine wl_cons (wl_val E697 rfl (rn_pickF E697 rfl rfl hb556 rfl) rfl fun a698 E699 => ?_)
          clear E697
          refine wl_cons (wl_val E699 rfl (rn_move E699 rfl rfl) rfl fun a700 E701 => ?_)
          clear E699
          rcases Bool.eq_false_or_eq_true (a0.GID != a1.GID) with hb702 | hb702
          · replace h := itT hb702 h
            refine wl_cons (wl_pass E701 (E701.unwanted rfl rfl rfl hb702) rfl fun a703 E704 => ?_)
            clear E701
            refine wl_cons (wl_pass E704 (E704.unwanted rfl rfl rfl hb702) rfl fun a705 E706 => ?_)
            clear E704
            refine wl_cons (wl_pass E706 (E706.unwanted rfl rfl rfl hb702) rfl fun a707 E708 => ?_)
            clear E706
            refine wl_cons (wl_pass E708 (E708.unwanted rfl rfl rfl hb702) rfl fun a709 E710 => ?_)
            clear E708
            refine wl_cons (wl_pass E710 (E710.unwanted rfl rfl rfl hb702) rfl fun a711 E712 => ?_)
            clear E710
            refine wl_cons (wl_val E712 rfl (rn_pickT E712 rfl rfl hb702 rfl) rfl fun a713 E714 => ?_)
            clear E712
            refine wl_cons (wl_val E714 rfl (rn_move E714 rfl rfl) rfl fun a715 E716 => ?_)
            clear E714
            refine wl_cons (wl_pass E716 (E716.unwanted rfl rfl rfl rfl) rfl fun a717 E718 => ?_)
            clear E716
            refine wl_cons (wl_pass E718 (E718.unwanted rfl rfl rfl rfl) rfl fun a719 E720 => ?_)
            clear E718
            refine wl_cons (wl_pass E720 (E720.unwanted rfl rfl rfl rfl) rfl fun a721 E722 => ?_)
            clear E720
            refine wl_cons (wl_pass E722 (E722.unwanted rfl rfl rfl rfl) rfl fun a723 E724 => ?_)
            clear E722
            refine wl_cons (wl_pass E724 (E724.unwanted rfl rfl rfl rfl) rfl fun a725 E726 => ?_)
            clear E724
            refine wl_cons (wl_val E726 rfl (rn_pickT E726 rfl rfl rfl rfl) rfl fun a727 E728 => ?_)
            clear E726
            refine wl_cons (wl_val E728 rfl (rn_move E728 rfl rfl) rfl fun a729 E730 => ?_)
            clear E728
            refine wl_cons (wl_pass E730 (E730.unwanted rfl rfl rfl rfl) rfl fun a731 E732 => ?_)
            clear E730
            refine wl_cons (wl_pass E732 (E732.unwanted rfl rfl rfl rfl) rfl fun a733 E734 => ?_)
            clear E732
            refine wl_cons (wl_pass E734 (E734.unwanted rfl rfl rfl rfl) rfl fun a735 E736 => ?_)
            clear E734
            refine wl_cons (wl_pass E736 (E736.unwanted rfl rfl rfl rfl) rfl fun a737 E738 => ?_)
            clear E736
            refine wl_cons (wl_pass E738 (E738.unwanted rfl rfl rfl rfl) rfl fun a739 E740 => ?_)
            clear E738
            refine wl_cons (wl_val E740 rfl (rn_pickT E740 rfl rfl rfl rfl) rfl fun a741 E742 => ?_)
            clear E740
            refine wl_cons (wl_val E742 rfl (rn_move E742 rfl rfl) rfl fun a743 E744 => ?_)
            clear E742
            refine wl_cons (wl_pass E744 (E744.unwanted rfl rfl rfl rfl) rfl fun a745 E746 => ?_)
            clear E744
            refine wl_cons (wl_pass E746 (E746.unwanted rfl rfl rfl rfl) rfl fun a747 E748 => ?_)
            clear E746
            refine wl_cons (wl_pass E748 (E748.unwanted rfl rfl rfl rfl) rfl fun a749 E750 => ?_)
            clear E748
            refine wl_cons (wl_pass E750 (E750.unwanted rfl rfl rfl rfl) rfl fun a751 E752 => ?_)
            clear E750
            refine wl_cons (wl_pass E752 (E752.unwanted rfl rfl rfl rfl) rfl fun a753 E754 => ?_)
            clear E752
            refine wl_cons (wl_val E754 rfl (rn_pickT E754 rfl rfl rfl rfl) rfl fun a755 E756 => ?_)
            clear E754
            refine wl_cons (wl_val E756 rfl (rn_move E756 rfl rfl) rfl fun a757 E758 => ?_)
            clear E756
            refine wl_cons (wl_pass E758 (E758.unwanted rfl rfl rfl rfl) rfl fun a759 E760 => ?_)
            clear E758
            refine wl_cons (wl_pass E760 (E760.unwanted rfl rfl rfl rfl) rfl fun a761 E762 => ?_)
            clear E760
            refine wl_cons (wl_pass E762 (E762.unwanted rfl rfl rfl rfl) rfl fun a763 E764 => ?_)
            clear E762
            refine wl_cons (wl_pass E764 (E764.unwanted rfl rfl rfl rfl) rfl fun a765 E766 => ?_)
            clear E764
            refine wl_cons (wl_pass E766 (E766.unwanted rfl rfl rfl rfl) rfl fun a767 E768 => ?_)
            clear E766
            refine wl_cons (wl_val E768 rfl (rn_pickT E768 rfl rfl rfl rfl) rfl fun a769 E770 => ?_)
            clear E768
            refine wl_cons (wl_val E770 rfl (rn_move E770 rfl rfl) rfl fun a771 E772 => ?_)
            clear E770
            refine wl_cons (wl_pass E772 (E772.unwanted rfl rfl rfl rfl) rfl fun a773 E774 => ?_)
            clear E772
            refine wl_cons (wl_pass E774 (E774.unwanted rfl rfl rfl rfl) rfl fun a775 E776 => ?_)
            clear E774
            refine wl_cons (wl_pass E776 (E776.unwanted rfl rfl rfl rfl) rfl fun a777 E778 => ?_)
            clear E776
            refine wl_cons (wl_pass E778 (E778.unwanted rfl rfl rfl rfl) rfl fun a779 E780 => ?_)
            clear E778
            refine wl_cons (wl_pass E780 (E780.unwanted rfl rfl rfl rfl) rfl fun a781 E782 => ?_)
            clear E780
            refine wl_cons (wl_val E782 rfl (rn_pickT E782 rfl rfl rfl rfl) rfl fun a783 E784 => ?_)
            clear E782
            refine wl_cons (wl_val E784 rfl (rn_move E784 rfl rfl) rfl fun a785 E786 => ?_)
            clear E784
            refine wl_cons (wl_pass E786 (E786.unwanted rfl rfl rfl rfl) rfl fun a787 E788 => ?_)
            clear E786
            refine wl_cons (wl_pass E788 (E788.unwanted rfl rfl rfl rfl) rfl fun a789 E790 => ?_)
            clear E788
            refine wl_cons (wl_pass E790 (E790.unwanted rfl rfl rfl rfl) rfl fun a791 E792 => ?_)
            clear E790
            refine wl_cons (wl_pass E792 (E792.unwanted rfl rfl rfl rfl) rfl fun a793 E794 => ?_)
            clear E792
            refine wl_cons (wl_pass E794 (E794.unwanted rfl rfl rfl rfl) rfl fun a795 E796 => ?_)
            clear E794
            refine wl_cons (wl_val E796 rfl (rn_pickT E796 rfl rfl rfl rfl) rfl fun a797 E798 => ?_)
            clear E796
            refine wl_cons (wl_val E798 rfl (rn_move E798 rfl rfl) rfl fun a799 E800 => ?_)
            clear E798
            refine wl_cons (wl_pass E800 (E800.unwanted rfl rfl rfl rfl) rfl fun a801 E802 => ?_)
            clear E800
            refine wl_cons (wl_pass E802 (E802.unwanted rfl rfl rfl rfl) rfl fun a803 E804 => ?_)
            clear E802
            refine wl_cons (wl_pass E804 (E804.unwanted rfl rfl rfl rfl) rfl fun a805 E806 => ?_)
            clear E804
            refine wl_cons (wl_pass E806 (E806.unwanted rfl rfl rfl rfl) rfl fun a807 E808 => ?_)
            clear E806
            refine wl_cons (wl_pass E808 (E808.unwanted rfl rfl rfl rfl) rfl fun a809 E810 => ?_)
            clear E808
            refine wl_cons (wl_pass E810 (E810.unwanted rfl rfl rfl rfl) rfl fun a811 E812 => ?_)
            clear E810
            refine wl_cons (wl_pass E812 (E812.unwanted rfl rfl rfl rfl) rfl fun a813 E814 => ?_)
            clear E812
            refine wl_cons (wl_val E814 rfl (rn_pickT E814 rfl rfl rfl rfl) rfl fun a815 E816 => ?_)
            clear E814
            refine wl_nil ?_
            refine then_normal (hK21 _ _ ?_)
            refine wc_T E816 rfl rfl ?_
            refine wp_seq_k fun _ hK817 => ?_
            refine wp_region_lit ?_
            refine wl_cons (wl_val E816 rfl (rn_assign E816 rfl rfl) rfl fun a818 E819 => ?_)
            clear E816
            refine wl_nil ?_
            refine then_normal (hK817 _ _ ?_)
            refine wp_ret ?_
            refine then_ret (?_)
            obtain rfl := Option.some.inj h
            refine wb_ret1 E819 rfl (rv_tmp E819 rfl) ?_
            exact ⟨_, rfl, [], [], ⟨rfl, rfl, rfl⟩, H.leave (fun Z hA => trivial) (fun Z S hA hL => trivial)⟩
          · replace h := itF hb702 h
            refine wl_cons (wl_val E701 (E701.wantedB rfl rfl rfl hb702) (rn_fieldAddr E701 rfl Try.underlying38 rfl ti3 rfl rfl) rfl fun a820 E821 => ?_)
            clear E701
            refine wl_cons (wl_val E821 (E821.wantedB rfl rfl rfl hb702) (rn_ld1 (i := 0) E821 H rfl Try.underlying3 rfl rfl rfl rfl) rfl fun a822 E823 => ?_)
            clear E821
            refine wl_cons (wl_val E823 (E823.wantedB rfl rfl rfl hb702) (rn_fieldAddr E823 rfl Try.underlying38 rfl ti3 rfl rfl) rfl fun a824 E825 => ?_)
            clear E823
            refine wl_cons (wl_val E825 (E825.wantedB rfl rfl rfl hb702) (rn_ld1 (i := 1) E825 H rfl Try.underlying3 rfl rfl rfl rfl) rfl fun a826 E827 => ?_)
            clear E825
            refine wl_cons (wl_val E827 (E827.wantedB rfl rfl rfl hb702) (rn_int E827 rfl rfl rfl rfl) rfl fun a828 E829 => ?_)
            clear E827
            refine wl_cons (wl_val E829 rfl (rn_pickF E829 rfl rfl hb702 rfl) rfl fun a830 E831 => ?_)
            clear E829
            refine wl_cons (wl_val E831 rfl (rn_move E831 rfl rfl) rfl fun a832 E833 => ?_)
            clear E831
            rcases Bool.eq_false_or_eq_true (a0.EGID != a1.EGID) with hb834 | hb834
            · replace h := itT hb834 h
              refine wl_cons (wl_pass E833 (E833.unwanted rfl rfl rfl hb834) rfl fun a835 E836 => ?_)
              clear E833
              refine wl_cons (wl_pass E836 (E836.unwanted rfl rfl rfl hb834) rfl fun a837 E838 => ?_)
              clear E836
              refine wl_cons (wl_pass E838 (E838.unwanted rfl rfl rfl hb834) rfl fun a839 E840 => ?_)
              clear E838
              refine wl_cons (wl_pass E840 (E840.unwanted rfl rfl rfl hb834) rfl fun a841 E842 => ?_)
              clear E840
              refine wl_cons (wl_pass E842 (E842.unwanted rfl rfl rfl hb834) rfl fun a843 E844 => ?_)
              clear E842
              refine wl_cons (wl_val E844 rfl (rn_pickT E844 rfl rfl hb834 rfl) rfl fun a845 E846 => ?_)
              clear E844
              refine wl_cons (wl_val E846 rfl (rn_move E846 rfl rfl) rfl fun a847 E848 => ?_)
              clear E846
              refine wl_cons (wl_pass E848 (E848.unwanted rfl rfl rfl rfl) rfl fun a849 E850 => ?_)
              clear E848
              refine wl_cons (wl_pass E850 (E850.unwanted rfl rfl rfl rfl) rfl fun a851 E852 => ?_)
              clear E850
              refine wl_cons (wl_pass E852 (E852.unwanted rfl rfl rfl rfl) rfl fun a853 E854 => ?_)
              clear E852
              refine wl_cons (wl_pass E854 (E854.unwanted rfl rfl rfl rfl) rfl fun a855 E856 => ?_)
              clear E854
              refine wl_cons (wl_pass E856 (E856.unwanted rfl rfl rfl rfl) rfl fun a857 E858 => ?_)
              clear E856
              refine wl_cons (wl_val E858 rfl (rn_pickT E858 rfl rfl rfl rfl) rfl fun a859 E860 => ?_)
              clear E858
              refine wl_cons (wl_val E860 rfl (rn_move E860 rfl rfl) rfl fun a861 E862 => ?_)
              clear E860
              refine wl_cons (wl_pass E862 (E862.unwanted rfl rfl rfl rfl) rfl fun a863 E864 => ?_)
              clear E862
              refine wl_cons (wl_pass E864 (E864.unwanted rfl rfl rfl rfl) rfl fun a865 E866 => ?_)
              clear E864
              refine wl_cons (wl_pass E866 (E866.unwanted rfl rfl rfl rfl) rfl fun a867 E868 => ?_)
              clear E866
              refine wl_cons (wl_pass E868 (E868.unwanted rfl rfl rfl rfl) rfl fun a869 E870 => ?_)
              clear E868
              refine wl_cons (wl_pass E870 (E870.unwanted rfl rfl rfl rfl) rfl fun a871 E872 => ?_)
              clear E870
              refine wl_cons (wl_val E872 rfl (rn_pickT E872 rfl rfl rfl rfl) rfl fun a873 E874 => ?_)
              clear E872
              refine wl_cons (wl_val E874 rfl (rn_move E874 rfl rfl) rfl fun a875 E876 => ?_)
              clear E874
              refine wl_cons (wl_pass E876 (E876.unwanted rfl rfl rfl rfl) rfl fun a877 E878 => ?_)
              clear E876
              refine wl_cons (wl_pass E878 (E878.unwanted rfl rfl rfl rfl) rfl fun a879 E880 => ?_)
              clear E878
              refine wl_cons (wl_pass E880 (E880.unwanted rfl rfl rfl rfl) rfl fun a881 E882 => ?_)
              clear E880
              refine wl_cons (wl_pass E882 (E882.unwanted rfl rfl rfl rfl) rfl fun a883 E884 => ?_)
              clear E882
              refine wl_cons (wl_pass E884 (E884.unwanted rfl rfl rfl rfl) rfl fun a885 E886 => ?_)
              clear E884
              refine wl_cons (wl_val E886 rfl (rn_pickT E886 rfl rfl rfl rfl) rfl fun a887 E888 => ?_)
              clear E886
              refine wl_cons (wl_val E888 rfl (rn_move E888 rfl rfl) rfl fun a889 E890 => ?_)
              clear E888
              refine wl_cons (wl_pass E890 (E890.unwanted rfl rfl rfl rfl) rfl fun a891 E892 => ?_)
              clear E890
              refine wl_cons (wl_pass E892 (E892.unwanted rfl rfl rfl rfl) rfl fun a893 E894 => ?_)
              clear E892
              refine wl_cons (wl_pass E894 (E894.unwanted rfl rfl rfl rfl) rfl fun a895 E896 => ?_)
              clear E894
              refine wl_cons (wl_pass E896 (E896.unwanted rfl rfl rfl rfl) rfl fun a897 E898 => ?_)
              clear E896
              refine wl_cons (wl_pass E898 (E898.unwanted rfl rfl rfl rfl) rfl fun a899 E900 => ?_)
              clear E898
              refine wl_cons (wl_val E900 rfl (rn_pickT E900 rfl rfl rfl rfl) rfl fun a901 E902 => ?_)
              clear E900
              refine wl_cons (wl_val E902 rfl (rn_move E902 rfl rfl) rfl fun a903 E904 => ?_)
              clear E902
              refine wl_cons (wl_pass E904 (E904.unwanted rfl rfl rfl rfl) rfl fun a905 E906 => ?_)
              clear E904
              refine wl_cons (wl_pass E906 (E906.unwanted rfl rfl rfl rfl) rfl fun a907 E908 => ?_)
              clear E906
              refine wl_cons (wl_pass E908 (E908.unwanted rfl rfl rfl rfl) rfl fun a909 E910 => ?_)
              clear E908
              refine wl_cons (wl_pass E910 (E910.unwanted rfl rfl rfl rfl) rfl fun a911 E912 => ?_)
              clear E910
              refine wl_cons (wl_pass E912 (E912.unwanted rfl rfl rfl rfl) rfl fun a913 E914 => ?_)
              clear E912
              refine wl_cons (wl_val E914 rfl (rn_pickT E914 rfl rfl rfl rfl) rfl fun a915 E916 => ?_)
              clear E914
              refine wl_cons (wl_val E916 rfl (rn_move E916 rfl rfl) rfl fun a917 E918 => ?_)
              clear E916
              refine wl_cons (wl_pass E918 (E918.unwanted rfl rfl rfl rfl) rfl fun a919 E920 => ?_)
              clear E918
              refine wl_cons (wl_pass E920 (E920.unwanted rfl rfl rfl rfl) rfl fun a921 E922 => ?_)
              clear E920
              refine wl_cons (wl_pass E922 (E922.unwanted rfl rfl rfl rfl) rfl fun a923 E924 => ?_)
              clear E922
              refine wl_cons (wl_pass E924 (E924.unwanted rfl rfl rfl rfl) rfl fun a925 E926 => ?_)
              clear E924
              refine wl_cons (wl_pass E926 (E926.unwanted rfl rfl rfl rfl) rfl fun a927 E928 => ?_)
              clear E926
              refine wl_cons (wl_pass E928 (E928.unwanted rfl rfl rfl rfl) rfl fun a929 E930 => ?_)
              clear E928
              refine wl_cons (wl_pass E930 (E930.unwanted rfl rfl rfl rfl) rfl fun a931 E932 => ?_)
              clear E930
              refine wl_cons (wl_val E932 rfl (rn_pickT E932 rfl rfl rfl rfl) rfl fun a933 E934 => ?_)
              clear E932
              refine wl_nil ?_
              refine then_normal (hK21 _ _ ?_)
              refine wc_T E934 rfl rfl ?_
              refine wp_seq_k fun _ hK935 => ?_
              refine wp_region_lit ?_
              refine wl_cons (wl_val E934 rfl (rn_assign E934 rfl rfl) rfl fun a936 E937 => ?_)
              clear E934
              refine wl_nil ?_
              refine then_normal (hK935 _ _ ?_)
              refine wp_ret ?_
              refine then_ret (?_)
              obtain rfl := Option.some.inj h
              refine wb_ret1 E937 rfl (rv_tmp E937 rfl) ?_
              exact ⟨_, rfl, [], [], ⟨rfl, rfl, rfl⟩, H.leave (fun Z hA => trivial) (fun Z S hA hL => trivial)⟩
            · replace h := itF hb834 h
              refine wl_cons (wl_val E833 (E833.wantedB rfl rfl rfl hb834) (rn_fieldAddr E833 rfl Try.underlying38 rfl ti3 rfl rfl) rfl fun a938 E939 => ?_)
              clear E833
              refine wl_cons (wl_val E939 (E939.wantedB rfl rfl rfl hb834) (rn_ld1 (i := 0) E939 H rfl Try.underlying3 rfl rfl rfl rfl) rfl fun a940 E941 => ?_)
              clear E939
              refine wl_cons (wl_val E941 (E941.wantedB rfl rfl rfl hb834) (rn_fieldAddr E941 rfl Try.underlying38 rfl ti3 rfl rfl) rfl fun a942 E943 => ?_)
              clear E941
              refine wl_cons (wl_val E943 (E943.wantedB rfl rfl rfl hb834) (rn_ld1 (i := 1) E943 H rfl Try.underlying3 rfl rfl rfl rfl) rfl fun a944 E945 => ?_)
              clear E943
              refine wl_cons (wl_val E945 (E945.wantedB rfl rfl rfl hb834) (rn_int E945 rfl rfl rfl rfl) rfl fun a946 E947 => ?_)
              clear E945
              refine wl_cons (wl_val E947 rfl (rn_pickF E947 rfl rfl hb834 rfl) rfl fun a948 E949 => ?_)
              clear E947
              refine wl_cons (wl_val E949 rfl (rn_move E949 rfl rfl) rfl fun a950 E951 => ?_)
              clear E949
              rcases Bool.eq_false_or_eq_true (a0.AUID != a1.AUID) with hb952 | hb952
              · replace h := itT hb952 h
                refine wl_cons (wl_pass E951 (E951.unwanted rfl rfl rfl hb952) rfl fun a953 E954 => ?_)
                clear E951
                refine wl_cons (wl_pass E954 (E954.unwanted rfl rfl rfl hb952) rfl fun a955 E956 => ?_)
                clear E954
                refine wl_cons (wl_pass E956 (E956.unwanted rfl rfl rfl hb952) rfl fun a957 E958 => ?_)
                clear E956
                refine wl_cons (wl_pass E958 (E958.unwanted rfl rfl rfl hb952) rfl fun a959 E960 => ?_)
                clear E958
                refine wl_cons (wl_pass E960 (E960.unwanted rfl rfl rfl hb952) rfl fun a961 E962 => ?_)
                clear E960
                refine wl_cons (wl_val E962 rfl (rn_pickT E962 rfl rfl hb952 rfl) rfl fun a963 E964 => ?_)
                clear E962
                refine wl_cons (wl_val E964 rfl (rn_move E964 rfl rfl) rfl fun a965 E966 => ?_)
                clear E964
                refine wl_cons (wl_pass E966 (E966.unwanted rfl rfl rfl rfl) rfl fun a967 E968 => ?_)
                clear E966
                refine wl_cons (wl_pass E968 (E968.unwanted rfl rfl rfl rfl) rfl fun a969 E970 => ?_)
                clear E968
                refine wl_cons (wl_pass E970 (E970.unwanted rfl rfl rfl rfl) rfl fun a971 E972 => ?_)
                clear E970
                refine wl_cons (wl_pass E972 (E972.unwanted rfl rfl rfl rfl) rfl fun a973 E974 => ?_)
                clear E972
                refine wl_cons (wl_pass E974 (E974.unwanted rfl rfl rfl rfl) rfl fun a975 E976 => ?_)
                clear E974
                refine wl_cons (wl_val E976 rfl (rn_pickT E976 rfl rfl rfl rfl) rfl fun a977 E978 => ?_)
                clear E976
                refine wl_cons (wl_val E978 rfl (rn_move E978 rfl rfl) rfl fun a979 E980 => ?_)
                clear E978
                refine wl_cons (wl_pass E980 (E980.unwanted rfl rfl rfl rfl) rfl fun a981 E982 => ?_)
                clear E980
                refine wl_cons (wl_pass E982 (E982.unwanted rfl rfl rfl rfl) rfl fun a983 E984 => ?_)
                clear E982
                refine wl_cons (wl_pass E984 (E984.unwanted rfl rfl rfl rfl) rfl fun a985 E986 => ?_)
                clear E984
                refine wl_cons (wl_pass E986 (E986.unwanted rfl rfl rfl rfl) rfl fun a987 E988 => ?_)
                clear E986
                refine wl_cons (wl_pass E988 (E988.unwanted rfl rfl rfl rfl) rfl fun a989 E990 => ?_)
                clear E988
                refine wl_cons (wl_val E990 rfl (rn_pickT E990 rfl rfl rfl rfl) rfl fun a991 E992 => ?_)
                clear E990
                refine wl_cons (wl_val E992 rfl (rn_move E992 rfl rfl) rfl fun a993 E994 => ?_)
                clear E992
                refine wl_cons (wl_pass E994 (E994.unwanted rfl rfl rfl rfl) rfl fun a995 E996 => ?_)
                clear E994
                refine wl_cons (wl_pass E996 (E996.unwanted rfl rfl rfl rfl) rfl fun a997 E998 => ?_)
                clear E996
                refine wl_cons (wl_pass E998 (E998.unwanted rfl rfl rfl rfl) rfl fun a999 E1000 => ?_)
                clear E998
                refine wl_cons (wl_pass E1000 (E1000.unwanted rfl rfl rfl rfl) rfl fun a1001 E1002 => ?_)
                clear E1000
                refine wl_cons (wl_pass E1002 (E1002.unwanted rfl rfl rfl rfl) rfl fun a1003 E1004 => ?_)
                clear E1002
                refine wl_cons (wl_val E1004 rfl (rn_pickT E1004 rfl rfl rfl rfl) rfl fun a1005 E1006 => ?_)
                clear E1004
                refine wl_cons (wl_val E1006 rfl (rn_move E1006 rfl rfl) rfl fun a1007 E1008 => ?_)
                clear E1006
                refine wl_cons (wl_pass E1008 (E1008.unwanted rfl rfl rfl rfl) rfl fun a1009 E1010 => ?_)
                clear E1008
                refine wl_cons (wl_pass E1010 (E1010.unwanted rfl rfl rfl rfl) rfl fun a1011 E1012 => ?_)
                clear E1010
                refine wl_cons (wl_pass E1012 (E1012.unwanted rfl rfl rfl rfl) rfl fun a1013 E1014 => ?_)
                clear E1012
                refine wl_cons (wl_pass E1014 (E1014.unwanted rfl rfl rfl rfl) rfl fun a1015 E1016 => ?_)
                clear E1014
                refine wl_cons (wl_pass E1016 (E1016.unwanted rfl rfl rfl rfl) rfl fun a1017 E1018 => ?_)
                clear E1016
                refine wl_cons (wl_val E1018 rfl (rn_pickT E1018 rfl rfl rfl rfl) rfl fun a1019 E1020 => ?_)
                clear E1018
                refine wl_cons (wl_val E1020 rfl (rn_move E1020 rfl rfl) rfl fun a1021 E1022 => ?_)
                clear E1020
                refine wl_cons (wl_pass E1022 (E1022.unwanted rfl rfl rfl rfl) rfl fun a1023 E1024 => ?_)
                clear E1022
                refine wl_cons (wl_pass E1024 (E1024.unwanted rfl rfl rfl rfl) rfl fun a1025 E1026 => ?_)
                clear E1024
                refine wl_cons (wl_pass E1026 (E1026.unwanted rfl rfl rfl rfl) rfl fun a1027 E1028 => ?_)
                clear E1026
                refine wl_cons (wl_pass E1028 (E1028.unwanted rfl rfl rfl rfl) rfl fun a1029 E1030 => ?_)
                clear E1028
                refine wl_cons (wl_pass E1030 (E1030.unwanted rfl rfl rfl rfl) rfl fun a1031 E1032 => ?_)
                clear E1030
                refine wl_cons (wl_pass E1032 (E1032.unwanted rfl rfl rfl rfl) rfl fun a1033 E1034 => ?_)
                clear E1032
                refine wl_cons (wl_pass E1034 (E1034.unwanted rfl rfl rfl rfl) rfl fun a1035 E1036 => ?_)
                clear E1034
                refine wl_cons (wl_val E1036 rfl (rn_pickT E1036 rfl rfl rfl rfl) rfl fun a1037 E1038 => ?_)
                clear E1036
                refine wl_nil ?_
                refine then_normal (hK21 _ _ ?_)
                refine wc_T E1038 rfl rfl ?_
                refine wp_seq_k fun _ hK1039 => ?_
                refine wp_region_lit ?_
                refine wl_cons (wl_val E1038 rfl (rn_assign E1038 rfl rfl) rfl fun a1040 E1041 => ?_)
                clear E1038
                refine wl_nil ?_
                refine then_normal (hK1039 _ _ ?_)
                refine wp_ret ?_
                refine then_ret (?_)
                obtain rfl := Option.some.inj h
                refine wb_ret1 E1041 rfl (rv_tmp E1041 rfl) ?_
                exact ⟨_, rfl, [], [], ⟨rfl, rfl, rfl⟩, H.leave (fun Z hA => trivial) (fun Z S hA hL => trivial)⟩
              · replace h := itF hb952 h
                refine wl_cons (wl_val E951 (E951.wantedB rfl rfl rfl hb952) (rn_fieldAddr E951 rfl Try.underlying38 rfl ti3 rfl rfl) rfl fun a1042 E1043 => ?_)
                clear E951
                refine wl_cons (wl_val E1043 (E1043.wantedB rfl rfl rfl hb952) (rn_ld1 (i := 0) E1043 H rfl Try.underlying3 rfl rfl rfl rfl) rfl fun a1044 E1045 => ?_)
                clear E1043
                refine wl_cons (wl_val E1045 (E1045.wantedB rfl rfl rfl hb952) (rn_fieldAddr E1045 rfl Try.underlying38 rfl ti3 rfl rfl) rfl fun a1046 E1047 => ?_)
                clear E1045
                refine wl_cons (wl_val E1047 (E1047.wantedB rfl rfl rfl hb952) (rn_ld1 (i := 1) E1047 H rfl Try.underlying3 rfl rfl rfl rfl) rfl fun a1048 E1049 => ?_)
                clear E1047
                refine wl_cons (wl_val E1049 (E1049.wantedB rfl rfl rfl hb952) (rn_int E1049 rfl rfl rfl rfl) rfl fun a1050 E1051 => ?_)
                clear E1049
                refine wl_cons (wl_val E1051 rfl (rn_pickF E1051 rfl rfl hb952 rfl) rfl fun a1052 E1053 => ?_)
                clear E1051
                refine wl_cons (wl_val E1053 rfl (rn_move E1053 rfl rfl) rfl fun a1054 E1055 => ?_)
                clear E1053
                rcases Bool.eq_false_or_eq_true (a0.Session != a1.Session) with hb1056 | hb1056
                · replace h := itT hb1056 h
                  refine wl_cons (wl_pass E1055 (E1055.unwanted rfl rfl rfl hb1056) rfl fun a1057 E1058 => ?_)
                  clear E1055
                  refine wl_cons (wl_pass E1058 (E1058.unwanted rfl rfl rfl hb1056) rfl fun a1059 E1060 => ?_)
                  clear E1058
                  refine wl_cons (wl_pass E1060 (E1060.unwanted rfl rfl rfl hb1056) rfl fun a1061 E1062 => ?_)
                  clear E1060
                  refine wl_cons (wl_pass E1062 (E1062.unwanted rfl rfl rfl hb1056) rfl fun a1063 E1064 => ?_)
                  clear E1062
                  refine wl_cons (wl_pass E1064 (E1064.unwanted rfl rfl rfl hb1056) rfl fun a1065 E1066 => ?_)
                  clear E1064
                  refine wl_cons (wl_val E1066 rfl (rn_pickT E1066 rfl rfl hb1056 rfl) rfl fun a1067 E1068 => ?_)
                  clear E1066
                  refine wl_cons (wl_val E1068 rfl (rn_move E1068 rfl rfl) rfl fun a1069 E1070 => ?_)
                  clear E1068
                  refine wl_cons (wl_pass E1070 (E1070.unwanted rfl rfl rfl rfl) rfl fun a1071 E1072 => ?_)
                  clear E1070
                  refine wl_cons (wl_pass E1072 (E1072.unwanted rfl rfl rfl rfl) rfl fun a1073 E1074 => ?_)
                  clear E1072
                  refine wl_cons (wl_pass E1074 (E1074.unwanted rfl rfl rfl rfl) rfl fun a1075 E1076 => ?_)
                  clear E1074
                  refine wl_cons (wl_pass E1076 (E1076.unwanted rfl rfl rfl rfl) rfl fun a1077 E1078 => ?_)
                  clear E1076
                  refine wl_cons (wl_pass E1078 (E1078.unwanted rfl rfl rfl rfl) rfl fun a1079 E1080 => ?_)
                  clear E1078
                  refine wl_cons (wl_val E1080 rfl (rn_pickT E1080 rfl rfl rfl rfl) rfl fun a1081 E1082 => ?_)
                  clear E1080
                  refine wl_cons (wl_val E1082 rfl (rn_move E1082 rfl rfl) rfl fun a1083 E1084 => ?_)
                  clear E1082
                  refine wl_cons (wl_pass E1084 (E1084.unwanted rfl rfl rfl rfl) rfl fun a1085 E1086 => ?_)
                  clear E1084
                  refine wl_cons (wl_pass E1086 (E1086.unwanted rfl rfl rfl rfl) rfl fun a1087 E1088 => ?_)
                  clear E1086
                  refine wl_cons (wl_pass E1088 (E1088.unwanted rfl rfl rfl rfl) rfl fun a1089 E1090 => ?_)
                  clear E1088
                  refine wl_cons (wl_pass E1090 (E1090.unwanted rfl rfl rfl rfl) rfl fun a1091 E1092 => ?_)
                  clear E1090
                  refine wl_cons (wl_pass E1092 (E1092.unwanted rfl rfl rfl rfl) rfl fun a1093 E1094 => ?_)
                  clear E1092
                  refine wl_cons (wl_val E1094 rfl (rn_pickT E1094 rfl rfl rfl rfl) rfl fun a1095 E1096 => ?_)
                  clear E1094
                  refine wl_cons (wl_val E1096 rfl (rn_move E1096 rfl rfl) rfl fun a1097 E1098 => ?_)
                  clear E1096
                  refine wl_cons (wl_pass E1098 (E1098.unwanted rfl rfl rfl rfl) rfl fun a1099 E1100 => ?_)
                  clear E1098
                  refine wl_cons (wl_pass E1100 (E1100.unwanted rfl rfl rfl rfl) rfl fun a1101 E1102 => ?_)
                  clear E1100
                  refine wl_cons (wl_pass E1102 (E1102.unwanted rfl rfl rfl rfl) rfl fun a1103 E1104 => ?_)
                  clear E1102
                  refine wl_cons (wl_pass E1104 (E1104.unwanted rfl rfl rfl rfl) rfl fun a1105 E1106 => ?_)
                  clear E1104
                  refine wl_cons (wl_pass E1106 (E1106.unwanted rfl rfl rfl rfl) rfl fun a1107 E1108 => ?_)
                  clear E1106
                  refine wl_cons (wl_val E1108 rfl (rn_pickT E1108 rfl rfl rfl rfl) rfl fun a1109 E1110 => ?_)
                  clear E1108
                  refine wl_cons (wl_val E1110 rfl (rn_move E1110 rfl rfl) rfl fun a1111 E1112 => ?_)
                  clear E1110
                  refine wl_cons (wl_pass E1112 (E1112.unwanted rfl rfl rfl rfl) rfl fun a1113 E1114 => ?_)
                  clear E1112
                  refine wl_cons (wl_pass E1114 (E1114.unwanted rfl rfl rfl rfl) rfl fun a1115 E1116 => ?_)
                  clear E1114
                  refine wl_cons (wl_pass E1116 (E1116.unwanted rfl rfl rfl rfl) rfl fun a1117 E1118 => ?_)
                  clear E1116
                  refine wl_cons (wl_pass E1118 (E1118.unwanted rfl rfl rfl rfl) rfl fun a1119 E1120 => ?_)
                  clear E1118
                  refine wl_cons (wl_pass E1120 (E1120.unwanted rfl rfl rfl rfl) rfl fun a1121 E1122 => ?_)
                  clear E1120
                  refine wl_cons (wl_pass E1122 (E1122.unwanted rfl rfl rfl rfl) rfl fun a1123 E1124 => ?_)
                  clear E1122
                  refine wl_cons (wl_pass E1124 (E1124.unwanted rfl rfl rfl rfl) rfl fun a1125 E1126 => ?_)
                  clear E1124
                  refine wl_cons (wl_val E1126 rfl (rn_pickT E1126 rfl rfl rfl rfl) rfl fun a1127 E1128 => ?_)
                  clear E1126
                  refine wl_nil ?_
                  refine then_normal (hK21 _ _ ?_)
                  refine wc_T E1128 rfl rfl ?_
                  refine wp_seq_k fun _ hK1129 => ?_
                  refine wp_region_lit ?_
                  refine wl_cons (wl_val E1128 rfl (rn_assign E1128 rfl rfl) rfl fun a1130 E1131 => ?_)
                  clear E1128
                  refine wl_nil ?_
                  refine then_normal (hK1129 _ _ ?_)
                  refine wp_ret ?_
                  refine then_ret (?_)
                  obtain rfl := Option.some.inj h
                  refine wb_ret1 E1131 rfl (rv_tmp E1131 rfl) ?_
                  exact ⟨_, rfl, [], [], ⟨rfl, rfl, rfl⟩, H.leave (fun Z hA => trivial) (fun Z S hA hL => trivial)⟩
                · replace h := itF hb1056 h
                  refine wl_cons (wl_val E1055 (E1055.wantedB rfl rfl rfl hb1056) (rn_fieldAddr E1055 rfl Try.underlying38 rfl ti31 rfl rfl) rfl fun a1132 E1133 => ?_)
                  clear E1055
                  refine wl_cons (wl_val E1133 (E1133.wantedB rfl rfl rfl hb1056) (rn_ldN (i := 0) [.int .i64 a0.Cwd.Dev, .int .i64 a0.Cwd.Ino] E1133 H rfl Try.underlying31 rfl ti31 rfl rfl rfl rfl) rfl fun a1134 E1135 => ?_)
                  clear E1133
                  refine wl_cons (wl_val E1135 (E1135.wantedB rfl rfl rfl hb1056) (rn_fieldAddr E1135 rfl Try.underlying38 rfl ti31 rfl rfl) rfl fun a1136 E1137 => ?_)
                  clear E1135
                  refine wl_cons (wl_val E1137 (E1137.wantedB rfl rfl rfl hb1056) (rn_ldN (i := 1) [.int .i64 a1.Cwd.Dev, .int .i64 a1.Cwd.Ino] E1137 H rfl Try.underlying31 rfl ti31 rfl rfl rfl rfl) rfl fun a1138 E1139 => ?_)
                  clear E1137
                  refine wl_cons (wl_val E1139 (E1139.wantedB rfl rfl rfl hb1056) (rn_nestruct (xs := [.int .i64 a0.Cwd.Dev, .int .i64 a0.Cwd.Ino]) (ys := [.int .i64 a1.Cwd.Dev, .int .i64 a1.Cwd.Ino]) (r := ((a0.Cwd.Dev == a1.Cwd.Dev) && ((a0.Cwd.Ino == a1.Cwd.Ino) && true))) E1139 rfl eg_31 rfl rfl (eq_31 9998 _ _ _ _ _)) rfl fun a1140 E1141 => ?_)
                  clear E1139
                  refine wl_cons (wl_val E1141 rfl (rn_pickF E1141 rfl rfl hb1056 rfl) rfl fun a1142 E1143 => ?_)
                  clear E1141
                  refine wl_cons (wl_val E1143 rfl (rn_move E1143 rfl rfl) rfl fun a1144 E1145 => ?_)
                  clear E1143
                  rcases Bool.eq_false_or_eq_true ((a0.Cwd.Dev == a1.Cwd.Dev) && ((a0.Cwd.Ino == a1.Cwd.Ino) && true)) with hb1146 | hb1146
                  · replace h := itT hb1146 h
                    refine wl_cons (wl_val E1145 (E1145.wantedB rfl rfl rfl (congrArg Bool.not hb1146)) (rn_fieldAddr E1145 rfl Try.underlying38 rfl ti9 rfl rfl) rfl fun a1147 E1148 => ?_)
                    clear E1145
                    refine wl_cons (wl_val E1148 (E1148.wantedB rfl rfl rfl (congrArg Bool.not hb1146)) (rn_ld1 (i := 0) E1148 H rfl Try.underlying9 rfl rfl rfl rfl) rfl fun a1149 E1150 => ?_)
                    clear E1148
                    refine wl_cons (wl_val E1150 (E1150.wantedB rfl rfl rfl (congrArg Bool.not hb1146)) (rn_fieldAddr E1150 rfl Try.underlying38 rfl ti9 rfl rfl) rfl fun a1151 E1152 => ?_)
                    clear E1150
                    refine wl_cons (wl_val E1152 (E1152.wantedB rfl rfl rfl (congrArg Bool.not hb1146)) (rn_ld1 (i := 1) E1152 H rfl Try.underlying9 rfl rfl rfl rfl) rfl fun a1153 E1154 => ?_)
                    clear E1152
                    refine wl_cons (wl_val E1154 (E1154.wantedB rfl rfl rfl (congrArg Bool.not hb1146)) (rn_str E1154 rfl rfl rfl rfl) rfl fun a1155 E1156 => ?_)
                    clear E1154
                    refine wl_cons (wl_val E1156 rfl (rn_pickF E1156 rfl rfl (congrArg Bool.not hb1146) rfl) rfl fun a1157 E1158 => ?_)
                    clear E1156
                    refine wl_cons (wl_val E1158 rfl (rn_move E1158 rfl rfl) rfl fun a1159 E1160 => ?_)
                    clear E1158
                    rcases Bool.eq_false_or_eq_true (a0.Comm.toList == a1.Comm.toList) with hb1161 | hb1161
                    · replace h := itT hb1161 h
                      refine wl_cons (wl_val E1160 (E1160.wantedB rfl rfl rfl (congrArg Bool.not hb1161)) (rn_fieldAddr E1160 rfl Try.underlying38 rfl ti9 rfl rfl) rfl fun a1162 E1163 => ?_)
                      clear E1160
                      refine wl_cons (wl_val E1163 (E1163.wantedB rfl rfl rfl (congrArg Bool.not hb1161)) (rn_ld1 (i := 0) E1163 H rfl Try.underlying9 rfl rfl rfl rfl) rfl fun a1164 E1165 => ?_)
                      clear E1163
                      refine wl_cons (wl_val E1165 (E1165.wantedB rfl rfl rfl (congrArg Bool.not hb1161)) (rn_fieldAddr E1165 rfl Try.underlying38 rfl ti9 rfl rfl) rfl fun a1166 E1167 => ?_)
                      clear E1165
                      refine wl_cons (wl_val E1167 (E1167.wantedB rfl rfl rfl (congrArg Bool.not hb1161)) (rn_ld1 (i := 1) E1167 H rfl Try.underlying9 rfl rfl rfl rfl) rfl fun a1168 E1169 => ?_)
                      clear E1167
                      refine wl_cons (wl_val E1169 (E1169.wantedB rfl rfl rfl (congrArg Bool.not hb1161)) (rn_str E1169 rfl rfl rfl rfl) rfl fun a1170 E1171 => ?_)
                      clear E1169
                      refine wl_cons (wl_val E1171 rfl (rn_pickF E1171 rfl rfl (congrArg Bool.not hb1161) rfl) rfl fun a1172 E1173 => ?_)
                      clear E1171
                      refine wl_cons (wl_val E1173 rfl (rn_move E1173 rfl rfl) rfl fun a1174 E1175 => ?_)
                      clear E1173
                      rcases Bool.eq_false_or_eq_true (a0.Exe.toList == a1.Exe.toList) with hb1176 | hb1176
                      · replace h := itT hb1176 h
                        refine wl_cons (wl_val E1175 (E1175.wantedB rfl rfl rfl (congrArg Bool.not hb1176)) (rn_fieldAddr E1175 rfl Try.underlying38 rfl ti4 rfl rfl) rfl fun a1177 E1178 => ?_)
                        clear E1175
                        refine wl_cons (wl_val E1178 (E1178.wantedB rfl rfl rfl (congrArg Bool.not hb1176)) (rn_ld1 (i := 0) E1178 H rfl Try.underlying4 rfl rfl rfl rfl) rfl fun a1179 E1180 => ?_)
                        clear E1178
                        refine wl_cons (wl_val E1180 (E1180.wantedB rfl rfl rfl (congrArg Bool.not hb1176)) (rn_fieldAddr E1180 rfl Try.underlying38 rfl ti4 rfl rfl) rfl fun a1181 E1182 => ?_)
                        clear E1180
                        refine wl_cons (wl_val E1182 (E1182.wantedB rfl rfl rfl (congrArg Bool.not hb1176)) (rn_ld1 (i := 1) E1182 H rfl Try.underlying4 rfl rfl rfl rfl) rfl fun a1183 E1184 => ?_)
                        clear E1182
                        refine wl_cons (wl_val E1184 (E1184.wantedB rfl rfl rfl (congrArg Bool.not hb1176)) (rn_boolne E1184 rfl Try.underlying4 rfl rfl) rfl fun a1185 E1186 => ?_)
                        clear E1184
                        refine wl_cons (wl_val E1186 rfl (rn_pickF E1186 rfl rfl (congrArg Bool.not hb1176) rfl) rfl fun a1187 E1188 => ?_)
                        clear E1186
                        refine wl_cons (wl_val E1188 rfl (rn_move E1188 rfl rfl) rfl fun a1189 E1190 => ?_)
                        clear E1188
                        rcases Bool.eq_false_or_eq_true (a0.Audited != a1.Audited) with hb1191 | hb1191
                        · replace h := itT hb1191 h
                          refine wl_cons (wl_pass E1190 (E1190.unwanted rfl rfl rfl hb1191) rfl fun a1192 E1193 => ?_)
                          clear E1190
                          refine wl_cons (wl_pass E1193 (E1193.unwanted rfl rfl rfl hb1191) rfl fun a1194 E1195 => ?_)
                          clear E1193
                          refine wl_cons (wl_pass E1195 (E1195.unwanted rfl rfl rfl hb1191) rfl fun a1196 E1197 => ?_)
                          clear E1195
                          refine wl_cons (wl_pass E1197 (E1197.unwanted rfl rfl rfl hb1191) rfl fun a1198 E1199 => ?_)
                          clear E1197
                          refine wl_cons (wl_pass E1199 (E1199.unwanted rfl rfl rfl hb1191) rfl fun a1200 E1201 => ?_)
                          clear E1199
                          refine wl_cons (wl_pass E1201 (E1201.unwanted rfl rfl rfl hb1191) rfl fun a1202 E1203 => ?_)
                          clear E1201
                          refine wl_cons (wl_pass E1203 (E1203.unwanted rfl rfl rfl hb1191) rfl fun a1204 E1205 => ?_)
                          clear E1203
                          refine wl_cons (wl_val E1205 rfl (rn_pickT E1205 rfl rfl hb1191 rfl) rfl fun a1206 E1207 => ?_)
                          clear E1205
                          refine wl_nil ?_
                          refine then_normal (hK21 _ _ ?_)
                          refine wc_T E1207 rfl rfl ?_
                          refine wp_seq_k fun _ hK1208 => ?_
                          refine wp_region_lit ?_
                          refine wl_cons (wl_val E1207 rfl (rn_assign E1207 rfl rfl) rfl fun a1209 E1210 => ?_)
                          clear E1207
                          refine wl_nil ?_
                          refine then_normal (hK1208 _ _ ?_)
                          refine wp_ret ?_
                          refine then_ret (?_)
                          obtain rfl := Option.some.inj h
                          refine wb_ret1 E1210 rfl (rv_tmp E1210 rfl) ?_
                          exact ⟨_, rfl, [], [], ⟨rfl, rfl, rfl⟩, H.leave (fun Z hA => trivial) (fun Z S hA hL => trivial)⟩
                        · replace h := itF hb1191 h
                          refine wl_cons (wl_val E1190 (E1190.wantedB rfl rfl rfl hb1191) (rn_fieldAddr E1190 rfl Try.underlying38 rfl ti36 rfl rfl) rfl fun a1211 E1212 => ?_)
                          clear E1190
                          refine wl_cons (wl_val E1212 (E1212.wantedB rfl rfl rfl hb1191) (rn_ld1 (i := 0) E1212 H rfl Try.underlying36 rfl rfl rfl rfl) rfl fun a1213 E1214 => ?_)
                          clear E1212
                          refine wl_cons (wl_val E1214 (E1214.wantedB rfl rfl rfl hb1191) (rn_len E1214 rfl Try.underlying36 rfl) rfl fun a1215 E1216 => ?_)
                          clear E1214
                          refine wl_cons (wl_val E1216 (E1216.wantedB rfl rfl rfl hb1191) (rn_fieldAddr E1216 rfl Try.underlying38 rfl ti36 rfl rfl) rfl fun a1217 E1218 => ?_)
                          clear E1216
                          refine wl_cons (wl_val E1218 (E1218.wantedB rfl rfl rfl hb1191) (rn_ld1 (i := 1) E1218 H rfl Try.underlying36 rfl rfl rfl rfl) rfl fun a1219 E1220 => ?_)
                          clear E1218
                          refine wl_cons (wl_val E1220 (E1220.wantedB rfl rfl rfl hb1191) (rn_len E1220 rfl Try.underlying36 rfl) rfl fun a1221 E1222 => ?_)
                          clear E1220
                          refine wl_cons (wl_val E1222 (E1222.wantedB rfl rfl rfl hb1191) (rn_int E1222 rfl rfl rfl rfl) rfl fun a1223 E1224 => ?_)
                          clear E1222
                          refine wl_cons (wl_val E1224 rfl (rn_pickF E1224 rfl rfl hb1191 rfl) rfl fun a1225 E1226 => ?_)
                          clear E1224
                          refine wl_nil ?_
                          refine then_normal (hK21 _ _ ?_)
                          rcases Bool.eq_false_or_eq_true ((a0.Open.length : Int) != (a1.Open.length : Int)) with hb1227 | hb1227
                          · replace h := itT hb1227 h
                            refine wc_T E1226 rfl hb1227 ?_
                            refine wp_seq_k fun _ hK1228 => ?_
                            refine wp_region_lit ?_
                            refine wl_cons (wl_val E1226 rfl (rn_assign E1226 rfl rfl) rfl fun a1229 E1230 => ?_)
                            clear E1226
                            refine wl_nil ?_
                            refine then_normal (hK1228 _ _ ?_)
                            refine wp_ret ?_
                            refine then_ret (?_)
                            obtain rfl := Option.some.inj h
                            refine wb_ret1 E1230 rfl (rv_tmp E1230 rfl) ?_
                            exact ⟨_, rfl, [], [], ⟨rfl, rfl, rfl⟩, H.leave (fun Z hA => trivial) (fun Z S hA hL => trivial)⟩
                          · replace h := itF hb1227 h
                            refine wc_F E1226 rfl hb1227 ?_
                            refine wp_skip ?_
                            refine then_normal (hK20 _ _ ?_)
                            refine wp_seq_k fun _ hK1231 => ?_
                            refine wp_seq_k fun _ hK1232 => ?_
                            refine wp_region_lit ?_
                            refine wl_cons (wl_val E1226 rfl (rn_assign E1226 rfl rfl) rfl fun a1233 E1234 => ?_)
                            clear E1226
                            refine wl_nil ?_
                            refine then_normal (hK1232 _ _ ?_)
                            refine wp_block ?_
                            obtain ⟨o1357, ho1358, h⟩ := bs h
                            refine wc_loop (fun k_ a_ w_ => ∃ (x1356 : Int), Env 115 a_ [(0, .agg #[.int .i64 a0.PID, .int .i64 a0.PPID, .int .i64 a0.UID, .int .i64 a0.EUID, .int .i64 a0.GID, .int .i64 a0.EGID, .int .i64 a0.AUID, .int .i64 a0.Session, .int .i64 a0.Cwd.Dev, .int .i64 a0.Cwd.Ino, .string a0.Comm, .string a0.Exe, .slice p5 a0.Open.length c6, .bool a0.Audited]), (1, .agg #[.int .i64 a1.PID, .int .i64 a1.PPID, .int .i64 a1.UID, .int .i64 a1.EUID, .int .i64 a1.GID, .int .i64 a1.EGID, .int .i64 a1.AUID, .int .i64 a1.Session, .int .i64 a1.Cwd.Dev, .int .i64 a1.Cwd.Ino, .string a1.Comm, .string a1.Exe, .slice p7 a1.Open.length c8, .bool a1.Audited]), (2, .pointer (some ⟨g10, 0, none⟩)), (3, .pointer (some ⟨g14, 0, none⟩)), (4, .bool false), (5, .int .i64 x1356), (6, .pointer (some ⟨g10, 0, none⟩)), (7, .int .i64 a0.PID), (8, .pointer (some ⟨g14, 0, none⟩)), (9, .int .i64 a1.PID), (10, .bool (a0.PID != a1.PID)), (11, .bool (a0.PID != a1.PID)), (12, .pointer (some ⟨g10, 1, none⟩)), (13, .int .i64 a0.PPID), (14, .pointer (some ⟨g14, 1, none⟩)), (15, .int .i64 a1.PPID), (16, .bool (a0.PPID != a1.PPID)), (17, .bool (a0.PPID != a1.PPID)), (18, .bool (a0.PPID != a1.PPID)), (19, .pointer (some ⟨g10, 2, none⟩)), (20, .int .i64 a0.UID), (21, .pointer (some ⟨g14, 2, none⟩)), (22, .int .i64 a1.UID), (23, .bool (a0.UID != a1.UID)), (24, .bool (a0.UID != a1.UID)), (25, .bool (a0.UID != a1.UID)), (26, .pointer (some ⟨g10, 3, none⟩)), (27, .int .i64 a0.EUID), (28, .pointer (some ⟨g14, 3, none⟩)), (29, .int .i64 a1.EUID), (30, .bool (a0.EUID != a1.EUID)), (31, .bool (a0.EUID != a1.EUID)), (32, .bool (a0.EUID != a1.EUID)), (33, .pointer (some ⟨g10, 4, none⟩)), (34, .int .i64 a0.GID), (35, .pointer (some ⟨g14, 4, none⟩)), (36, .int .i64 a1.GID), (37, .bool (a0.GID != a1.GID)), (38, .bool (a0.GID != a1.GID)), (39, .bool (a0.GID != a1.GID)), (40, .pointer (some ⟨g10, 5, none⟩)), (41, .int .i64 a0.EGID), (42, .pointer (some ⟨g14, 5, none⟩)), (43, .int .i64 a1.EGID), (44, .bool (a0.EGID != a1.EGID)), (45, .bool (a0.EGID != a1.EGID)), (46, .bool (a0.EGID != a1.EGID)), (47, .pointer (some ⟨g10, 6, none⟩)), (48, .int .i64 a0.AUID), (49, .pointer (some ⟨g14, 6, none⟩)), (50, .int .i64 a1.AUID), (51, .bool (a0.AUID != a1.AUID)), (52, .bool (a0.AUID != a1.AUID)), (53, .bool (a0.AUID != a1.AUID)), (54, .pointer (some ⟨g10, 7, none⟩)), (55, .int .i64 a0.Session), (56, .pointer (some ⟨g14, 7, none⟩)), (57, .int .i64 a1.Session), (58, .bool (a0.Session != a1.Session)), (59, .bool (a0.Session != a1.Session)), (60, .bool (a0.Session != a1.Session)), (61, .pointer (some ⟨g10, 8, none⟩)), (62, .agg #[.int .i64 a0.Cwd.Dev, .int .i64 a0.Cwd.Ino]), (63, .pointer (some ⟨g14, 8, none⟩)), (64, .agg #[.int .i64 a1.Cwd.Dev, .int .i64 a1.Cwd.Ino]), (65, .bool (!((a0.Cwd.Dev == a1.Cwd.Dev) && ((a0.Cwd.Ino == a1.Cwd.Ino) && true)))), (66, .bool (!((a0.Cwd.Dev == a1.Cwd.Dev) && ((a0.Cwd.Ino == a1.Cwd.Ino) && true)))), (67, .bool (!((a0.Cwd.Dev == a1.Cwd.Dev) && ((a0.Cwd.Ino == a1.Cwd.Ino) && true)))), (68, .pointer (some ⟨g10, 10, none⟩)), (69, .string a0.Comm), (70, .pointer (some ⟨g14, 10, none⟩)), (71, .string a1.Comm), (72, .bool (!(a0.Comm.toList == a1.Comm.toList))), (73, .bool (!(a0.Comm.toList == a1.Comm.toList))), (74, .bool (!(a0.Comm.toList == a1.Comm.toList))), (75, .pointer (some ⟨g10, 11, none⟩)), (76, .string a0.Exe), (77, .pointer (some ⟨g14, 11, none⟩)), (78, .string a1.Exe), (79, .bool (!(a0.Exe.toList == a1.Exe.toList))), (80, .bool (!(a0.Exe.toList == a1.Exe.toList))), (81, .bool (!(a0.Exe.toList == a1.Exe.toList))), (82, .pointer (some ⟨g10, 13, none⟩)), (83, .bool a0.Audited), (84, .pointer (some ⟨g14, 13, none⟩)), (85, .bool a1.Audited), (86, .bool (a0.Audited != a1.Audited)), (87, .bool (a0.Audited != a1.Audited)), (88, .bool (a0.Audited != a1.Audited)), (89, .pointer (some ⟨g10, 12, none⟩)), (90, .slice p5 a0.Open.length c6), (91, .int .i64 (a0.Open.length : Int)), (92, .pointer (some ⟨g14, 12, none⟩)), (93, .slice p7 a1.Open.length c8), (94, .int .i64 (a1.Open.length : Int)), (95, .bool ((a0.Open.length : Int) != (a1.Open.length : Int))), (96, .bool ((a0.Open.length : Int) != (a1.Open.length : Int)))] ∧ St w Nil Z w_ [vw (kSlice 81 k_api_Descriptor) a0.Open [.slice p5 a0.Open.length c6], vw (kSlice 81 k_api_Descriptor) a1.Open [.slice p7 a1.Open.length c8]] [[blk g10 [.int .i64 a0.PID, .int .i64 a0.PPID, .int .i64 a0.UID, .int .i64 a0.EUID, .int .i64 a0.GID, .int .i64 a0.EGID, .int .i64 a0.AUID, .int .i64 a0.Session, .int .i64 a0.Cwd.Dev, .int .i64 a0.Cwd.Ino, .string a0.Comm, .string a0.Exe, .slice p5 a0.Open.length c6, .bool a0.Audited] 38], [blk g14 [.int .i64 a1.PID, .int .i64 a1.PPID, .int .i64 a1.UID, .int .i64 a1.EUID, .int .i64 a1.GID, .int .i64 a1.EGID, .int .i64 a1.AUID, .int .i64 a1.Session, .int .i64 a1.Cwd.Dev, .int .i64 a1.Cwd.Ino, .string a1.Comm, .string a1.Exe, .slice p7 a1.Open.length c8, .bool a1.Audited] 38]] ∧ f_kauditref09_SameProcess_l1 a0 a1 k_ x1356 = some o1357) (((((a0.Open.length : Int) : Int) - (0)).toNat + 1)) ?_ ?_ ?_
                            · exact ⟨0, E1234.pick ⟨rfl, rfl, rfl, rfl, rfl, rfl, rfl, rfl, rfl, rfl, rfl, rfl, rfl, rfl, rfl, rfl, rfl, rfl, rfl, rfl, rfl, rfl, rfl, rfl, rfl, rfl, rfl, rfl, rfl, rfl, rfl, rfl, rfl, rfl, rfl, rfl, rfl, rfl, rfl, rfl, rfl, rfl, rfl, rfl, rfl, rfl, rfl, rfl, rfl, rfl, rfl, rfl, rfl, rfl, rfl, rfl, rfl, rfl, rfl, rfl, rfl, rfl, rfl, rfl, rfl, rfl, rfl, rfl, rfl, rfl, rfl, rfl, rfl, rfl, rfl, rfl, rfl, rfl, rfl, rfl, rfl, rfl, rfl, rfl, rfl, rfl, rfl, rfl, rfl, rfl, rfl, rfl, rfl, rfl, rfl, rfl, rfl, trivial⟩, H, ho1358⟩
                            · rintro _ _ ⟨_, _, _, h_⟩
                              rw [f_kauditref09_SameProcess_l1] at h_; cases h_
                            · rintro k1359 a1360 w1361 ⟨x1356, E1362, H', h1363⟩
                              rw [f_kauditref09_SameProcess_l1] at h1363
                              clear H; have H := H'; clear H'
                              refine wp_seq_k fun _ hK1364 => ?_
                              refine wp_seq_k fun _ hK1365 => ?_
                              refine wp_region_lit ?_
                              refine wl_cons (wl_val E1362 rfl (rn_move E1362 rfl rfl) rfl fun a1366 E1367 => ?_)
                              clear E1362
                              replace H : St w Nil Z w1361 [vw (kSlice 81 k_api_Descriptor) a0.Open [.slice p5 a0.Open.length c6], vw (kSlice 81 k_api_Descriptor) a1.Open [.slice p7 a1.Open.length c8]] [[blk g10 [.int .i64 a0.PID, .int .i64 a0.PPID, .int .i64 a0.UID, .int .i64 a0.EUID, .int .i64 a0.GID, .int .i64 a0.EGID, .int .i64 a0.AUID, .int .i64 a0.Session, .int .i64 a0.Cwd.Dev, .int .i64 a0.Cwd.Ino, .string a0.Comm, .string a0.Exe, .slice p5 a0.Open.length c6, .bool a0.Audited] 38], [blk g14 [.int .i64 a1.PID, .int .i64 a1.PPID, .int .i64 a1.UID, .int .i64 a1.EUID, .int .i64 a1.GID, .int .i64 a1.EGID, .int .i64 a1.AUID, .int .i64 a1.Session, .int .i64 a1.Cwd.Dev, .int .i64 a1.Cwd.Ino, .string a1.Comm, .string a1.Exe, .slice p7 a1.Open.length c8, .bool a1.Audited] 38]] := H
                              refine wl_cons (wl_val E1367 rfl (rn_fieldAddr E1367 rfl Try.underlying38 rfl ti36 rfl rfl) rfl fun a1368 E1369 => ?_)
                              clear E1367
                              refine wl_cons (wl_val E1369 rfl (rn_ld1 (i := 0) E1369 H rfl Try.underlying36 rfl rfl rfl rfl) rfl fun a1370 E1371 => ?_)
                              clear E1369
                              refine wl_cons (wl_val E1371 rfl (rn_len E1371 rfl Try.underlying36 rfl) rfl fun a1372 E1373 => ?_)
                              clear E1371
                              refine wl_cons (wl_val E1373 rfl (rn_int E1373 rfl rfl rfl rfl) rfl fun a1374 E1375 => ?_)
                              clear E1373
                              refine wl_nil ?_
                              refine then_normal (hK1365 _ _ ?_)
                              rcases Bool.eq_false_or_eq_true (decide (x1356 < (a0.Open.length : Int))) with hb1376 | hb1376
                              · replace h1363 := itT hb1376 h1363
                                refine wc_T E1375 rfl hb1376 ?_
                                refine wp_skip ?_
                                refine then_normal (hK1364 _ _ ?_)
                                refine wp_seq_k fun _ hK1377 => ?_
                                refine wp_block ?_
                                refine wp_seq_k fun _ hK1378 => ?_
                                refine wa_begin mixed (fun w_ => True) [] [] H rfl fun w1379 H' => ?_
                                clear H; have H := H'; clear H'
                                refine wa_take (i := 0) E1375 rfl (by kernel_rfl) (panic_then (panic_block (panic_then (panic_then (panic_block (panic_then panic_body)))))) rfl (fun w_ => rn_fieldAddr E1375 rfl Try.underlying38 rfl ti36 rfl rfl) rfl fun a1380 E1381 => ?_
                                clear E1375
                                refine wa_takeU (i := 1) E1381 rfl (by kernel_rfl) (by kernel_rfl) (panic_then (panic_block (panic_then (panic_then (panic_block (panic_then panic_body)))))) rfl (rn_ld1 (i := 0) E1381 H rfl Try.underlying36 rfl rfl rfl rfl) rfl fun a1382 E1383 => ?_
                                clear E1381
                                refine wa_take (i := 2) E1383 rfl (by kernel_rfl) (panic_then (panic_block (panic_then (panic_then (panic_block (panic_then panic_body)))))) rfl (fun w_ => rn_move E1383 rfl rfl) rfl fun a1384 E1385 => ?_
                                clear E1383
                                obtain ⟨u1386, hy1387, h1363⟩ := bs h1363
                                obtain ⟨q1388, hq1389, hr1390⟩ := rn_idx (K := k_api_Descriptor) (P := Try.prog) (o := ⟨some 107, .indexAddr 36 (.tmp 105) (.tmp 106), 0, "", #[], none⟩) E1385 rfl Try.underlying36 ti81 rfl rfl (H.readA (k := 0) rfl) hy1387
                                refine wa_take (i := 3) E1385 rfl (by kernel_rfl) (panic_then (panic_block (panic_then (panic_then (panic_block (panic_then panic_body)))))) rfl (fun w_ => (hr1390 _)) rfl fun a1391 E1392 => ?_
                                clear E1385
                                obtain ⟨_, H', hc1393⟩ := St.openA k_api_Descriptor_opens H (k := 0) rfl hy1387
                                replace H := H'; clear H'
                                refine wa_takeU (i := 4) E1392 rfl (by kernel_rfl) (by kernel_rfl) (panic_then (panic_block (panic_then (panic_then (panic_block (panic_then panic_body)))))) rfl (rn_loadIN (vs := [.int .i64 u1386.FD, .int .i64 u1386.File.Dev, .int .i64 u1386.File.Ino, .int .i64 u1386.Flags]) E1392 rfl Try.underlying81 rfl ti81 rfl hq1389 hc1393 rfl rfl) rfl fun a1394 E1395 => ?_
                                clear E1392
                                refine wa_take (i := 5) E1395 rfl (by kernel_rfl) (panic_then (panic_block (panic_then (panic_then (panic_block (panic_then panic_body)))))) rfl (fun w_ => rn_fieldAddr E1395 rfl Try.underlying38 rfl ti36 rfl rfl) rfl fun a1396 E1397 => ?_
                                clear E1395
                                refine wa_takeU (i := 6) E1397 rfl (by kernel_rfl) (by kernel_rfl) (panic_then (panic_block (panic_then (panic_then (panic_block (panic_then panic_body)))))) rfl (rn_ld1 (i := 1) E1397 H rfl Try.underlying36 rfl rfl rfl rfl) rfl fun a1398 E1399 => ?_
                                clear E1397
                                refine wa_take (i := 7) E1399 rfl (by kernel_rfl) (panic_then (panic_block (panic_then (panic_then (panic_block (panic_then panic_body)))))) rfl (fun w_ => rn_move E1399 rfl rfl) rfl fun a1400 E1401 => ?_
                                clear E1399
                                obtain ⟨u1402, hy1403, h1363⟩ := bs h1363
                                obtain ⟨q1404, hq1405, hr1406⟩ := rn_idx (K := k_api_Descriptor) (P := Try.prog) (o := ⟨some 112, .indexAddr 36 (.tmp 110) (.tmp 111), 0, "", #[], none⟩) E1401 rfl Try.underlying36 ti81 rfl rfl (H.readA (k := 1) rfl) hy1403
                                refine wa_take (i := 8) E1401 rfl (by kernel_rfl) (panic_then (panic_block (panic_then (panic_then (panic_block (panic_then panic_body)))))) rfl (fun w_ => (hr1406 _)) rfl fun a1407 E1408 => ?_
                                clear E1401
                                obtain ⟨_, H', hc1409⟩ := St.openA k_api_Descriptor_opens H (k := 1) rfl hy1403
                                replace H := H'; clear H'
                                refine wa_takeU (i := 9) E1408 rfl (by kernel_rfl) (by kernel_rfl) (panic_then (panic_block (panic_then (panic_then (panic_block (panic_then panic_body)))))) rfl (rn_loadIN (vs := [.int .i64 u1402.FD, .int .i64 u1402.File.Dev, .int .i64 u1402.File.Ino, .int .i64 u1402.Flags]) E1408 rfl Try.underlying81 rfl ti81 rfl hq1405 hc1409 rfl rfl) rfl fun a1410 E1411 => ?_
                                clear E1408
                                refine wa_take (i := 10) E1411 rfl (by kernel_rfl) (panic_then (panic_block (panic_then (panic_then (panic_block (panic_then panic_body)))))) rfl (fun w_ => rn_nestruct (xs := [.int .i64 u1386.FD, .int .i64 u1386.File.Dev, .int .i64 u1386.File.Ino, .int .i64 u1386.Flags]) (ys := [.int .i64 u1402.FD, .int .i64 u1402.File.Dev, .int .i64 u1402.File.Ino, .int .i64 u1402.Flags]) (r := ((u1386.FD == u1402.FD) && (((u1386.File.Dev == u1402.File.Dev) && ((u1386.File.Ino == u1402.File.Ino) && true)) && ((u1386.Flags == u1402.Flags) && true)))) E1411 rfl eg_81 rfl rfl (eq_81 9997 _ _ _ _ _ _ _ _ _)) rfl fun a1412 E1413 => ?_
                                clear E1411
                                refine wa_done (by kernel_rfl) ?_
                                refine then_normal (hK1378 _ _ ?_)
                                rcases Bool.eq_false_or_eq_true ((u1386.FD == u1402.FD) && (((u1386.File.Dev == u1402.File.Dev) && ((u1386.File.Ino == u1402.File.Ino) && true)) && ((u1386.Flags == u1402.Flags) && true))) with hb1414 | hb1414
                                · replace h1363 := itT hb1414 h1363
                                  refine wc_F E1413 rfl (congrArg Bool.not hb1414) ?_
                                  refine wp_skip ?_
                                  refine block_normal ?_
                                  refine then_normal (hK1377 _ _ ?_)
                                  refine wp_region_lit ?_
                                  refine wl_cons (wl_val E1413 rfl (rn_move E1413 rfl rfl) rfl fun a1415 E1416 => ?_)
                                  clear E1413
                                  refine wl_cons (wl_val E1416 rfl (rn_int E1416 rfl rfl rfl rfl) rfl fun a1417 E1418 => ?_)
                                  clear E1416
                                  refine wl_cons (wl_val E1418 rfl (rn_assign E1418 rfl rfl) rfl fun a1419 E1420 => ?_)
                                  clear E1418
                                  refine wl_nil ?_
                                  replace H : St w Nil Z w1379 [vw (kSlice 81 k_api_Descriptor) a0.Open [.slice p5 a0.Open.length c6], vw (kSlice 81 k_api_Descriptor) a1.Open [.slice p7 a1.Open.length c8]] ([[blk g10 [.int .i64 a0.PID, .int .i64 a0.PPID, .int .i64 a0.UID, .int .i64 a0.EUID, .int .i64 a0.GID, .int .i64 a0.EGID, .int .i64 a0.AUID, .int .i64 a0.Session, .int .i64 a0.Cwd.Dev, .int .i64 a0.Cwd.Ino, .string a0.Comm, .string a0.Exe, .slice p5 a0.Open.length c6, .bool a0.Audited] 38], [blk g14 [.int .i64 a1.PID, .int .i64 a1.PPID, .int .i64 a1.UID, .int .i64 a1.EUID, .int .i64 a1.GID, .int .i64 a1.EGID, .int .i64 a1.AUID, .int .i64 a1.Session, .int .i64 a1.Cwd.Dev, .int .i64 a1.Cwd.Ino, .string a1.Comm, .string a1.Exe, .slice p7 a1.Open.length c8, .bool a1.Audited] 38]] ++ []) := H
                                  exact ⟨(IntKind.wrap .i64 (x1356 + 1)), E1420.pick ⟨rfl, rfl, rfl, rfl, rfl, rfl, rfl, rfl, rfl, rfl, rfl, rfl, rfl, rfl, rfl, rfl, rfl, rfl, rfl, rfl, rfl, rfl, rfl, rfl, rfl, rfl, rfl, rfl, rfl, rfl, rfl, rfl, rfl, rfl, rfl, rfl, rfl, rfl, rfl, rfl, rfl, rfl, rfl, rfl, rfl, rfl, rfl, rfl, rfl, rfl, rfl, rfl, rfl, rfl, rfl, rfl, rfl, rfl, rfl, rfl, rfl, rfl, rfl, rfl, rfl, rfl, rfl, rfl, rfl, rfl, rfl, rfl, rfl, rfl, rfl, rfl, rfl, rfl, rfl, rfl, rfl, rfl, rfl, rfl, rfl, rfl, rfl, rfl, rfl, rfl, rfl, rfl, rfl, rfl, rfl, rfl, rfl, trivial⟩, H.front.sel (fun Z hA => ⟨(argHolds_get hA (k := 0) rfl), (argHolds_get hA (k := 1) rfl), trivial⟩), h1363⟩
                                · replace h1363 := itF hb1414 h1363
                                  refine wc_T E1413 rfl (congrArg Bool.not hb1414) ?_
                                  refine wp_seq_k fun _ hK1421 => ?_
                                  refine wp_region_lit ?_
                                  refine wl_cons (wl_val E1413 rfl (rn_assign E1413 rfl rfl) rfl fun a1422 E1423 => ?_)
                                  clear E1413
                                  refine wl_nil ?_
                                  refine then_normal (hK1421 _ _ ?_)
                                  refine wp_ret ?_
                                  obtain rfl := Option.some.inj h1363
                                  try dsimp only at h
                                  refine block_ret (then_ret (then_ret (block_ret (then_ret (?_)))))
                                  obtain rfl := Option.some.inj h
                                  refine wb_ret1 E1423 rfl (rv_tmp E1423 rfl) ?_
                                  exact ⟨_, rfl, [], [], ⟨rfl, rfl, rfl⟩, H.leave (fun Z hA => trivial) (fun Z S hA hL => trivial)⟩
                              · replace h1363 := itF hb1376 h1363
                                refine wc_F E1375 rfl hb1376 ?_
                                refine wp_exit ?_
                                obtain rfl := Option.some.inj h1363
                                try dsimp only at h
                                refine then_exit (then_exit (block_exit (?_)))
                                refine then_normal (hK1231 _ _ ?_)
                                refine wp_seq_k fun _ hK1424 => ?_
                                refine wp_region_lit ?_
                                refine wl_cons (wl_val E1375 rfl (rn_assign E1375 rfl rfl) rfl fun a1425 E1426 => ?_)
                                clear E1375
                                refine wl_nil ?_
                                refine then_normal (hK1424 _ _ ?_)
                                refine wp_ret ?_
                                refine ?_
                                obtain rfl := Option.some.inj h
                                refine wb_ret1 E1426 rfl (rv_tmp E1426 rfl) ?_
                                exact ⟨_, rfl, [], [], ⟨rfl, rfl, rfl⟩, H.leave (fun Z hA => trivial) (fun Z S hA hL => trivial)⟩
                      · replace h := itF hb1176 h
                        refine wl_cons (wl_pass E1175 (E1175.unwanted rfl rfl rfl (congrArg Bool.not hb1176)) rfl fun a1427 E1428 => ?_)
                        clear E1175
                        refine wl_cons (wl_pass E1428 (E1428.unwanted rfl rfl rfl (congrArg Bool.not hb1176)) rfl fun a1429 E1430 => ?_)
                        clear E1428
                        refine wl_cons (wl_pass E1430 (E1430.unwanted rfl rfl rfl (congrArg Bool.not hb1176)) rfl fun a1431 E1432 => ?_)
                        clear E1430
                        refine wl_cons (wl_pass E1432 (E1432.unwanted rfl rfl rfl (congrArg Bool.not hb1176)) rfl fun a1433 E1434 => ?_)
                        clear E1432
                        refine wl_cons (wl_pass E1434 (E1434.unwanted rfl rfl rfl (congrArg Bool.not hb1176)) rfl fun a1435 E1436 => ?_)
                        clear E1434
                        refine wl_cons (wl_val E1436 rfl (rn_pickT E1436 rfl rfl (congrArg Bool.not hb1176) rfl) rfl fun a1437 E1438 => ?_)
                        clear E1436
                        refine wl_cons (wl_val E1438 rfl (rn_move E1438 rfl rfl) rfl fun a1439 E1440 => ?_)
                        clear E1438
                        refine wl_cons (wl_pass E1440 (E1440.unwanted rfl rfl rfl rfl) rfl fun a1441 E1442 => ?_)
                        clear E1440
                        refine wl_cons (wl_pass E1442 (E1442.unwanted rfl rfl rfl rfl) rfl fun a1443 E1444 => ?_)
                        clear E1442
                        refine wl_cons (wl_pass E1444 (E1444.unwanted rfl rfl rfl rfl) rfl fun a1445 E1446 => ?_)
                        clear E1444
                        refine wl_cons (wl_pass E1446 (E1446.unwanted rfl rfl rfl rfl) rfl fun a1447 E1448 => ?_)
                        clear E1446
                        refine wl_cons (wl_pass E1448 (E1448.unwanted rfl rfl rfl rfl) rfl fun a1449 E1450 => ?_)
                        clear E1448
                        refine wl_cons (wl_pass E1450 (E1450.unwanted rfl rfl rfl rfl) rfl fun a1451 E1452 => ?_)
                        clear E1450
                        refine wl_cons (wl_pass E1452 (E1452.unwanted rfl rfl rfl rfl) rfl fun a1453 E1454 => ?_)
                        clear E1452
                        refine wl_cons (wl_val E1454 rfl (rn_pickT E1454 rfl rfl rfl rfl) rfl fun a1455 E1456 => ?_)
                        clear E1454
                        refine wl_nil ?_
                        refine then_normal (hK21 _ _ ?_)
                        refine wc_T E1456 rfl rfl ?_
                        refine wp_seq_k fun _ hK1457 => ?_
                        refine wp_region_lit ?_
                        refine wl_cons (wl_val E1456 rfl (rn_assign E1456 rfl rfl) rfl fun a1458 E1459 => ?_)
                        clear E1456
                        refine wl_nil ?_
                        refine then_normal (hK1457 _ _ ?_)
                        refine wp_ret ?_
                        refine then_ret (?_)
                        obtain rfl := Option.some.inj h
                        refine wb_ret1 E1459 rfl (rv_tmp E1459 rfl) ?_
                        exact ⟨_, rfl, [], [], ⟨rfl, rfl, rfl⟩, H.leave (fun Z hA => trivial) (fun Z S hA hL => trivial)⟩
                    · replace h := itF hb1161 h
                      refine wl_cons (wl_pass E1160 (E1160.unwanted rfl rfl rfl (congrArg Bool.not hb1161)) rfl fun a1460 E1461 => ?_)
                      clear E1160
                      refine wl_cons (wl_pass E1461 (E1461.unwanted rfl rfl rfl (congrArg Bool.not hb1161)) rfl fun a1462 E1463 => ?_)
                      clear E1461
                      refine wl_cons (wl_pass E1463 (E1463.unwanted rfl rfl rfl (congrArg Bool.not hb1161)) rfl fun a1464 E1465 => ?_)
                      clear E1463
                      refine wl_cons (wl_pass E1465 (E1465.unwanted rfl rfl rfl (congrArg Bool.not hb1161)) rfl fun a1466 E1467 => ?_)
                      clear E1465
                      refine wl_cons (wl_pass E1467 (E1467.unwanted rfl rfl rfl (congrArg Bool.not hb1161)) rfl fun a1468 E1469 => ?_)
                      clear E1467
                      refine wl_cons (wl_val E1469 rfl (rn_pickT E1469 rfl rfl (congrArg Bool.not hb1161) rfl) rfl fun a1470 E1471 => ?_)
                      clear E1469
                      refine wl_cons (wl_val E1471 rfl (rn_move E1471 rfl rfl) rfl fun a1472 E1473 => ?_)
                      clear E1471
                      refine wl_cons (wl_pass E1473 (E1473.unwanted rfl rfl rfl rfl) rfl fun a1474 E1475 => ?_)
                      clear E1473
                      refine wl_cons (wl_pass E1475 (E1475.unwanted rfl rfl rfl rfl) rfl fun a1476 E1477 => ?_)
                      clear E1475
                      refine wl_cons (wl_pass E1477 (E1477.unwanted rfl rfl rfl rfl) rfl fun a1478 E1479 => ?_)
                      clear E1477
                      refine wl_cons (wl_pass E1479 (E1479.unwanted rfl rfl rfl rfl) rfl fun a1480 E1481 => ?_)
                      clear E1479
                      refine wl_cons (wl_pass E1481 (E1481.unwanted rfl rfl rfl rfl) rfl fun a1482 E1483 => ?_)
                      clear E1481
                      refine wl_cons (wl_val E1483 rfl (rn_pickT E1483 rfl rfl rfl rfl) rfl fun a1484 E1485 => ?_)
                      clear E1483
                      refine wl_cons (wl_val E1485 rfl (rn_move E1485 rfl rfl) rfl fun a1486 E1487 => ?_)
                      clear E1485
                      refine wl_cons (wl_pass E1487 (E1487.unwanted rfl rfl rfl rfl) rfl fun a1488 E1489 => ?_)
                      clear E1487
                      refine wl_cons (wl_pass E1489 (E1489.unwanted rfl rfl rfl rfl) rfl fun a1490 E1491 => ?_)
                      clear E1489
                      refine wl_cons (wl_pass E1491 (E1491.unwanted rfl rfl rfl rfl) rfl fun a1492 E1493 => ?_)
                      clear E1491
                      refine wl_cons (wl_pass E1493 (E1493.unwanted rfl rfl rfl rfl) rfl fun a1494 E1495 => ?_)
                      clear E1493
                      refine wl_cons (wl_pass E1495 (E1495.unwanted rfl rfl rfl rfl) rfl fun a1496 E1497 => ?_)
                      clear E1495
                      refine wl_cons (wl_pass E1497 (E1497.unwanted rfl rfl rfl rfl) rfl fun a1498 E1499 => ?_)
                      clear E1497
                      refine wl_cons (wl_pass E1499 (E1499.unwanted rfl rfl rfl rfl) rfl fun a1500 E1501 => ?_)
                      clear E1499
                      refine wl_cons (wl_val E1501 rfl (rn_pickT E1501 rfl rfl rfl rfl) rfl fun a1502 E1503 => ?_)
                      clear E1501
                      refine wl_nil ?_
                      refine then_normal (hK21 _ _ ?_)
                      refine wc_T E1503 rfl rfl ?_
                      refine wp_seq_k fun _ hK1504 => ?_
                      refine wp_region_lit ?_
                      refine wl_cons (wl_val E1503 rfl (rn_assign E1503 rfl rfl) rfl fun a1505 E1506 => ?_)
                      clear E1503
                      refine wl_nil ?_
                      refine then_normal (hK1504 _ _ ?_)
                      refine wp_ret ?_
                      refine then_ret (?_)
                      obtain rfl := Option.some.inj h
                      refine wb_ret1 E1506 rfl (rv_tmp E1506 rfl) ?_
                      exact ⟨_, rfl, [], [], ⟨rfl, rfl, rfl⟩, H.leave (fun Z hA => trivial) (fun Z S hA hL => trivial)⟩
                  · replace h := itF hb1146 h
                    refine wl_cons (wl_pass E1145 (E1145.unwanted rfl rfl rfl (congrArg Bool.not hb1146)) rfl fun a1507 E1508 => ?_)
                    clear E1145
                    refine wl_cons (wl_pass E1508 (E1508.unwanted rfl rfl rfl (congrArg Bool.not hb1146)) rfl fun a1509 E1510 => ?_)
                    clear E1508
                    refine wl_cons (wl_pass E1510 (E1510.unwanted rfl rfl rfl (congrArg Bool.not hb1146)) rfl fun a1511 E1512 => ?_)
                    clear E1510
                    refine wl_cons (wl_pass E1512 (E1512.unwanted rfl rfl rfl (congrArg Bool.not hb1146)) rfl fun a1513 E1514 => ?_)
                    clear E1512
                    refine wl_cons (wl_pass E1514 (E1514.unwanted rfl rfl rfl (congrArg Bool.not hb1146)) rfl fun a1515 E1516 => ?_)
                    clear E1514
                    refine wl_cons (wl_val E1516 rfl (rn_pickT E1516 rfl rfl (congrArg Bool.not hb1146) rfl) rfl fun a1517 E1518 => ?_)
                    clear E1516
                    refine wl_cons (wl_val E1518 rfl (rn_move E1518 rfl rfl) rfl fun a1519 E1520 => ?_)
                    clear E1518
                    refine wl_cons (wl_pass E1520 (E1520.unwanted rfl rfl rfl rfl) rfl fun a1521 E1522 => ?_)
                    clear E1520
                    refine wl_cons (wl_pass E1522 (E1522.unwanted rfl rfl rfl rfl) rfl fun a1523 E1524 => ?_)
                    clear E1522
                    refine wl_cons (wl_pass E1524 (E1524.unwanted rfl rfl rfl rfl) rfl fun a1525 E1526 => ?_)
                    clear E1524
                    refine wl_cons (wl_pass E1526 (E1526.unwanted rfl rfl rfl rfl) rfl fun a1527 E1528 => ?_)
                    clear E1526
                    refine wl_cons (wl_pass E1528 (E1528.unwanted rfl rfl rfl rfl) rfl fun a1529 E1530 => ?_)
                    clear E1528
                    refine wl_cons (wl_val E1530 rfl (rn_pickT E1530 rfl rfl rfl rfl) rfl fun a1531 E1532 => ?_)
                    clear E1530
                    refine wl_cons (wl_val E1532 rfl (rn_move E1532 rfl rfl) rfl fun a1533 E1534 => ?_)
                    clear E1532
                    refine wl_cons (wl_pass E1534 (E1534.unwanted rfl rfl rfl rfl) rfl fun a1535 E1536 => ?_)
                    clear E1534
                    refine wl_cons (wl_pass E1536 (E1536.unwanted rfl rfl rfl rfl) rfl fun a1537 E1538 => ?_)
                    clear E1536
                    refine wl_cons (wl_pass E1538 (E1538.unwanted rfl rfl rfl rfl) rfl fun a1539 E1540 => ?_)
                    clear E1538
                    refine wl_cons (wl_pass E1540 (E1540.unwanted rfl rfl rfl rfl) rfl fun a1541 E1542 => ?_)
                    clear E1540
                    refine wl_cons (wl_pass E1542 (E1542.unwanted rfl rfl rfl rfl) rfl fun a1543 E1544 => ?_)
                    clear E1542
                    refine wl_cons (wl_val E1544 rfl (rn_pickT E1544 rfl rfl rfl rfl) rfl fun a1545 E1546 => ?_)
                    clear E1544
                    refine wl_cons (wl_val E1546 rfl (rn_move E1546 rfl rfl) rfl fun a1547 E1548 => ?_)
                    clear E1546
                    refine wl_cons (wl_pass E1548 (E1548.unwanted rfl rfl rfl rfl) rfl fun a1549 E1550 => ?_)
                    clear E1548
                    refine wl_cons (wl_pass E1550 (E1550.unwanted rfl rfl rfl rfl) rfl fun a1551 E1552 => ?_)
                    clear E1550
                    refine wl_cons (wl_pass E1552 (E1552.unwanted rfl rfl rfl rfl) rfl fun a1553 E1554 => ?_)
                    clear E1552
                    refine wl_cons (wl_pass E1554 (E1554.unwanted rfl rfl rfl rfl) rfl fun a1555 E1556 => ?_)
                    clear E1554
                    refine wl_cons (wl_pass E1556 (E1556.unwanted rfl rfl rfl rfl) rfl fun a1557 E1558 => ?_)
                    clear E1556
                    refine wl_cons (wl_pass E1558 (E1558.unwanted rfl rfl rfl rfl) rfl fun a1559 E1560 => ?_)
                    clear E1558
                    refine wl_cons (wl_pass E1560 (E1560.unwanted rfl rfl rfl rfl) rfl fun a1561 E1562 => ?_)
                    clear E1560
                    refine wl_cons (wl_val E1562 rfl (rn_pickT E1562 rfl rfl rfl rfl) rfl fun a1563 E1564 => ?_)
                    clear E1562
                    refine wl_nil ?_
                    refine then_normal (hK21 _ _ ?_)
                    refine wc_T E1564 rfl rfl ?_
                    refine wp_seq_k fun _ hK1565 => ?_
                    refine wp_region_lit ?_
                    refine wl_cons (wl_val E1564 rfl (rn_assign E1564 rfl rfl) rfl fun a1566 E1567 => ?_)
                    clear E1564
                    refine wl_nil ?_
                    refine then_normal (hK1565 _ _ ?_)
                    refine wp_ret ?_
                    refine then_ret (?_)
                    obtain rfl := Option.some.inj h
                    refine wb_ret1 E1567 rfl (rv_tmp E1567 rfl) ?_
                    exact ⟨_, rfl, [], [], ⟨rfl, rfl, rfl⟩, H.leave (fun Z hA => trivial) (fun Z S hA hL => trivial)⟩
theorem C43_flat {r : Bool} : ∀ v_ A_ N_, (fun (v_ : Value) (A_ : List VP) (N_ : List (List SP)) => v_ = .bool r ∧ A_ = [] ∧ N_ = []) v_ A_ N_ → A_ = [] ∧ Flat N_ := by
  rintro v_ A_ N_ ⟨rfl, rfl, rfl⟩
  exact ⟨rfl, flat_nil⟩
end Go.Proofs.Ytanimjbmkhpnaaa.Gx
