/- Function 23, kaudit/process.Valid: what it answers as a plain function, and that the Go code comes to exactly that (where the plain function gives an answer). -/
import Derived.Test.YtanimjbmkhpnaaaXT
import Derived.Test.YtanimjbmkhpnaaaX37
import Derived.Test.YtanimjbmkhpnaaaX39
import Derived.Test.YtanimjbmkhpnaaaX44
set_option linter.unusedVariables false
set_option linter.unusedSimpArgs false
namespace Go.Proofs.Ytanimjbmkhpnaaa.Gx
open Go.Gx Go.RowKit
/-! ### kaudit/process.Valid: function 23 -/
def f_process_Valid_l1 (a0 : api_Table) : Nat → Int → Option (Sum (Unit) (Bool))
  | 0, _ => none
  | k_ + 1, x2205 => if (decide (x2205 < (a0.Processes.length : Int))) = true then ((at_ a0.Processes x2205).bind fun u2222 => ck (cutOk a0.Processes 0 x2205) ((f_process_place (⟨0, 0, (cut a0.Processes 0 x2205)⟩ : api_Table) u2222.PPID).bind fun y2262 => if (decide (x2205 > 0)) = true then ((at_ a0.Processes (IntKind.wrap .i64 (x2205 - 1))).bind fun u2294 => if (decide (u2294.PID ≥ u2222.PID)) = true then (some (Sum.inr (false))) else (if y2262.2 = true then (if (x2205 == 0) = true then (if (u2222.PPID != 0) = true then (some (Sum.inr (false))) else (if (decide (u2222.PID ≥ a0.Next)) = true then (some (Sum.inr (false))) else ((f_process_between 4294967294 [u2222.UID, u2222.EUID, u2222.GID, u2222.EGID]).bind fun y2463 => if y2463 = true then ((f_process_between 4294967295 [u2222.AUID]).bind fun y2484 => if y2484 = true then (if (u2222.Session != 4294967295) = true then (if (decide (u2222.Session < 0)) = true then (some (Sum.inr (false))) else (if (decide (u2222.Session ≥ a0.NextSession)) = true then (some (Sum.inr (false))) else ((f_process_descriptors u2222.Open).bind fun y2582 => if y2582 = true then (f_process_Valid_l1 a0 k_ (IntKind.wrap .i64 (x2205 + 1))) else (some (Sum.inr (false)))))) else ((f_process_descriptors u2222.Open).bind fun y2629 => if y2629 = true then (f_process_Valid_l1 a0 k_ (IntKind.wrap .i64 (x2205 + 1))) else (some (Sum.inr (false))))) else (some (Sum.inr (false)))) else (some (Sum.inr (false)))))) else (if (decide (u2222.PID ≥ a0.Next)) = true then (some (Sum.inr (false))) else ((f_process_between 4294967294 [u2222.UID, u2222.EUID, u2222.GID, u2222.EGID]).bind fun y2758 => if y2758 = true then ((f_process_between 4294967295 [u2222.AUID]).bind fun y2779 => if y2779 = true then (if (u2222.Session != 4294967295) = true then (if (decide (u2222.Session < 0)) = true then (some (Sum.inr (false))) else (if (decide (u2222.Session ≥ a0.NextSession)) = true then (some (Sum.inr (false))) else ((f_process_descriptors u2222.Open).bind fun y2877 => if y2877 = true then (f_process_Valid_l1 a0 k_ (IntKind.wrap .i64 (x2205 + 1))) else (some (Sum.inr (false)))))) else ((f_process_descriptors u2222.Open).bind fun y2924 => if y2924 = true then (f_process_Valid_l1 a0 k_ (IntKind.wrap .i64 (x2205 + 1))) else (some (Sum.inr (false))))) else (some (Sum.inr (false)))) else (some (Sum.inr (false)))))) else (some (Sum.inr (false))))) else (if (x2205 == 0) = true then (if (u2222.PPID != 0) = true then (some (Sum.inr (false))) else (if (decide (u2222.PID ≥ a0.Next)) = true then (some (Sum.inr (false))) else ((f_process_between 4294967294 [u2222.UID, u2222.EUID, u2222.GID, u2222.EGID]).bind fun y3117 => if y3117 = true then ((f_process_between 4294967295 [u2222.AUID]).bind fun y3138 => if y3138 = true then (if (u2222.Session != 4294967295) = true then (if (decide (u2222.Session < 0)) = true then (some (Sum.inr (false))) else (if (decide (u2222.Session ≥ a0.NextSession)) = true then (some (Sum.inr (false))) else ((f_process_descriptors u2222.Open).bind fun y3236 => if y3236 = true then (f_process_Valid_l1 a0 k_ (IntKind.wrap .i64 (x2205 + 1))) else (some (Sum.inr (false)))))) else ((f_process_descriptors u2222.Open).bind fun y3283 => if y3283 = true then (f_process_Valid_l1 a0 k_ (IntKind.wrap .i64 (x2205 + 1))) else (some (Sum.inr (false))))) else (some (Sum.inr (false)))) else (some (Sum.inr (false)))))) else (if (decide (u2222.PID ≥ a0.Next)) = true then (some (Sum.inr (false))) else ((f_process_between 4294967294 [u2222.UID, u2222.EUID, u2222.GID, u2222.EGID]).bind fun y3412 => if y3412 = true then ((f_process_between 4294967295 [u2222.AUID]).bind fun y3433 => if y3433 = true then (if (u2222.Session != 4294967295) = true then (if (decide (u2222.Session < 0)) = true then (some (Sum.inr (false))) else (if (decide (u2222.Session ≥ a0.NextSession)) = true then (some (Sum.inr (false))) else ((f_process_descriptors u2222.Open).bind fun y3531 => if y3531 = true then (f_process_Valid_l1 a0 k_ (IntKind.wrap .i64 (x2205 + 1))) else (some (Sum.inr (false)))))) else ((f_process_descriptors u2222.Open).bind fun y3578 => if y3578 = true then (f_process_Valid_l1 a0 k_ (IntKind.wrap .i64 (x2205 + 1))) else (some (Sum.inr (false))))) else (some (Sum.inr (false)))) else (some (Sum.inr (false)))))))) else (some (Sum.inl ()))
def f_process_Valid (a0 : api_Table) : Option (Bool) := if (decide (a0.Next < 1)) = true then (some (false)) else (if (decide (a0.Next > 1073741824)) = true then (some (false)) else (if (decide (a0.NextSession < 1)) = true then (some (false)) else (if (decide (a0.NextSession > 1073741824)) = true then (some (false)) else (if ((a0.Processes.length : Int) == 0) = true then (some (false)) else (if (decide ((a0.Processes.length : Int) > 16)) = true then (some (false)) else ((at_ a0.Processes 0).bind fun u356 => if (u356.PID != 1) = true then (some (false)) else ((f_process_Valid_l1 a0 (((((a0.Processes.length : Int) : Int) - (0)).toNat + 1)) 0).bind fun o_ => match o_ with | Sum.inl _ => some (true) | Sum.inr r_ => some (r_))))))))
set_option maxHeartbeats 4000000 in
set_option maxRecDepth 100000 in
theorem C23 (a0 : api_Table) (p3 : Option Addr) (c4 : Nat) (r : Bool) (w : World) (h : f_process_Valid a0 = some r) : Fun Try.prog 23 #[.agg #[.int .i64 a0.Next, .int .i64 a0.NextSession, .slice p3 a0.Processes.length c4]] w [vw (kSlice 38 k_api_Process) a0.Processes [.slice p3 a0.Processes.length c4]] (fun (v_ : Value) (A_ : List VP) (N_ : List (List SP)) => v_ = .bool r ∧ A_ = [] ∧ N_ = []) := by
  unfold f_process_Valid at h
  refine fun_begin (args := [.agg #[.int .i64 a0.Next, .int .i64 a0.NextSession, .slice p3 a0.Processes.length c4]]) Try.func23 rfl Try.ntmps23 rfl fun Z a E H => ?_
  refine wp_seq_k fun _ hK5 => ?_
  refine wp_region_lit ?_
  refine wl_cons (wl_box (T := 28) (cs := [.int .i64 a0.Next, .int .i64 a0.NextSession, .slice p3 a0.Processes.length c4]) E H rfl rfl rfl rfl fun g6 w7 a8 E9 H' => ?_)
  clear H E; have H := H'; clear H'
  refine wl_cons (wl_val E9 rfl (rn_assign E9 rfl rfl) rfl fun a10 E11 => ?_)
  clear E9
  refine wl_nil ?_
  refine then_normal (hK5 _ _ ?_)
  refine wp_seq_k fun _ hK12 => ?_
  refine wp_seq_k fun _ hK13 => ?_
  refine wp_region_lit ?_
  refine wl_cons (wl_val E11 rfl (rn_fieldAddr E11 rfl Try.underlying28 rfl ti3 rfl rfl) rfl fun a14 E15 => ?_)
  clear E11
  refine wl_cons (wl_val E15 rfl (rn_ld1 (i := 0) E15 H rfl Try.underlying3 rfl rfl rfl rfl) rfl fun a16 E17 => ?_)
  clear E15
  refine wl_cons (wl_val E17 rfl (rn_int E17 rfl rfl rfl rfl) rfl fun a18 E19 => ?_)
  clear E17
  refine wl_cons (wl_val E19 rfl (rn_move E19 rfl rfl) rfl fun a20 E21 => ?_)
  clear E19
  rcases Bool.eq_false_or_eq_true (decide (a0.Next < 1)) with hb22 | hb22
  · replace h := itT hb22 h
    refine wl_cons (wl_pass E21 (E21.unwanted rfl rfl rfl hb22) rfl fun a23 E24 => ?_)
    clear E21
    refine wl_cons (wl_pass E24 (E24.unwanted rfl rfl rfl hb22) rfl fun a25 E26 => ?_)
    clear E24
    refine wl_cons (wl_pass E26 (E26.unwanted rfl rfl rfl hb22) rfl fun a27 E28 => ?_)
    clear E26
    refine wl_cons (wl_val E28 rfl (rn_pickT E28 rfl rfl hb22 rfl) rfl fun a29 E30 => ?_)
    clear E28
    refine wl_cons (wl_val E30 rfl (rn_move E30 rfl rfl) rfl fun a31 E32 => ?_)
    clear E30
    refine wl_cons (wl_pass E32 (E32.unwanted rfl rfl rfl rfl) rfl fun a33 E34 => ?_)
    clear E32
    refine wl_cons (wl_pass E34 (E34.unwanted rfl rfl rfl rfl) rfl fun a35 E36 => ?_)
    clear E34
    refine wl_cons (wl_pass E36 (E36.unwanted rfl rfl rfl rfl) rfl fun a37 E38 => ?_)
    clear E36
    refine wl_cons (wl_val E38 rfl (rn_pickT E38 rfl rfl rfl rfl) rfl fun a39 E40 => ?_)
    clear E38
    refine wl_cons (wl_val E40 rfl (rn_move E40 rfl rfl) rfl fun a41 E42 => ?_)
    clear E40
    refine wl_cons (wl_pass E42 (E42.unwanted rfl rfl rfl rfl) rfl fun a43 E44 => ?_)
    clear E42
    refine wl_cons (wl_pass E44 (E44.unwanted rfl rfl rfl rfl) rfl fun a45 E46 => ?_)
    clear E44
    refine wl_cons (wl_pass E46 (E46.unwanted rfl rfl rfl rfl) rfl fun a47 E48 => ?_)
    clear E46
    refine wl_cons (wl_val E48 rfl (rn_pickT E48 rfl rfl rfl rfl) rfl fun a49 E50 => ?_)
    clear E48
    refine wl_cons (wl_val E50 rfl (rn_move E50 rfl rfl) rfl fun a51 E52 => ?_)
    clear E50
    refine wl_cons (wl_pass E52 (E52.unwanted rfl rfl rfl rfl) rfl fun a53 E54 => ?_)
    clear E52
    refine wl_cons (wl_pass E54 (E54.unwanted rfl rfl rfl rfl) rfl fun a55 E56 => ?_)
    clear E54
    refine wl_cons (wl_pass E56 (E56.unwanted rfl rfl rfl rfl) rfl fun a57 E58 => ?_)
    clear E56
    refine wl_cons (wl_pass E58 (E58.unwanted rfl rfl rfl rfl) rfl fun a59 E60 => ?_)
    clear E58
    refine wl_cons (wl_val E60 rfl (rn_pickT E60 rfl rfl rfl rfl) rfl fun a61 E62 => ?_)
    clear E60
    refine wl_cons (wl_val E62 rfl (rn_move E62 rfl rfl) rfl fun a63 E64 => ?_)
    clear E62
    refine wl_cons (wl_pass E64 (E64.unwanted rfl rfl rfl rfl) rfl fun a65 E66 => ?_)
    clear E64
    refine wl_cons (wl_pass E66 (E66.unwanted rfl rfl rfl rfl) rfl fun a67 E68 => ?_)
    clear E66
    refine wl_cons (wl_pass E68 (E68.unwanted rfl rfl rfl rfl) rfl fun a69 E70 => ?_)
    clear E68
    refine wl_cons (wl_pass E70 (E70.unwanted rfl rfl rfl rfl) rfl fun a71 E72 => ?_)
    clear E70
    refine wl_cons (wl_val E72 rfl (rn_pickT E72 rfl rfl rfl rfl) rfl fun a73 E74 => ?_)
    clear E72
    refine wl_cons (wl_val E74 rfl (rn_move E74 rfl rfl) rfl fun a75 E76 => ?_)
    clear E74
    refine wl_cons (wl_pass E76 (E76.unwanted rfl rfl rfl rfl) rfl fun a77 E78 => ?_)
    clear E76
    refine wl_cons (wl_pass E78 (E78.unwanted rfl rfl rfl rfl) rfl fun a79 E80 => ?_)
    clear E78
    refine wl_cons (wl_pass E80 (E80.unwanted rfl rfl rfl rfl) rfl fun a81 E82 => ?_)
    clear E80
    refine wl_cons (wl_pass E82 (E82.unwanted rfl rfl rfl rfl) rfl fun a83 E84 => ?_)
    clear E82
    refine wl_cons (wl_pass E84 (E84.unwanted rfl rfl rfl rfl) rfl fun a85 E86 => ?_)
    clear E84
    refine wl_cons (wl_pass E86 (E86.unwanted rfl rfl rfl rfl) rfl fun a87 E88 => ?_)
    clear E86
    refine wl_cons (wl_val E88 rfl (rn_pickT E88 rfl rfl rfl rfl) rfl fun a89 E90 => ?_)
    clear E88
    refine wl_nil ?_
    refine then_normal (hK13 _ _ ?_)
    refine wc_T E90 rfl rfl ?_
    refine wp_seq_k fun _ hK91 => ?_
    refine wp_region_lit ?_
    refine wl_cons (wl_val E90 rfl (rn_assign E90 rfl rfl) rfl fun a92 E93 => ?_)
    clear E90
    refine wl_nil ?_
    refine then_normal (hK91 _ _ ?_)
    refine wp_ret ?_
    refine then_ret (?_)
    obtain rfl := Option.some.inj h
    refine wb_ret1 E93 rfl (rv_tmp E93 rfl) ?_
    exact ⟨_, rfl, [], [], ⟨rfl, rfl, rfl⟩, H.leave (fun Z hA => trivial) (fun Z S hA hL => trivial)⟩
  · replace h := itF hb22 h
    refine wl_cons (wl_val E21 (E21.wantedB rfl rfl rfl hb22) (rn_fieldAddr E21 rfl Try.underlying28 rfl ti3 rfl rfl) rfl fun a94 E95 => ?_)
    clear E21
    refine wl_cons (wl_val E95 (E95.wantedB rfl rfl rfl hb22) (rn_ld1 (i := 0) E95 H rfl Try.underlying3 rfl rfl rfl rfl) rfl fun a96 E97 => ?_)
    clear E95
    refine wl_cons (wl_val E97 (E97.wantedB rfl rfl rfl hb22) (rn_int E97 rfl rfl rfl rfl) rfl fun a98 E99 => ?_)
    clear E97
    refine wl_cons (wl_val E99 rfl (rn_pickF E99 rfl rfl hb22 rfl) rfl fun a100 E101 => ?_)
    clear E99
    refine wl_cons (wl_val E101 rfl (rn_move E101 rfl rfl) rfl fun a102 E103 => ?_)
    clear E101
    rcases Bool.eq_false_or_eq_true (decide (a0.Next > 1073741824)) with hb104 | hb104
    · replace h := itT hb104 h
      refine wl_cons (wl_pass E103 (E103.unwanted rfl rfl rfl hb104) rfl fun a105 E106 => ?_)
      clear E103
      refine wl_cons (wl_pass E106 (E106.unwanted rfl rfl rfl hb104) rfl fun a107 E108 => ?_)
      clear E106
      refine wl_cons (wl_pass E108 (E108.unwanted rfl rfl rfl hb104) rfl fun a109 E110 => ?_)
      clear E108
      refine wl_cons (wl_val E110 rfl (rn_pickT E110 rfl rfl hb104 rfl) rfl fun a111 E112 => ?_)
      clear E110
      refine wl_cons (wl_val E112 rfl (rn_move E112 rfl rfl) rfl fun a113 E114 => ?_)
      clear E112
      refine wl_cons (wl_pass E114 (E114.unwanted rfl rfl rfl rfl) rfl fun a115 E116 => ?_)
      clear E114
      refine wl_cons (wl_pass E116 (E116.unwanted rfl rfl rfl rfl) rfl fun a117 E118 => ?_)
      clear E116
      refine wl_cons (wl_pass E118 (E118.unwanted rfl rfl rfl rfl) rfl fun a119 E120 => ?_)
      clear E118
      refine wl_cons (wl_val E120 rfl (rn_pickT E120 rfl rfl rfl rfl) rfl fun a121 E122 => ?_)
      clear E120
      refine wl_cons (wl_val E122 rfl (rn_move E122 rfl rfl) rfl fun a123 E124 => ?_)
      clear E122
      refine wl_cons (wl_pass E124 (E124.unwanted rfl rfl rfl rfl) rfl fun a125 E126 => ?_)
      clear E124
      refine wl_cons (wl_pass E126 (E126.unwanted rfl rfl rfl rfl) rfl fun a127 E128 => ?_)
      clear E126
      refine wl_cons (wl_pass E128 (E128.unwanted rfl rfl rfl rfl) rfl fun a129 E130 => ?_)
      clear E128
      refine wl_cons (wl_pass E130 (E130.unwanted rfl rfl rfl rfl) rfl fun a131 E132 => ?_)
      clear E130
      refine wl_cons (wl_val E132 rfl (rn_pickT E132 rfl rfl rfl rfl) rfl fun a133 E134 => ?_)
      clear E132
      refine wl_cons (wl_val E134 rfl (rn_move E134 rfl rfl) rfl fun a135 E136 => ?_)
      clear E134
      refine wl_cons (wl_pass E136 (E136.unwanted rfl rfl rfl rfl) rfl fun a137 E138 => ?_)
      clear E136
      refine wl_cons (wl_pass E138 (E138.unwanted rfl rfl rfl rfl) rfl fun a139 E140 => ?_)
      clear E138
      refine wl_cons (wl_pass E140 (E140.unwanted rfl rfl rfl rfl) rfl fun a141 E142 => ?_)
      clear E140
      refine wl_cons (wl_pass E142 (E142.unwanted rfl rfl rfl rfl) rfl fun a143 E144 => ?_)
      clear E142
      refine wl_cons (wl_val E144 rfl (rn_pickT E144 rfl rfl rfl rfl) rfl fun a145 E146 => ?_)
      clear E144
      refine wl_cons (wl_val E146 rfl (rn_move E146 rfl rfl) rfl fun a147 E148 => ?_)
      clear E146
      refine wl_cons (wl_pass E148 (E148.unwanted rfl rfl rfl rfl) rfl fun a149 E150 => ?_)
      clear E148
      refine wl_cons (wl_pass E150 (E150.unwanted rfl rfl rfl rfl) rfl fun a151 E152 => ?_)
      clear E150
      refine wl_cons (wl_pass E152 (E152.unwanted rfl rfl rfl rfl) rfl fun a153 E154 => ?_)
      clear E152
      refine wl_cons (wl_pass E154 (E154.unwanted rfl rfl rfl rfl) rfl fun a155 E156 => ?_)
      clear E154
      refine wl_cons (wl_pass E156 (E156.unwanted rfl rfl rfl rfl) rfl fun a157 E158 => ?_)
      clear E156
      refine wl_cons (wl_pass E158 (E158.unwanted rfl rfl rfl rfl) rfl fun a159 E160 => ?_)
      clear E158
      refine wl_cons (wl_val E160 rfl (rn_pickT E160 rfl rfl rfl rfl) rfl fun a161 E162 => ?_)
      clear E160
      refine wl_nil ?_
      refine then_normal (hK13 _ _ ?_)
      refine wc_T E162 rfl rfl ?_
      refine wp_seq_k fun _ hK163 => ?_
      refine wp_region_lit ?_
      refine wl_cons (wl_val E162 rfl (rn_assign E162 rfl rfl) rfl fun a164 E165 => ?_)
      clear E162
      refine wl_nil ?_
      refine then_normal (hK163 _ _ ?_)
      refine wp_ret ?_
      refine then_ret (?_)
      obtain rfl := Option.some.inj h
      refine wb_ret1 E165 rfl (rv_tmp E165 rfl) ?_
      exact ⟨_, rfl, [], [], ⟨rfl, rfl, rfl⟩, H.leave (fun Z hA => trivial) (fun Z S hA hL => trivial)⟩
    · replace h := itF hb104 h
      refine wl_cons (wl_val E103 (E103.wantedB rfl rfl rfl hb104) (rn_fieldAddr E103 rfl Try.underlying28 rfl ti3 rfl rfl) rfl fun a166 E167 => ?_)
      clear E103
      refine wl_cons (wl_val E167 (E167.wantedB rfl rfl rfl hb104) (rn_ld1 (i := 0) E167 H rfl Try.underlying3 rfl rfl rfl rfl) rfl fun a168 E169 => ?_)
      clear E167
      refine wl_cons (wl_val E169 (E169.wantedB rfl rfl rfl hb104) (rn_int E169 rfl rfl rfl rfl) rfl fun a170 E171 => ?_)
      clear E169
      refine wl_cons (wl_val E171 rfl (rn_pickF E171 rfl rfl hb104 rfl) rfl fun a172 E173 => ?_)
      clear E171
      refine wl_cons (wl_val E173 rfl (rn_move E173 rfl rfl) rfl fun a174 E175 => ?_)
      clear E173
      rcases Bool.eq_false_or_eq_true (decide (a0.NextSession < 1)) with hb176 | hb176
      · replace h := itT hb176 h
        refine wl_cons (wl_pass E175 (E175.unwanted rfl rfl rfl hb176) rfl fun a177 E178 => ?_)
        clear E175
        refine wl_cons (wl_pass E178 (E178.unwanted rfl rfl rfl hb176) rfl fun a179 E180 => ?_)
        clear E178
        refine wl_cons (wl_pass E180 (E180.unwanted rfl rfl rfl hb176) rfl fun a181 E182 => ?_)
        clear E180
        refine wl_cons (wl_val E182 rfl (rn_pickT E182 rfl rfl hb176 rfl) rfl fun a183 E184 => ?_)
        clear E182
        refine wl_cons (wl_val E184 rfl (rn_move E184 rfl rfl) rfl fun a185 E186 => ?_)
        clear E184
        refine wl_cons (wl_pass E186 (E186.unwanted rfl rfl rfl rfl) rfl fun a187 E188 => ?_)
        clear E186
        refine wl_cons (wl_pass E188 (E188.unwanted rfl rfl rfl rfl) rfl fun a189 E190 => ?_)
        clear E188
        refine wl_cons (wl_pass E190 (E190.unwanted rfl rfl rfl rfl) rfl fun a191 E192 => ?_)
        clear E190
        refine wl_cons (wl_pass E192 (E192.unwanted rfl rfl rfl rfl) rfl fun a193 E194 => ?_)
        clear E192
        refine wl_cons (wl_val E194 rfl (rn_pickT E194 rfl rfl rfl rfl) rfl fun a195 E196 => ?_)
        clear E194
        refine wl_cons (wl_val E196 rfl (rn_move E196 rfl rfl) rfl fun a197 E198 => ?_)
        clear E196
        refine wl_cons (wl_pass E198 (E198.unwanted rfl rfl rfl rfl) rfl fun a199 E200 => ?_)
        clear E198
        refine wl_cons (wl_pass E200 (E200.unwanted rfl rfl rfl rfl) rfl fun a201 E202 => ?_)
        clear E200
        refine wl_cons (wl_pass E202 (E202.unwanted rfl rfl rfl rfl) rfl fun a203 E204 => ?_)
        clear E202
        refine wl_cons (wl_pass E204 (E204.unwanted rfl rfl rfl rfl) rfl fun a205 E206 => ?_)
        clear E204
        refine wl_cons (wl_val E206 rfl (rn_pickT E206 rfl rfl rfl rfl) rfl fun a207 E208 => ?_)
        clear E206
        refine wl_cons (wl_val E208 rfl (rn_move E208 rfl rfl) rfl fun a209 E210 => ?_)
        clear E208
        refine wl_cons (wl_pass E210 (E210.unwanted rfl rfl rfl rfl) rfl fun a211 E212 => ?_)
        clear E210
        refine wl_cons (wl_pass E212 (E212.unwanted rfl rfl rfl rfl) rfl fun a213 E214 => ?_)
        clear E212
        refine wl_cons (wl_pass E214 (E214.unwanted rfl rfl rfl rfl) rfl fun a215 E216 => ?_)
        clear E214
        refine wl_cons (wl_pass E216 (E216.unwanted rfl rfl rfl rfl) rfl fun a217 E218 => ?_)
        clear E216
        refine wl_cons (wl_pass E218 (E218.unwanted rfl rfl rfl rfl) rfl fun a219 E220 => ?_)
        clear E218
        refine wl_cons (wl_pass E220 (E220.unwanted rfl rfl rfl rfl) rfl fun a221 E222 => ?_)
        clear E220
        refine wl_cons (wl_val E222 rfl (rn_pickT E222 rfl rfl rfl rfl) rfl fun a223 E224 => ?_)
        clear E222
        refine wl_nil ?_
        refine then_normal (hK13 _ _ ?_)
        refine wc_T E224 rfl rfl ?_
        refine wp_seq_k fun _ hK225 => ?_
        refine wp_region_lit ?_
        refine wl_cons (wl_val E224 rfl (rn_assign E224 rfl rfl) rfl fun a226 E227 => ?_)
        clear E224
        refine wl_nil ?_
        refine then_normal (hK225 _ _ ?_)
        refine wp_ret ?_
        refine then_ret (?_)
        obtain rfl := Option.some.inj h
        refine wb_ret1 E227 rfl (rv_tmp E227 rfl) ?_
        exact ⟨_, rfl, [], [], ⟨rfl, rfl, rfl⟩, H.leave (fun Z hA => trivial) (fun Z S hA hL => trivial)⟩
      · replace h := itF hb176 h
        refine wl_cons (wl_val E175 (E175.wantedB rfl rfl rfl hb176) (rn_fieldAddr E175 rfl Try.underlying28 rfl ti3 rfl rfl) rfl fun a228 E229 => ?_)
        clear E175
        refine wl_cons (wl_val E229 (E229.wantedB rfl rfl rfl hb176) (rn_ld1 (i := 0) E229 H rfl Try.underlying3 rfl rfl rfl rfl) rfl fun a230 E231 => ?_)
        clear E229
        refine wl_cons (wl_val E231 (E231.wantedB rfl rfl rfl hb176) (rn_int E231 rfl rfl rfl rfl) rfl fun a232 E233 => ?_)
        clear E231
        refine wl_cons (wl_val E233 rfl (rn_pickF E233 rfl rfl hb176 rfl) rfl fun a234 E235 => ?_)
        clear E233
        refine wl_cons (wl_val E235 rfl (rn_move E235 rfl rfl) rfl fun a236 E237 => ?_)
        clear E235
        rcases Bool.eq_false_or_eq_true (decide (a0.NextSession > 1073741824)) with hb238 | hb238
        · replace h := itT hb238 h
          refine wl_cons (wl_pass E237 (E237.unwanted rfl rfl rfl hb238) rfl fun a239 E240 => ?_)
          clear E237
          refine wl_cons (wl_pass E240 (E240.unwanted rfl rfl rfl hb238) rfl fun a241 E242 => ?_)
          clear E240
          refine wl_cons (wl_pass E242 (E242.unwanted rfl rfl rfl hb238) rfl fun a243 E244 => ?_)
          clear E242
          refine wl_cons (wl_pass E244 (E244.unwanted rfl rfl rfl hb238) rfl fun a245 E246 => ?_)
          clear E244
          refine wl_cons (wl_val E246 rfl (rn_pickT E246 rfl rfl hb238 rfl) rfl fun a247 E248 => ?_)
          clear E246
          refine wl_cons (wl_val E248 rfl (rn_move E248 rfl rfl) rfl fun a249 E250 => ?_)
          clear E248
          refine wl_cons (wl_pass E250 (E250.unwanted rfl rfl rfl rfl) rfl fun a251 E252 => ?_)
          clear E250
          refine wl_cons (wl_pass E252 (E252.unwanted rfl rfl rfl rfl) rfl fun a253 E254 => ?_)
          clear E252
          refine wl_cons (wl_pass E254 (E254.unwanted rfl rfl rfl rfl) rfl fun a255 E256 => ?_)
          clear E254
          refine wl_cons (wl_pass E256 (E256.unwanted rfl rfl rfl rfl) rfl fun a257 E258 => ?_)
          clear E256
          refine wl_cons (wl_val E258 rfl (rn_pickT E258 rfl rfl rfl rfl) rfl fun a259 E260 => ?_)
          clear E258
          refine wl_cons (wl_val E260 rfl (rn_move E260 rfl rfl) rfl fun a261 E262 => ?_)
          clear E260
          refine wl_cons (wl_pass E262 (E262.unwanted rfl rfl rfl rfl) rfl fun a263 E264 => ?_)
          clear E262
          refine wl_cons (wl_pass E264 (E264.unwanted rfl rfl rfl rfl) rfl fun a265 E266 => ?_)
          clear E264
          refine wl_cons (wl_pass E266 (E266.unwanted rfl rfl rfl rfl) rfl fun a267 E268 => ?_)
          clear E266
          refine wl_cons (wl_pass E268 (E268.unwanted rfl rfl rfl rfl) rfl fun a269 E270 => ?_)
          clear E268
          refine wl_cons (wl_pass E270 (E270.unwanted rfl rfl rfl rfl) rfl fun a271 E272 => ?_)
          clear E270
          refine wl_cons (wl_pass E272 (E272.unwanted rfl rfl rfl rfl) rfl fun a273 E274 => ?_)
          clear E272
          refine wl_cons (wl_val E274 rfl (rn_pickT E274 rfl rfl rfl rfl) rfl fun a275 E276 => ?_)
          clear E274
          refine wl_nil ?_
          refine then_normal (hK13 _ _ ?_)
          refine wc_T E276 rfl rfl ?_
          refine wp_seq_k fun _ hK277 => ?_
          refine wp_region_lit ?_
          refine wl_cons (wl_val E276 rfl (rn_assign E276 rfl rfl) rfl fun a278 E279 => ?_)
          clear E276
          refine wl_nil ?_
          refine then_normal (hK277 _ _ ?_)
          refine wp_ret ?_
          refine then_ret (?_)
          obtain rfl := Option.some.inj h
          refine wb_ret1 E279 rfl (rv_tmp E279 rfl) ?_
          exact ⟨_, rfl, [], [], ⟨rfl, rfl, rfl⟩, H.leave (fun Z hA => trivial) (fun Z S hA hL => trivial)⟩
        · replace h := itF hb238 h
          refine wl_cons (wl_val E237 (E237.wantedB rfl rfl rfl hb238) (rn_fieldAddr E237 rfl Try.underlying28 rfl ti26 rfl rfl) rfl fun a280 E281 => ?_)
          clear E237
          refine wl_cons (wl_val E281 (E281.wantedB rfl rfl rfl hb238) (rn_ld1 (i := 0) E281 H rfl Try.underlying26 rfl rfl rfl rfl) rfl fun a282 E283 => ?_)
          clear E281
          refine wl_cons (wl_val E283 (E283.wantedB rfl rfl rfl hb238) (rn_len E283 rfl Try.underlying26 rfl) rfl fun a284 E285 => ?_)
          clear E283
          refine wl_cons (wl_val E285 (E285.wantedB rfl rfl rfl hb238) (rn_int E285 rfl rfl rfl rfl) rfl fun a286 E287 => ?_)
          clear E285
          refine wl_cons (wl_val E287 rfl (rn_pickF E287 rfl rfl hb238 rfl) rfl fun a288 E289 => ?_)
          clear E287
          refine wl_cons (wl_val E289 rfl (rn_move E289 rfl rfl) rfl fun a290 E291 => ?_)
          clear E289
          rcases Bool.eq_false_or_eq_true ((a0.Processes.length : Int) == 0) with hb292 | hb292
          · replace h := itT hb292 h
            refine wl_cons (wl_pass E291 (E291.unwanted rfl rfl rfl hb292) rfl fun a293 E294 => ?_)
            clear E291
            refine wl_cons (wl_pass E294 (E294.unwanted rfl rfl rfl hb292) rfl fun a295 E296 => ?_)
            clear E294
            refine wl_cons (wl_pass E296 (E296.unwanted rfl rfl rfl hb292) rfl fun a297 E298 => ?_)
            clear E296
            refine wl_cons (wl_pass E298 (E298.unwanted rfl rfl rfl hb292) rfl fun a299 E300 => ?_)
            clear E298
            refine wl_cons (wl_val E300 rfl (rn_pickT E300 rfl rfl hb292 rfl) rfl fun a301 E302 => ?_)
            clear E300
            refine wl_cons (wl_val E302 rfl (rn_move E302 rfl rfl) rfl fun a303 E304 => ?_)
            clear E302
            refine wl_cons (wl_pass E304 (E304.unwanted rfl rfl rfl rfl) rfl fun a305 E306 => ?_)
            clear E304
            refine wl_cons (wl_pass E306 (E306.unwanted rfl rfl rfl rfl) rfl fun a307 E308 => ?_)
            clear E306
            refine wl_cons (wl_pass E308 (E308.unwanted rfl rfl rfl rfl) rfl fun a309 E310 => ?_)
            clear E308
            refine wl_cons (wl_pass E310 (E310.unwanted rfl rfl rfl rfl) rfl fun a311 E312 => ?_)
            clear E310
            refine wl_cons (wl_pass E312 (E312.unwanted rfl rfl rfl rfl) rfl fun a313 E314 => ?_)
            clear E312
            refine wl_cons (wl_pass E314 (E314.unwanted rfl rfl rfl rfl) rfl fun a315 E316 => ?_)
            clear E314
            refine wl_cons (wl_val E316 rfl (rn_pickT E316 rfl rfl rfl rfl) rfl fun a317 E318 => ?_)
            clear E316
            refine wl_nil ?_
            refine then_normal (hK13 _ _ ?_)
            refine wc_T E318 rfl rfl ?_
            refine wp_seq_k fun _ hK319 => ?_
            refine wp_region_lit ?_
            refine wl_cons (wl_val E318 rfl (rn_assign E318 rfl rfl) rfl fun a320 E321 => ?_)
            clear E318
            refine wl_nil ?_
            refine then_normal (hK319 _ _ ?_)
            refine wp_ret ?_
            refine then_ret (?_)
            obtain rfl := Option.some.inj h
            refine wb_ret1 E321 rfl (rv_tmp E321 rfl) ?_
            exact ⟨_, rfl, [], [], ⟨rfl, rfl, rfl⟩, H.leave (fun Z hA => trivial) (fun Z S hA hL => trivial)⟩
          · replace h := itF hb292 h
            refine wl_cons (wl_val E291 (E291.wantedB rfl rfl rfl hb292) (rn_fieldAddr E291 rfl Try.underlying28 rfl ti26 rfl rfl) rfl fun a322 E323 => ?_)
            clear E291
            refine wl_cons (wl_val E323 (E323.wantedB rfl rfl rfl hb292) (rn_ld1 (i := 0) E323 H rfl Try.underlying26 rfl rfl rfl rfl) rfl fun a324 E325 => ?_)
            clear E323
            refine wl_cons (wl_val E325 (E325.wantedB rfl rfl rfl hb292) (rn_len E325 rfl Try.underlying26 rfl) rfl fun a326 E327 => ?_)
            clear E325
            refine wl_cons (wl_val E327 (E327.wantedB rfl rfl rfl hb292) (rn_int E327 rfl rfl rfl rfl) rfl fun a328 E329 => ?_)
            clear E327
            refine wl_cons (wl_val E329 rfl (rn_pickF E329 rfl rfl hb292 rfl) rfl fun a330 E331 => ?_)
            clear E329
            refine wl_cons (wl_val E331 rfl (rn_move E331 rfl rfl) rfl fun a332 E333 => ?_)
            clear E331
            rcases Bool.eq_false_or_eq_true (decide ((a0.Processes.length : Int) > 16)) with hb334 | hb334
            · replace h := itT hb334 h
              refine wl_cons (wl_pass E333 (E333.unwanted rfl rfl rfl hb334) rfl fun a335 E336 => ?_)
              clear E333
              refine wl_cons (wl_pass E336 (E336.unwanted rfl rfl rfl hb334) rfl fun a337 E338 => ?_)
              clear E336
              refine wl_cons (wl_pass E338 (E338.unwanted rfl rfl rfl hb334) rfl fun a339 E340 => ?_)
              clear E338
              refine wl_cons (wl_pass E340 (E340.unwanted rfl rfl rfl hb334) rfl fun a341 E342 => ?_)
              clear E340
              refine wl_cons (wl_pass E342 (E342.unwanted rfl rfl rfl hb334) rfl fun a343 E344 => ?_)
              clear E342
              refine wl_cons (wl_pass E344 (E344.unwanted rfl rfl rfl hb334) rfl fun a345 E346 => ?_)
              clear E344
              refine wl_cons (wl_val E346 rfl (rn_pickT E346 rfl rfl hb334 rfl) rfl fun a347 E348 => ?_)
              clear E346
              refine wl_nil ?_
              refine then_normal (hK13 _ _ ?_)
              refine wc_T E348 rfl rfl ?_
              refine wp_seq_k fun _ hK349 => ?_
              refine wp_region_lit ?_
              refine wl_cons (wl_val E348 rfl (rn_assign E348 rfl rfl) rfl fun a350 E351 => ?_)
              clear E348
              refine wl_nil ?_
              refine then_normal (hK349 _ _ ?_)
              refine wp_ret ?_
              refine then_ret (?_)
              obtain rfl := Option.some.inj h
              refine wb_ret1 E351 rfl (rv_tmp E351 rfl) ?_
              exact ⟨_, rfl, [], [], ⟨rfl, rfl, rfl⟩, H.leave (fun Z hA => trivial) (fun Z S hA hL => trivial)⟩
            · replace h := itF hb334 h
              refine wl_cons (wl_val E333 (E333.wantedB rfl rfl rfl hb334) (rn_fieldAddr E333 rfl Try.underlying28 rfl ti26 rfl rfl) rfl fun a352 E353 => ?_)
              clear E333
              refine wl_cons (wl_val E353 (E353.wantedB rfl rfl rfl hb334) (rn_ld1 (i := 0) E353 H rfl Try.underlying26 rfl rfl rfl rfl) rfl fun a354 E355 => ?_)
              clear E353
              obtain ⟨u356, hy357, h⟩ := bs h
              obtain ⟨q358, hq359, hr360⟩ := rn_idx (K := k_api_Process) (P := Try.prog) (o := ⟨some 40, .indexAddr 26 (.tmp 39) (.const (.int .i64 0)), 0, "", #[], none⟩) E355 rfl Try.underlying26 ti38 rfl rfl (H.readA (k := 0) rfl) hy357
              refine wl_cons (wl_val E355 (E355.wantedB rfl rfl rfl hb334) ((hr360 _)) rfl fun a361 E362 => ?_)
              clear E355
              obtain ⟨q363, hq364, hr365⟩ := rn_fieldAddrI (P := Try.prog) (o := ⟨some 41, .fieldAddr 38 (.tmp 40) 0, 0, "", #[], none⟩) E362 rfl Try.underlying38 rfl ti3 rfl hq359 (off' := 0) rfl
              refine wl_cons (wl_val E362 (E362.wantedB rfl rfl rfl hb334) ((hr365 _)) rfl fun a366 E367 => ?_)
              clear E362
              obtain ⟨⟨p369, c370⟩, H', hc368⟩ := St.openA k_api_Process_opens H (k := 0) rfl hy357
              replace H := H'; clear H'
              refine wl_cons (wl_val E367 (E367.wantedB rfl rfl rfl hb334) (rn_loadI1 E367 rfl Try.underlying3 rfl rfl hq364 hc368 rfl) rfl fun a371 E372 => ?_)
              clear E367
              refine wl_cons (wl_val E372 (E372.wantedB rfl rfl rfl hb334) (rn_int E372 rfl rfl rfl rfl) rfl fun a373 E374 => ?_)
              clear E372
              refine wl_cons (wl_val E374 rfl (rn_pickF E374 rfl rfl hb334 rfl) rfl fun a375 E376 => ?_)
              clear E374
              refine wl_nil ?_
              refine then_normal (hK13 _ _ ?_)
              rcases Bool.eq_false_or_eq_true (u356.PID != 1) with hb377 | hb377
              · replace h := itT hb377 h
                refine wc_T E376 rfl hb377 ?_
                refine wp_seq_k fun _ hK378 => ?_
                refine wp_region_lit ?_
                refine wl_cons (wl_val E376 rfl (rn_assign E376 rfl rfl) rfl fun a379 E380 => ?_)
                clear E376
                refine wl_nil ?_
                refine then_normal (hK378 _ _ ?_)
                refine wp_ret ?_
                refine then_ret (?_)
                obtain rfl := Option.some.inj h
                refine wb_ret1 E380 rfl (rv_tmp E380 rfl) ?_
                exact ⟨_, rfl, [], [], ⟨rfl, rfl, rfl⟩, H.leave (fun Z hA => trivial) (fun Z S hA hL => trivial)⟩
              · replace h := itF hb377 h
                refine wc_F E376 rfl hb377 ?_
                refine wp_skip ?_
                refine then_normal (hK12 _ _ ?_)
                refine wp_seq_k fun _ hK381 => ?_
                refine wp_seq_k fun _ hK382 => ?_
                refine wp_region_lit ?_
                refine wl_cons (wl_val E376 rfl (rn_fieldAddr E376 rfl Try.underlying28 rfl ti26 rfl rfl) rfl fun a383 E384 => ?_)
                clear E376
                refine wl_cons (wl_val E384 rfl (rn_ld1 (i := 0) E384 H rfl Try.underlying26 rfl rfl rfl rfl) rfl fun a385 E386 => ?_)
                clear E384
                refine wl_cons (wl_val E386 rfl (rn_len E386 rfl Try.underlying26 rfl) rfl fun a387 E388 => ?_)
                clear E386
                refine wl_cons (wl_val E388 rfl (rn_move E388 rfl rfl) rfl fun a389 E390 => ?_)
                clear E388
                refine wl_nil ?_
                refine then_normal (hK382 _ _ ?_)
                refine wp_block ?_
                obtain ⟨o2206, ho2207, h⟩ := bs h
                refine wc_loop (fun k_ a_ w_ => ∃ (x2205 : Int), Env 141 a_ [(0, .agg #[.int .i64 a0.Next, .int .i64 a0.NextSession, .slice p3 a0.Processes.length c4]), (1, .pointer (some ⟨g6, 0, none⟩)), (2, .bool false), (7, .pointer (some ⟨g6, 0, none⟩)), (8, .int .i64 a0.Next), (9, .bool (decide (a0.Next < 1))), (10, .bool (decide (a0.Next < 1))), (11, .pointer (some ⟨g6, 0, none⟩)), (12, .int .i64 a0.Next), (13, .bool (decide (a0.Next > 1073741824))), (14, .bool (decide (a0.Next > 1073741824))), (15, .bool (decide (a0.Next > 1073741824))), (16, .pointer (some ⟨g6, 1, none⟩)), (17, .int .i64 a0.NextSession), (18, .bool (decide (a0.NextSession < 1))), (19, .bool (decide (a0.NextSession < 1))), (20, .bool (decide (a0.NextSession < 1))), (21, .pointer (some ⟨g6, 1, none⟩)), (22, .int .i64 a0.NextSession), (23, .bool (decide (a0.NextSession > 1073741824))), (24, .bool (decide (a0.NextSession > 1073741824))), (25, .bool (decide (a0.NextSession > 1073741824))), (26, .pointer (some ⟨g6, 2, none⟩)), (27, .slice p3 a0.Processes.length c4), (28, .int .i64 (a0.Processes.length : Int)), (29, .bool ((a0.Processes.length : Int) == 0)), (30, .bool ((a0.Processes.length : Int) == 0)), (31, .bool ((a0.Processes.length : Int) == 0)), (32, .pointer (some ⟨g6, 2, none⟩)), (33, .slice p3 a0.Processes.length c4), (34, .int .i64 (a0.Processes.length : Int)), (35, .bool (decide ((a0.Processes.length : Int) > 16))), (36, .bool (decide ((a0.Processes.length : Int) > 16))), (37, .bool (decide ((a0.Processes.length : Int) > 16))), (38, .pointer (some ⟨g6, 2, none⟩)), (39, .slice p3 a0.Processes.length c4), (40, .pointer (some q358)), (41, .pointer (some q363)), (42, .int .i64 u356.PID), (43, .bool (u356.PID != 1)), (44, .bool (u356.PID != 1)), (45, .pointer (some ⟨g6, 2, none⟩)), (46, .slice p3 a0.Processes.length c4), (47, .int .i64 (a0.Processes.length : Int)), (48, .int .i64 x2205)] ∧ St w Nil Z w_ [vw (kSlice 38 k_api_Process) a0.Processes [.slice p3 a0.Processes.length c4], vw (kSlice 81 k_api_Descriptor) u356.Open [.slice p369 u356.Open.length c370]] [[blk g6 [.int .i64 a0.Next, .int .i64 a0.NextSession, .slice p3 a0.Processes.length c4] 28]] ∧ f_process_Valid_l1 a0 k_ x2205 = some o2206) (((((a0.Processes.length : Int) : Int) - (0)).toNat + 1)) ?_ ?_ ?_
                · exact ⟨0, E390.pick ⟨rfl, rfl, rfl, rfl, rfl, rfl, rfl, rfl, rfl, rfl, rfl, rfl, rfl, rfl, rfl, rfl, rfl, rfl, rfl, rfl, rfl, rfl, rfl, rfl, rfl, rfl, rfl, rfl, rfl, rfl, rfl, rfl, rfl, rfl, rfl, rfl, rfl, rfl, rfl, rfl, rfl, rfl, rfl, rfl, rfl, trivial⟩, H, ho2207⟩
                · rintro _ _ ⟨_, _, _, h_⟩
                  rw [f_process_Valid_l1] at h_; cases h_
                · rintro k2208 a2209 w2210 ⟨x2205, E2211, H', h2212⟩
                  rw [f_process_Valid_l1] at h2212
                  clear H; have H := H'; clear H'
                  refine wp_seq_k fun _ hK2213 => ?_
                  refine wp_region_lit ?_
                  refine wl_cons (wl_val E2211 rfl (rn_int E2211 rfl rfl rfl rfl) rfl fun a2214 E2215 => ?_)
                  clear E2211
                  refine wl_nil ?_
                  refine then_normal (hK2213 _ _ ?_)
                  refine wp_seq_k fun _ hK2216 => ?_
                  rcases Bool.eq_false_or_eq_true (decide (x2205 < (a0.Processes.length : Int))) with hb2217 | hb2217
                  · replace h2212 := itT hb2217 h2212
                    refine wc_T E2215 rfl hb2217 ?_
                    refine wp_skip ?_
                    refine then_normal (hK2216 _ _ ?_)
                    refine wp_seq_k fun _ hK2218 => ?_
                    refine wp_block ?_
                    refine wp_seq_k fun _ hK2219 => ?_
                    refine wp_region_lit ?_
                    refine wl_cons (wl_val E2215 rfl (rn_move E2215 rfl rfl) rfl fun a2220 E2221 => ?_)
                    clear E2215
                    obtain ⟨u2222, hy2223, h2212⟩ := bs h2212
                    obtain ⟨q2224, hq2225, hr2226⟩ := rn_idx (K := k_api_Process) (P := Try.prog) (o := ⟨some 51, .indexAddr 26 (.tmp 46) (.tmp 48), 0, "", #[], none⟩) E2221 rfl Try.underlying26 ti38 rfl rfl (H.readA (k := 0) rfl) hy2223
                    refine wl_cons (wl_val E2221 rfl ((hr2226 _)) rfl fun a2227 E2228 => ?_)
                    clear E2221
                    obtain ⟨⟨p2230, c2231⟩, H', hc2229⟩ := St.openA k_api_Process_opens H (k := 0) rfl hy2223
                    replace H := H'; clear H'
                    refine wl_cons (wl_val E2228 rfl (rn_loadIN (vs := [.int .i64 u2222.PID, .int .i64 u2222.PPID, .int .i64 u2222.UID, .int .i64 u2222.EUID, .int .i64 u2222.GID, .int .i64 u2222.EGID, .int .i64 u2222.AUID, .int .i64 u2222.Session, .int .i64 u2222.Cwd.Dev, .int .i64 u2222.Cwd.Ino, .string u2222.Comm, .string u2222.Exe, .slice p2230 u2222.Open.length c2231, .bool u2222.Audited]) E2228 rfl Try.underlying38 rfl ti38 rfl hq2225 hc2229 rfl rfl) rfl fun a2232 E2233 => ?_)
                    clear E2228
                    refine wl_cons (wl_alloc (cs := [.int .i64 0, .int .i64 0, .int .i64 0, .int .i64 0, .int .i64 0, .int .i64 0, .int .i64 0, .int .i64 0, .int .i64 0, .int .i64 0, .string (⟨#[]⟩ : ByteArray), .string (⟨#[]⟩ : ByteArray), .slice none 0 0, .bool false]) E2233 H rfl ti38 rfl rfl fun g2234 w2235 a2236 E2237 H' => ?_)
                    clear H E2233; have H := H'; clear H'
                    replace H : St w Nil Z w2235 [vw (kSlice 38 k_api_Process) a0.Processes [.slice p3 a0.Processes.length c4], vw (kSlice 81 k_api_Descriptor) u356.Open [.slice p369 u356.Open.length c370], vw (kSlice 81 k_api_Descriptor) u2222.Open [.slice p2230 u2222.Open.length c2231]] [[blk g6 [.int .i64 a0.Next, .int .i64 a0.NextSession, .slice p3 a0.Processes.length c4] 28], [blk g2234 [.int .i64 0, .int .i64 0, .int .i64 0, .int .i64 0, .int .i64 0, .int .i64 0, .int .i64 0, .int .i64 0, .int .i64 0, .int .i64 0, .string (⟨#[]⟩ : ByteArray), .string (⟨#[]⟩ : ByteArray), .slice none 0 0, .bool false] 38]] := H
                    refine wl_cons (wl_val E2237 rfl (rn_assign E2237 rfl rfl) rfl fun a2238 E2239 => ?_)
                    clear E2237
                    refine wl_cons (wl_store (i := 1) (vs := [.int .i64 u2222.PID, .int .i64 u2222.PPID, .int .i64 u2222.UID, .int .i64 u2222.EUID, .int .i64 u2222.GID, .int .i64 u2222.EGID, .int .i64 u2222.AUID, .int .i64 u2222.Session, .int .i64 u2222.Cwd.Dev, .int .i64 u2222.Cwd.Ino, .string u2222.Comm, .string u2222.Exe, .slice p2230 u2222.Open.length c2231, .bool u2222.Audited]) (cs' := [.int .i64 u2222.PID, .int .i64 u2222.PPID, .int .i64 u2222.UID, .int .i64 u2222.EUID, .int .i64 u2222.GID, .int .i64 u2222.EGID, .int .i64 u2222.AUID, .int .i64 u2222.Session, .int .i64 u2222.Cwd.Dev, .int .i64 u2222.Cwd.Ino, .string u2222.Comm, .string u2222.Exe, .slice p2230 u2222.Open.length c2231, .bool u2222.Audited]) E2239 H rfl rfl rfl rfl ti38 rfl rfl rfl rfl rfl rfl fun w2242 a2240 E2241 H' => ?_)
                    clear H E2239; have H := H'; clear H'
                    refine wl_nil ?_
                    refine then_normal (hK2219 _ _ ?_)
                    refine wp_seq_k fun _ hK2243 => ?_
                    refine wa_begin mixed (fun w_ => (∃ Z S, (blk g2234 [.int .i64 u2222.PID, .int .i64 u2222.PPID, .int .i64 u2222.UID, .int .i64 u2222.EUID, .int .i64 u2222.GID, .int .i64 u2222.EGID, .int .i64 u2222.AUID, .int .i64 u2222.Session, .int .i64 u2222.Cwd.Dev, .int .i64 u2222.Cwd.Ino, .string u2222.Comm, .string u2222.Exe, .slice p2230 u2222.Open.length c2231, .bool u2222.Audited] 38).holds w_ Z S) ∧ True) [6] [3, 7] H rfl fun w2244 H' => ?_
                    clear H; have H := H'; clear H'
                    refine wa_take (i := 0) E2241 rfl (by kernel_rfl) (panic_then (panic_block (panic_then (panic_then (panic_block (panic_then panic_body)))))) rfl (fun w_ => rn_fieldAddr E2241 rfl Try.underlying28 rfl ti26 rfl rfl) rfl fun a2245 E2246 => ?_
                    clear E2241
                    refine wa_takeU (i := 1) E2246 rfl (by kernel_rfl) (by kernel_rfl) (panic_then (panic_block (panic_then (panic_then (panic_block (panic_then panic_body)))))) rfl (rn_ld1 (i := 0) E2246 H rfl Try.underlying26 rfl rfl rfl rfl) rfl fun a2247 E2248 => ?_
                    clear E2246
                    refine wa_take (i := 2) E2248 rfl (by kernel_rfl) (panic_then (panic_block (panic_then (panic_then (panic_block (panic_then panic_body)))))) rfl (fun w_ => rn_move E2248 rfl rfl) rfl fun a2249 E2250 => ?_
                    clear E2248
                    refine wa_take (i := 5) E2250 rfl (by kernel_rfl) (panic_then (panic_block (panic_then (panic_then (panic_block (panic_then panic_body)))))) rfl (fun w_ => rn_fieldAddr E2250 rfl Try.underlying38 rfl ti3 rfl rfl) rfl fun a2251 E2252 => ?_
                    clear E2250
                    refine wa_takeS (i := 6) E2252 rfl (by kernel_rfl) (by kernel_rfl) (panic_then (panic_block (panic_then (panic_then (panic_block (panic_then panic_body)))))) rfl (fun w_ hS => rn_load1 E2252 rfl Try.underlying3 rfl rfl hS.1 rfl) ⟨H.get (i := 1) (k := 0) rfl rfl, trivial⟩ rfl fun a2253 E2254 => ?_
                    clear E2252
                    obtain ⟨hc2255, h2212⟩ := ck_out h2212
                    refine wa_only (i := 3) rfl (by kernel_rfl) (by kernel_rfl) (wl_cutA (q := 0) (i := 0) (j := x2205) E2254 H rfl Try.underlying26 ti38 rfl rfl (.inl ⟨rfl, rfl⟩) (.inr ⟨_, _, rfl, rfl⟩) hc2255 rfl fun p2256 c2257 a2258 E2259 H' => ?_)
                    clear H E2254; have H := H'; clear H'
                    refine ⟨fun _ => ⟨H.get (i := 1) (k := 0) rfl rfl, trivial⟩, ?_⟩
                    refine wa_take (i := 4) E2259 rfl (by kernel_rfl) (panic_then (panic_block (panic_then (panic_then (panic_block (panic_then panic_body)))))) rfl (fun w_ => rn_build (ps := [(2, .slice p2256 ((cut a0.Processes 0 x2205).length) c2257)]) (cs := [.int .i64 0, .int .i64 0, .slice p2256 ((cut a0.Processes 0 x2205).length) c2257]) E2259 rfl rfl (by kernel_rfl)) rfl fun a2260 E2261 => ?_
                    clear E2259
                    obtain ⟨y2262, hy2263, h2212⟩ := bs h2212
                    refine wa_only (i := 7) rfl (by kernel_rfl) (by kernel_rfl) (wl_fun E2261 H rfl (rn_call (args := [.agg #[.int .i64 0, .int .i64 0, .slice p2256 ((cut a0.Processes 0 x2205).length) c2257], .int .i64 u2222.PPID]) E2261 rfl rfl rfl Try.func37 nm37 rfl) rfl (by exact fun Z hA => ⟨(argHolds_get hA (k := 3) rfl), trivial⟩) (C37 (⟨0, 0, (cut a0.Processes 0 x2205)⟩ : api_Table) u2222.PPID p2256 c2257 _ _ hy2263) ?_)
                    rintro v_ A_ N_ w2266 a2264 ⟨rfl, rfl, rfl⟩ E2265 H'
                    replace H := H'; clear H' E2261
                    replace H : St w Nil Z w2266 [vw (kSlice 38 k_api_Process) a0.Processes [.slice p3 a0.Processes.length c4], vw (kSlice 81 k_api_Descriptor) u356.Open [.slice p369 u356.Open.length c370], vw (kSlice 81 k_api_Descriptor) u2222.Open [.slice p2230 u2222.Open.length c2231], vw (kSlice 38 k_api_Process) (cut a0.Processes 0 x2205) [.slice p2256 ((cut a0.Processes 0 x2205).length) c2257]] [[blk g6 [.int .i64 a0.Next, .int .i64 a0.NextSession, .slice p3 a0.Processes.length c4] 28], [blk g2234 [.int .i64 u2222.PID, .int .i64 u2222.PPID, .int .i64 u2222.UID, .int .i64 u2222.EUID, .int .i64 u2222.GID, .int .i64 u2222.EGID, .int .i64 u2222.AUID, .int .i64 u2222.Session, .int .i64 u2222.Cwd.Dev, .int .i64 u2222.Cwd.Ino, .string u2222.Comm, .string u2222.Exe, .slice p2230 u2222.Open.length c2231, .bool u2222.Audited] 38]] := H
                    refine ⟨fun h_ => (needs_no (by kernel_rfl) h_).elim, ?_⟩
                    refine wa_take (i := 8) E2265 rfl (by kernel_rfl) (panic_then (panic_block (panic_then (panic_then (panic_block (panic_then panic_body)))))) rfl (fun w_ => rn_move E2265 rfl rfl) rfl fun a2267 E2268 => ?_
                    clear E2265
                    refine wa_take (i := 9) E2268 rfl (by kernel_rfl) (panic_then (panic_block (panic_then (panic_then (panic_block (panic_then panic_body)))))) rfl (fun w_ => rn_extract E2268 rfl rfl rfl) rfl fun a2269 E2270 => ?_
                    clear E2268
                    refine wa_take (i := 10) E2270 rfl (by kernel_rfl) (panic_then (panic_block (panic_then (panic_then (panic_block (panic_then panic_body)))))) rfl (fun w_ => rn_extract E2270 rfl rfl rfl) rfl fun a2271 E2272 => ?_
                    clear E2270
                    refine wa_take (i := 11) E2272 rfl (by kernel_rfl) (panic_then (panic_block (panic_then (panic_then (panic_block (panic_then panic_body)))))) rfl (fun w_ => rn_assign E2272 rfl rfl) rfl fun a2273 E2274 => ?_
                    clear E2272
                    refine wa_take (i := 12) E2274 rfl (by kernel_rfl) (panic_then (panic_block (panic_then (panic_then (panic_block (panic_then panic_body)))))) rfl (fun w_ => rn_assign E2274 rfl rfl) rfl fun a2275 E2276 => ?_
                    clear E2274
                    refine wa_done (by kernel_rfl) ?_
                    refine then_normal (hK2243 _ _ ?_)
                    refine wp_block ?_
                    refine wp_seq_k fun _ hK2277 => ?_
                    refine wa_begin mixed (fun w_ => True) [] [] H rfl fun w2278 H' => ?_
                    clear H; have H := H'; clear H'
                    refine wa_take (i := 0) E2276 rfl (by kernel_rfl) (panic_then (panic_block (panic_block (panic_then (panic_then (panic_block (panic_then panic_body))))))) rfl (fun w_ => rn_move E2276 rfl rfl) rfl fun a2279 E2280 => ?_
                    clear E2276
                    refine wa_take (i := 1) E2280 rfl (by kernel_rfl) (panic_then (panic_block (panic_block (panic_then (panic_then (panic_block (panic_then panic_body))))))) rfl (fun w_ => rn_int E2280 rfl rfl rfl rfl) rfl fun a2281 E2282 => ?_
                    clear E2280
                    refine wa_take (i := 2) E2282 rfl (by kernel_rfl) (panic_then (panic_block (panic_block (panic_then (panic_then (panic_block (panic_then panic_body))))))) rfl (fun w_ => rn_move E2282 rfl rfl) rfl fun a2283 E2284 => ?_
                    clear E2282
                    rcases Bool.eq_false_or_eq_true (decide (x2205 > 0)) with hb2285 | hb2285
                    · replace h2212 := itT hb2285 h2212
                      refine wa_take (i := 3) E2284 rfl (by kernel_rfl) (panic_then (panic_block (panic_block (panic_then (panic_then (panic_block (panic_then panic_body))))))) (E2284.wantedB rfl rfl rfl hb2285) (fun w_ => rn_fieldAddr E2284 rfl Try.underlying28 rfl ti26 rfl rfl) rfl fun a2286 E2287 => ?_
                      clear E2284
                      refine wa_takeU (i := 4) E2287 rfl (by kernel_rfl) (by kernel_rfl) (panic_then (panic_block (panic_block (panic_then (panic_then (panic_block (panic_then panic_body))))))) (E2287.wantedB rfl rfl rfl hb2285) (rn_ld1 (i := 0) E2287 H rfl Try.underlying26 rfl rfl rfl rfl) rfl fun a2288 E2289 => ?_
                      clear E2287
                      refine wa_take (i := 5) E2289 rfl (by kernel_rfl) (panic_then (panic_block (panic_block (panic_then (panic_then (panic_block (panic_then panic_body))))))) (E2289.wantedB rfl rfl rfl hb2285) (fun w_ => rn_move E2289 rfl rfl) rfl fun a2290 E2291 => ?_
                      clear E2289
                      refine wa_take (i := 6) E2291 rfl (by kernel_rfl) (panic_then (panic_block (panic_block (panic_then (panic_then (panic_block (panic_then panic_body))))))) (E2291.wantedB rfl rfl rfl hb2285) (fun w_ => rn_int E2291 rfl rfl rfl rfl) rfl fun a2292 E2293 => ?_
                      clear E2291
                      obtain ⟨u2294, hy2295, h2212⟩ := bs h2212
                      obtain ⟨q2296, hq2297, hr2298⟩ := rn_idx (K := k_api_Process) (P := Try.prog) (o := ⟨some 72, .indexAddr 26 (.tmp 69) (.tmp 71), 0, "", #[], none⟩) E2293 rfl Try.underlying26 ti38 rfl rfl (H.readA (k := 0) rfl) hy2295
                      refine wa_take (i := 7) E2293 rfl (by kernel_rfl) (panic_then (panic_block (panic_block (panic_then (panic_then (panic_block (panic_then panic_body))))))) (E2293.wantedB rfl rfl rfl hb2285) (fun w_ => (hr2298 _)) rfl fun a2299 E2300 => ?_
                      clear E2293
                      obtain ⟨q2301, hq2302, hr2303⟩ := rn_fieldAddrI (P := Try.prog) (o := ⟨some 73, .fieldAddr 38 (.tmp 72) 0, 0, "", #[], none⟩) E2300 rfl Try.underlying38 rfl ti3 rfl hq2297 (off' := 0) rfl
                      refine wa_take (i := 8) E2300 rfl (by kernel_rfl) (panic_then (panic_block (panic_block (panic_then (panic_then (panic_block (panic_then panic_body))))))) (E2300.wantedB rfl rfl rfl hb2285) (fun w_ => (hr2303 _)) rfl fun a2304 E2305 => ?_
                      clear E2300
                      obtain ⟨⟨p2307, c2308⟩, H', hc2306⟩ := St.openA k_api_Process_opens H (k := 0) rfl hy2295
                      replace H := H'; clear H'
                      refine wa_takeU (i := 9) E2305 rfl (by kernel_rfl) (by kernel_rfl) (panic_then (panic_block (panic_block (panic_then (panic_then (panic_block (panic_then panic_body))))))) (E2305.wantedB rfl rfl rfl hb2285) (rn_loadI1 E2305 rfl Try.underlying3 rfl rfl hq2302 hc2306 rfl) rfl fun a2309 E2310 => ?_
                      clear E2305
                      refine wa_take (i := 10) E2310 rfl (by kernel_rfl) (panic_then (panic_block (panic_block (panic_then (panic_then (panic_block (panic_then panic_body))))))) (E2310.wantedB rfl rfl rfl hb2285) (fun w_ => rn_fieldAddr E2310 rfl Try.underlying38 rfl ti3 rfl rfl) rfl fun a2311 E2312 => ?_
                      clear E2310
                      refine wa_takeU (i := 11) E2312 rfl (by kernel_rfl) (by kernel_rfl) (panic_then (panic_block (panic_block (panic_then (panic_then (panic_block (panic_then panic_body))))))) (E2312.wantedB rfl rfl rfl hb2285) (rn_ld1 (i := 1) E2312 H rfl Try.underlying3 rfl rfl rfl rfl) rfl fun a2313 E2314 => ?_
                      clear E2312
                      refine wa_take (i := 12) E2314 rfl (by kernel_rfl) (panic_then (panic_block (panic_block (panic_then (panic_then (panic_block (panic_then panic_body))))))) (E2314.wantedB rfl rfl rfl hb2285) (fun w_ => rn_int E2314 rfl rfl rfl rfl) rfl fun a2315 E2316 => ?_
                      clear E2314
                      refine wa_take (i := 13) E2316 rfl (by kernel_rfl) (panic_then (panic_block (panic_block (panic_then (panic_then (panic_block (panic_then panic_body))))))) (E2316.wantedB rfl rfl rfl hb2285) (fun w_ => rn_move E2316 rfl rfl) rfl fun a2317 E2318 => ?_
                      clear E2316
                      rcases Bool.eq_false_or_eq_true (decide (u2294.PID ≥ u2222.PID)) with hb2319 | hb2319
                      · replace h2212 := itT hb2319 h2212
                        refine wa_pass (i := 14) E2318 rfl (by kernel_rfl) (panic_then (panic_block (panic_block (panic_then (panic_then (panic_block (panic_then panic_body))))))) (E2318.unwanted rfl rfl rfl hb2319) rfl fun a2320 E2321 => ?_
                        clear E2318
                        refine wa_pass (i := 15) E2321 rfl (by kernel_rfl) (panic_then (panic_block (panic_block (panic_then (panic_then (panic_block (panic_then panic_body))))))) (E2321.unwanted rfl rfl rfl hb2319) rfl fun a2322 E2323 => ?_
                        clear E2321
                        refine wa_take (i := 16) E2323 rfl (by kernel_rfl) (panic_then (panic_block (panic_block (panic_then (panic_then (panic_block (panic_then panic_body))))))) (E2323.wantedB rfl rfl rfl hb2285) (fun w_ => rn_pickT E2323 rfl rfl hb2319 rfl) rfl fun a2324 E2325 => ?_
                        clear E2323
                        refine wa_take (i := 17) E2325 rfl (by kernel_rfl) (panic_then (panic_block (panic_block (panic_then (panic_then (panic_block (panic_then panic_body))))))) rfl (fun w_ => rn_pickT E2325 rfl rfl hb2285 rfl) rfl fun a2326 E2327 => ?_
                        clear E2325
                        refine wa_take (i := 18) E2327 rfl (by kernel_rfl) (panic_then (panic_block (panic_block (panic_then (panic_then (panic_block (panic_then panic_body))))))) rfl (fun w_ => rn_move E2327 rfl rfl) rfl fun a2328 E2329 => ?_
                        clear E2327
                        refine wa_pass (i := 19) E2329 rfl (by kernel_rfl) (panic_then (panic_block (panic_block (panic_then (panic_then (panic_block (panic_then panic_body))))))) (E2329.unwanted rfl rfl rfl rfl) rfl fun a2330 E2331 => ?_
                        clear E2329
                        refine wa_pass (i := 20) E2331 rfl (by kernel_rfl) (panic_then (panic_block (panic_block (panic_then (panic_then (panic_block (panic_then panic_body))))))) (E2331.unwanted rfl rfl rfl rfl) rfl fun a2332 E2333 => ?_
                        clear E2331
                        refine wa_pass (i := 21) E2333 rfl (by kernel_rfl) (panic_then (panic_block (panic_block (panic_then (panic_then (panic_block (panic_then panic_body))))))) (E2333.unwanted rfl rfl rfl rfl) rfl fun a2334 E2335 => ?_
                        clear E2333
                        refine wa_pass (i := 22) E2335 rfl (by kernel_rfl) (panic_then (panic_block (panic_block (panic_then (panic_then (panic_block (panic_then panic_body))))))) (E2335.unwanted0 rfl rfl rfl) rfl fun a2336 E2337 => ?_
                        clear E2335
                        refine wa_pass (i := 23) E2337 rfl (by kernel_rfl) (panic_then (panic_block (panic_block (panic_then (panic_then (panic_block (panic_then panic_body))))))) (E2337.unwanted0 rfl rfl rfl) rfl fun a2338 E2339 => ?_
                        clear E2337
                        refine wa_pass (i := 24) E2339 rfl (by kernel_rfl) (panic_then (panic_block (panic_block (panic_then (panic_then (panic_block (panic_then panic_body))))))) (E2339.unwanted0 rfl rfl rfl) rfl fun a2340 E2341 => ?_
                        clear E2339
                        refine wa_pass (i := 25) E2341 rfl (by kernel_rfl) (panic_then (panic_block (panic_block (panic_then (panic_then (panic_block (panic_then panic_body))))))) (E2341.unwanted rfl rfl rfl rfl) rfl fun a2342 E2343 => ?_
                        clear E2341
                        refine wa_take (i := 26) E2343 rfl (by kernel_rfl) (panic_then (panic_block (panic_block (panic_then (panic_then (panic_block (panic_then panic_body))))))) rfl (fun w_ => rn_pickT E2343 rfl rfl rfl rfl) rfl fun a2344 E2345 => ?_
                        clear E2343
                        refine wa_take (i := 27) E2345 rfl (by kernel_rfl) (panic_then (panic_block (panic_block (panic_then (panic_then (panic_block (panic_then panic_body))))))) rfl (fun w_ => rn_assign E2345 rfl rfl) rfl fun a2346 E2347 => ?_
                        clear E2345
                        refine wa_done (by kernel_rfl) ?_
                        refine then_normal (hK2277 _ _ ?_)
                        refine wc_T E2347 rfl rfl ?_
                        refine wp_seq_k fun _ hK2348 => ?_
                        refine wp_region_lit ?_
                        refine wl_cons (wl_val E2347 rfl (rn_assign E2347 rfl rfl) rfl fun a2349 E2350 => ?_)
                        clear E2347
                        refine wl_nil ?_
                        refine then_normal (hK2348 _ _ ?_)
                        refine wp_ret ?_
                        obtain rfl := Option.some.inj h2212
                        try dsimp only at h
                        refine block_ret (block_ret (then_ret (then_ret (block_ret (then_ret (?_))))))
                        obtain rfl := Option.some.inj h
                        refine wb_ret1 E2350 rfl (rv_tmp E2350 rfl) ?_
                        exact ⟨_, rfl, [], [], ⟨rfl, rfl, rfl⟩, H.leave (fun Z hA => trivial) (fun Z S hA hL => trivial)⟩
                      · replace h2212 := itF hb2319 h2212
                        refine wa_take (i := 14) E2318 rfl (by kernel_rfl) (panic_then (panic_block (panic_block (panic_then (panic_then (panic_block (panic_then panic_body))))))) (E2318.wantedB rfl rfl rfl hb2319) (fun w_ => rn_move E2318 rfl rfl) rfl fun a2351 E2352 => ?_
                        clear E2318
                        refine wa_take (i := 15) E2352 rfl (by kernel_rfl) (panic_then (panic_block (panic_block (panic_then (panic_then (panic_block (panic_then panic_body))))))) (E2352.wantedB rfl rfl rfl hb2319) (fun w_ => rn_not E2352 rfl rfl) rfl fun a2353 E2354 => ?_
                        clear E2352
                        refine wa_take (i := 16) E2354 rfl (by kernel_rfl) (panic_then (panic_block (panic_block (panic_then (panic_then (panic_block (panic_then panic_body))))))) (E2354.wantedB rfl rfl rfl hb2285) (fun w_ => rn_pickF E2354 rfl rfl hb2319 rfl) rfl fun a2355 E2356 => ?_
                        clear E2354
                        refine wa_take (i := 17) E2356 rfl (by kernel_rfl) (panic_then (panic_block (panic_block (panic_then (panic_then (panic_block (panic_then panic_body))))))) rfl (fun w_ => rn_pickT E2356 rfl rfl hb2285 rfl) rfl fun a2357 E2358 => ?_
                        clear E2356
                        refine wa_take (i := 18) E2358 rfl (by kernel_rfl) (panic_then (panic_block (panic_block (panic_then (panic_then (panic_block (panic_then panic_body))))))) rfl (fun w_ => rn_move E2358 rfl rfl) rfl fun a2359 E2360 => ?_
                        clear E2358
                        rcases Bool.eq_false_or_eq_true y2262.2 with hb2361 | hb2361
                        · replace h2212 := itT hb2361 h2212
                          refine wa_take (i := 19) E2360 rfl (by kernel_rfl) (panic_then (panic_block (panic_block (panic_then (panic_then (panic_block (panic_then panic_body))))))) (E2360.wantedB rfl rfl rfl (congrArg Bool.not hb2361)) (fun w_ => rn_move E2360 rfl rfl) rfl fun a2362 E2363 => ?_
                          clear E2360
                          refine wa_take (i := 20) E2363 rfl (by kernel_rfl) (panic_then (panic_block (panic_block (panic_then (panic_then (panic_block (panic_then panic_body))))))) (E2363.wantedB rfl rfl rfl (congrArg Bool.not hb2361)) (fun w_ => rn_int E2363 rfl rfl rfl rfl) rfl fun a2364 E2365 => ?_
                          clear E2363
                          refine wa_take (i := 21) E2365 rfl (by kernel_rfl) (panic_then (panic_block (panic_block (panic_then (panic_then (panic_block (panic_then panic_body))))))) (E2365.wantedB rfl rfl rfl (congrArg Bool.not hb2361)) (fun w_ => rn_move E2365 rfl rfl) rfl fun a2366 E2367 => ?_
                          clear E2365
                          rcases Bool.eq_false_or_eq_true (x2205 == 0) with hb2368 | hb2368
                          · replace h2212 := itT hb2368 h2212
                            refine wa_take (i := 22) E2367 rfl (by kernel_rfl) (panic_then (panic_block (panic_block (panic_then (panic_then (panic_block (panic_then panic_body))))))) (E2367.wantedB rfl rfl rfl hb2368) (fun w_ => rn_fieldAddr E2367 rfl Try.underlying38 rfl ti3 rfl rfl) rfl fun a2369 E2370 => ?_
                            clear E2367
                            refine wa_takeU (i := 23) E2370 rfl (by kernel_rfl) (by kernel_rfl) (panic_then (panic_block (panic_block (panic_then (panic_then (panic_block (panic_then panic_body))))))) (E2370.wantedB rfl rfl rfl hb2368) (rn_ld1 (i := 1) E2370 H rfl Try.underlying3 rfl rfl rfl rfl) rfl fun a2371 E2372 => ?_
                            clear E2370
                            refine wa_take (i := 24) E2372 rfl (by kernel_rfl) (panic_then (panic_block (panic_block (panic_then (panic_then (panic_block (panic_then panic_body))))))) (E2372.wantedB rfl rfl rfl hb2368) (fun w_ => rn_int E2372 rfl rfl rfl rfl) rfl fun a2373 E2374 => ?_
                            clear E2372
                            refine wa_take (i := 25) E2374 rfl (by kernel_rfl) (panic_then (panic_block (panic_block (panic_then (panic_then (panic_block (panic_then panic_body))))))) (E2374.wantedB rfl rfl rfl (congrArg Bool.not hb2361)) (fun w_ => rn_pickT E2374 rfl rfl hb2368 rfl) rfl fun a2375 E2376 => ?_
                            clear E2374
                            refine wa_take (i := 26) E2376 rfl (by kernel_rfl) (panic_then (panic_block (panic_block (panic_then (panic_then (panic_block (panic_then panic_body))))))) rfl (fun w_ => rn_pickF E2376 rfl rfl (congrArg Bool.not hb2361) rfl) rfl fun a2377 E2378 => ?_
                            clear E2376
                            refine wa_take (i := 27) E2378 rfl (by kernel_rfl) (panic_then (panic_block (panic_block (panic_then (panic_then (panic_block (panic_then panic_body))))))) rfl (fun w_ => rn_assign E2378 rfl rfl) rfl fun a2379 E2380 => ?_
                            clear E2378
                            refine wa_done (by kernel_rfl) ?_
                            refine then_normal (hK2277 _ _ ?_)
                            rcases Bool.eq_false_or_eq_true (u2222.PPID != 0) with hb2381 | hb2381
                            · replace h2212 := itT hb2381 h2212
                              refine wc_T E2380 rfl hb2381 ?_
                              refine wp_seq_k fun _ hK2382 => ?_
                              refine wp_region_lit ?_
                              refine wl_cons (wl_val E2380 rfl (rn_assign E2380 rfl rfl) rfl fun a2383 E2384 => ?_)
                              clear E2380
                              refine wl_nil ?_
                              refine then_normal (hK2382 _ _ ?_)
                              refine wp_ret ?_
                              obtain rfl := Option.some.inj h2212
                              try dsimp only at h
                              refine block_ret (block_ret (then_ret (then_ret (block_ret (then_ret (?_))))))
                              obtain rfl := Option.some.inj h
                              refine wb_ret1 E2384 rfl (rv_tmp E2384 rfl) ?_
                              exact ⟨_, rfl, [], [], ⟨rfl, rfl, rfl⟩, H.leave (fun Z hA => trivial) (fun Z S hA hL => trivial)⟩
                            · replace h2212 := itF hb2381 h2212
                              refine wc_F E2380 rfl hb2381 ?_
                              refine wp_seq_k fun _ hK2385 => ?_
                              refine wp_region_lit ?_
                              refine wl_cons (wl_val E2380 rfl (rn_fieldAddr E2380 rfl Try.underlying38 rfl ti3 rfl rfl) rfl fun a2386 E2387 => ?_)
                              clear E2380
                              refine wl_cons (wl_val E2387 rfl (rn_ld1 (i := 1) E2387 H rfl Try.underlying3 rfl rfl rfl rfl) rfl fun a2388 E2389 => ?_)
                              clear E2387
                              refine wl_cons (wl_val E2389 rfl (rn_fieldAddr E2389 rfl Try.underlying28 rfl ti3 rfl rfl) rfl fun a2390 E2391 => ?_)
                              clear E2389
                              refine wl_cons (wl_val E2391 rfl (rn_ld1 (i := 0) E2391 H rfl Try.underlying3 rfl rfl rfl rfl) rfl fun a2392 E2393 => ?_)
                              clear E2391
                              refine wl_cons (wl_val E2393 rfl (rn_int E2393 rfl rfl rfl rfl) rfl fun a2394 E2395 => ?_)
                              clear E2393
                              refine wl_cons (wl_val E2395 rfl (rn_move E2395 rfl rfl) rfl fun a2396 E2397 => ?_)
                              clear E2395
                              rcases Bool.eq_false_or_eq_true (decide (u2222.PID ≥ a0.Next)) with hb2398 | hb2398
                              · replace h2212 := itT hb2398 h2212
                                refine wl_cons (wl_pass E2397 (E2397.unwanted rfl rfl rfl hb2398) rfl fun a2399 E2400 => ?_)
                                clear E2397
                                refine wl_cons (wl_pass E2400 (E2400.unwanted rfl rfl rfl hb2398) rfl fun a2401 E2402 => ?_)
                                clear E2400
                                refine wl_cons (wl_pass E2402 (E2402.unwanted rfl rfl rfl hb2398) rfl fun a2403 E2404 => ?_)
                                clear E2402
                                refine wl_cons (wl_pass E2404 (E2404.unwanted rfl rfl rfl hb2398) rfl fun a2405 E2406 => ?_)
                                clear E2404
                                refine wl_cons (wl_pass E2406 (E2406.unwanted rfl rfl rfl hb2398) rfl fun a2407 E2408 => ?_)
                                clear E2406
                                refine wl_cons (wl_pass E2408 (E2408.unwanted rfl rfl rfl hb2398) rfl fun a2409 E2410 => ?_)
                                clear E2408
                                refine wl_cons (wl_pass E2410 (E2410.unwanted rfl rfl rfl hb2398) rfl fun a2411 E2412 => ?_)
                                clear E2410
                                refine wl_cons (wl_pass E2412 (E2412.unwanted rfl rfl rfl hb2398) rfl fun a2413 E2414 => ?_)
                                clear E2412
                                refine wl_cons (wl_pass E2414 (E2414.unwanted rfl rfl rfl hb2398) rfl fun a2415 E2416 => ?_)
                                clear E2414
                                refine wl_cons (wl_pass E2416 (E2416.unwanted rfl rfl rfl hb2398) rfl fun a2417 E2418 => ?_)
                                clear E2416
                                refine wl_cons (wl_pass E2418 (E2418.unwanted rfl rfl rfl hb2398) rfl fun a2419 E2420 => ?_)
                                clear E2418
                                refine wl_cons (wl_val E2420 rfl (rn_pickT E2420 rfl rfl hb2398 rfl) rfl fun a2421 E2422 => ?_)
                                clear E2420
                                refine wl_cons (wl_val E2422 rfl (rn_move E2422 rfl rfl) rfl fun a2423 E2424 => ?_)
                                clear E2422
                                refine wl_cons (wl_pass E2424 (E2424.unwanted rfl rfl rfl rfl) rfl fun a2425 E2426 => ?_)
                                clear E2424
                                refine wl_cons (wl_pass E2426 (E2426.unwanted rfl rfl rfl rfl) rfl fun a2427 E2428 => ?_)
                                clear E2426
                                refine wl_cons (wl_pass E2428 (E2428.unwanted rfl rfl rfl rfl) rfl fun a2429 E2430 => ?_)
                                clear E2428
                                refine wl_cons (wl_pass E2430 (E2430.unwanted rfl rfl rfl rfl) rfl fun a2431 E2432 => ?_)
                                clear E2430
                                refine wl_cons (wl_pass E2432 (E2432.unwanted rfl rfl rfl rfl) rfl fun a2433 E2434 => ?_)
                                clear E2432
                                refine wl_cons (wl_val E2434 rfl (rn_pickT E2434 rfl rfl rfl rfl) rfl fun a2435 E2436 => ?_)
                                clear E2434
                                refine wl_cons (wl_val E2436 rfl (rn_assign E2436 rfl rfl) rfl fun a2437 E2438 => ?_)
                                clear E2436
                                refine wl_nil ?_
                                refine then_normal (hK2385 _ _ ?_)
                                refine wc_T E2438 rfl rfl ?_
                                refine wp_seq_k fun _ hK2439 => ?_
                                refine wp_region_lit ?_
                                refine wl_cons (wl_val E2438 rfl (rn_assign E2438 rfl rfl) rfl fun a2440 E2441 => ?_)
                                clear E2438
                                refine wl_nil ?_
                                refine then_normal (hK2439 _ _ ?_)
                                refine wp_ret ?_
                                obtain rfl := Option.some.inj h2212
                                try dsimp only at h
                                refine block_ret (block_ret (then_ret (then_ret (block_ret (then_ret (?_))))))
                                obtain rfl := Option.some.inj h
                                refine wb_ret1 E2441 rfl (rv_tmp E2441 rfl) ?_
                                exact ⟨_, rfl, [], [], ⟨rfl, rfl, rfl⟩, H.leave (fun Z hA => trivial) (fun Z S hA hL => trivial)⟩
                              · replace h2212 := itF hb2398 h2212
                                refine wl_cons (wl_val E2397 (E2397.wantedB rfl rfl rfl hb2398) (rn_fieldAddr E2397 rfl Try.underlying38 rfl ti3 rfl rfl) rfl fun a2442 E2443 => ?_)
                                clear E2397
                                refine wl_cons (wl_val E2443 (E2443.wantedB rfl rfl rfl hb2398) (rn_ld1 (i := 1) E2443 H rfl Try.underlying3 rfl rfl rfl rfl) rfl fun a2444 E2445 => ?_)
                                clear E2443
                                refine wl_cons (wl_val E2445 (E2445.wantedB rfl rfl rfl hb2398) (rn_fieldAddr E2445 rfl Try.underlying38 rfl ti3 rfl rfl) rfl fun a2446 E2447 => ?_)
                                clear E2445
                                refine wl_cons (wl_val E2447 (E2447.wantedB rfl rfl rfl hb2398) (rn_ld1 (i := 1) E2447 H rfl Try.underlying3 rfl rfl rfl rfl) rfl fun a2448 E2449 => ?_)
                                clear E2447
                                refine wl_cons (wl_val E2449 (E2449.wantedB rfl rfl rfl hb2398) (rn_fieldAddr E2449 rfl Try.underlying38 rfl ti3 rfl rfl) rfl fun a2450 E2451 => ?_)
                                clear E2449
                                refine wl_cons (wl_val E2451 (E2451.wantedB rfl rfl rfl hb2398) (rn_ld1 (i := 1) E2451 H rfl Try.underlying3 rfl rfl rfl rfl) rfl fun a2452 E2453 => ?_)
                                clear E2451
                                refine wl_cons (wl_val E2453 (E2453.wantedB rfl rfl rfl hb2398) (rn_fieldAddr E2453 rfl Try.underlying38 rfl ti3 rfl rfl) rfl fun a2454 E2455 => ?_)
                                clear E2453
                                refine wl_cons (wl_val E2455 (E2455.wantedB rfl rfl rfl hb2398) (rn_ld1 (i := 1) E2455 H rfl Try.underlying3 rfl rfl rfl rfl) rfl fun a2456 E2457 => ?_)
                                clear E2455
                                refine wl_cons (wl_buildSlice (ps := [(0, .int .i64 u2222.UID), (1, .int .i64 u2222.EUID), (2, .int .i64 u2222.GID), (3, .int .i64 u2222.EGID)]) (cs := [.int .i64 u2222.UID, .int .i64 u2222.EUID, .int .i64 u2222.GID, .int .i64 u2222.EGID]) E2457 H (E2457.wantedB rfl rfl rfl hb2398) Try.underlying22 ti3 rfl rfl (by kernel_rfl) rfl fun g2458 w2459 a2460 E2461 H' => ?_)
                                clear H E2457; have H := H'; clear H'
                                replace H := H.toRow (i := 2) (K := (kInt .i64)) (xs := [u2222.UID, u2222.EUID, u2222.GID, u2222.EGID]) rfl rfl (fun Z hA => ⟨[.int .i64 u2222.UID], _, rfl, rfl, ⟨[.int .i64 u2222.EUID], _, rfl, rfl, ⟨[.int .i64 u2222.GID], _, rfl, rfl, ⟨[.int .i64 u2222.EGID], _, rfl, rfl, rfl⟩⟩⟩⟩)
                                obtain ⟨y2463, hy2464, h2212⟩ := bs h2212
                                refine wl_cons (wl_funFlat E2461 H (E2461.wantedB rfl rfl rfl hb2398) (rn_call (args := [.int .i64 4294967294, .slice (some ⟨g2458, 0, none⟩) 4 4]) E2461 rfl rfl rfl Try.func39 nm39 rfl) rfl (by exact fun Z S hA hL => ⟨(Holds_row hL (i := 2) rfl), trivial⟩) (C39 4294967294 [u2222.UID, u2222.EUID, u2222.GID, u2222.EGID] (some ⟨g2458, 0, none⟩) 4 _ _ hy2464) C39_flat ?_)
                                rintro v_ A_ N_ w2467 a2465 ⟨rfl, rfl, rfl⟩ E2466 H'
                                replace H := H'; clear H' E2461
                                replace H : St w Nil Z w2467 [vw (kSlice 38 k_api_Process) a0.Processes [.slice p3 a0.Processes.length c4], vw (kSlice 81 k_api_Descriptor) u356.Open [.slice p369 u356.Open.length c370], vw (kSlice 81 k_api_Descriptor) u2222.Open [.slice p2230 u2222.Open.length c2231], vw (kSlice 38 k_api_Process) (cut a0.Processes 0 x2205) [.slice p2256 ((cut a0.Processes 0 x2205).length) c2257], vw (kSlice 81 k_api_Descriptor) u2294.Open [.slice p2307 u2294.Open.length c2308]] [[blk g6 [.int .i64 a0.Next, .int .i64 a0.NextSession, .slice p3 a0.Processes.length c4] 28], [blk g2234 [.int .i64 u2222.PID, .int .i64 u2222.PPID, .int .i64 u2222.UID, .int .i64 u2222.EUID, .int .i64 u2222.GID, .int .i64 u2222.EGID, .int .i64 u2222.AUID, .int .i64 u2222.Session, .int .i64 u2222.Cwd.Dev, .int .i64 u2222.Cwd.Ino, .string u2222.Comm, .string u2222.Exe, .slice p2230 u2222.Open.length c2231, .bool u2222.Audited] 38], [row 3 (kInt .i64) [u2222.UID, u2222.EUID, u2222.GID, u2222.EGID] (.slice (some ⟨g2458, 0, none⟩) 4 4)]] := H
                                refine wl_cons (wl_val E2466 (E2466.wantedB rfl rfl rfl hb2398) (rn_not E2466 rfl rfl) rfl fun a2468 E2469 => ?_)
                                clear E2466
                                refine wl_cons (wl_val E2469 rfl (rn_pickF E2469 rfl rfl hb2398 rfl) rfl fun a2470 E2471 => ?_)
                                clear E2469
                                refine wl_cons (wl_val E2471 rfl (rn_move E2471 rfl rfl) rfl fun a2472 E2473 => ?_)
                                clear E2471
                                rcases Bool.eq_false_or_eq_true y2463 with hb2474 | hb2474
                                · replace h2212 := itT hb2474 h2212
                                  refine wl_cons (wl_val E2473 (E2473.wantedB rfl rfl rfl (congrArg Bool.not hb2474)) (rn_fieldAddr E2473 rfl Try.underlying38 rfl ti3 rfl rfl) rfl fun a2475 E2476 => ?_)
                                  clear E2473
                                  refine wl_cons (wl_val E2476 (E2476.wantedB rfl rfl rfl (congrArg Bool.not hb2474)) (rn_ld1 (i := 1) E2476 H rfl Try.underlying3 rfl rfl rfl rfl) rfl fun a2477 E2478 => ?_)
                                  clear E2476
                                  refine wl_cons (wl_buildSlice (ps := [(0, .int .i64 u2222.AUID)]) (cs := [.int .i64 u2222.AUID]) E2478 H (E2478.wantedB rfl rfl rfl (congrArg Bool.not hb2474)) Try.underlying22 ti3 rfl rfl (by kernel_rfl) rfl fun g2479 w2480 a2481 E2482 H' => ?_)
                                  clear H E2478; have H := H'; clear H'
                                  replace H := H.toRow (i := 3) (K := (kInt .i64)) (xs := [u2222.AUID]) rfl rfl (fun Z hA => ⟨[.int .i64 u2222.AUID], _, rfl, rfl, rfl⟩)
                                  obtain ⟨y2484, hy2485, h2212⟩ := bs h2212
                                  refine wl_cons (wl_funFlat E2482 H (E2482.wantedB rfl rfl rfl (congrArg Bool.not hb2474)) (rn_call (args := [.int .i64 4294967295, .slice (some ⟨g2479, 0, none⟩) 1 1]) E2482 rfl rfl rfl Try.func39 nm39 rfl) rfl (by exact fun Z S hA hL => ⟨(Holds_row hL (i := 3) rfl), trivial⟩) (C39 4294967295 [u2222.AUID] (some ⟨g2479, 0, none⟩) 1 _ _ hy2485) C39_flat ?_)
                                  rintro v_ A_ N_ w2488 a2486 ⟨rfl, rfl, rfl⟩ E2487 H'
                                  replace H := H'; clear H' E2482
                                  refine wl_cons (wl_val E2487 (E2487.wantedB rfl rfl rfl (congrArg Bool.not hb2474)) (rn_not E2487 rfl rfl) rfl fun a2489 E2490 => ?_)
                                  clear E2487
                                  refine wl_cons (wl_val E2490 rfl (rn_pickF E2490 rfl rfl (congrArg Bool.not hb2474) rfl) rfl fun a2491 E2492 => ?_)
                                  clear E2490
                                  refine wl_cons (wl_val E2492 rfl (rn_assign E2492 rfl rfl) rfl fun a2493 E2494 => ?_)
                                  clear E2492
                                  refine wl_nil ?_
                                  refine then_normal (hK2385 _ _ ?_)
                                  rcases Bool.eq_false_or_eq_true y2484 with hb2495 | hb2495
                                  · replace h2212 := itT hb2495 h2212
                                    refine wc_F E2494 rfl (congrArg Bool.not hb2495) ?_
                                    refine wp_seq_k fun _ hK2496 => ?_
                                    refine wp_region_lit ?_
                                    refine wl_cons (wl_val E2494 rfl (rn_fieldAddr E2494 rfl Try.underlying38 rfl ti3 rfl rfl) rfl fun a2497 E2498 => ?_)
                                    clear E2494
                                    refine wl_cons (wl_val E2498 rfl (rn_ld1 (i := 1) E2498 H rfl Try.underlying3 rfl rfl rfl rfl) rfl fun a2499 E2500 => ?_)
                                    clear E2498
                                    refine wl_cons (wl_val E2500 rfl (rn_int E2500 rfl rfl rfl rfl) rfl fun a2501 E2502 => ?_)
                                    clear E2500
                                    refine wl_cons (wl_val E2502 rfl (rn_move E2502 rfl rfl) rfl fun a2503 E2504 => ?_)
                                    clear E2502
                                    rcases Bool.eq_false_or_eq_true (u2222.Session != 4294967295) with hb2505 | hb2505
                                    · replace h2212 := itT hb2505 h2212
                                      refine wl_cons (wl_val E2504 (E2504.wantedB rfl rfl rfl hb2505) (rn_fieldAddr E2504 rfl Try.underlying38 rfl ti3 rfl rfl) rfl fun a2506 E2507 => ?_)
                                      clear E2504
                                      refine wl_cons (wl_val E2507 (E2507.wantedB rfl rfl rfl hb2505) (rn_ld1 (i := 1) E2507 H rfl Try.underlying3 rfl rfl rfl rfl) rfl fun a2508 E2509 => ?_)
                                      clear E2507
                                      refine wl_cons (wl_val E2509 (E2509.wantedB rfl rfl rfl hb2505) (rn_int E2509 rfl rfl rfl rfl) rfl fun a2510 E2511 => ?_)
                                      clear E2509
                                      refine wl_cons (wl_val E2511 (E2511.wantedB rfl rfl rfl hb2505) (rn_move E2511 rfl rfl) rfl fun a2512 E2513 => ?_)
                                      clear E2511
                                      rcases Bool.eq_false_or_eq_true (decide (u2222.Session < 0)) with hb2514 | hb2514
                                      · replace h2212 := itT hb2514 h2212
                                        refine wl_cons (wl_pass E2513 (E2513.unwanted rfl rfl rfl hb2514) rfl fun a2515 E2516 => ?_)
                                        clear E2513
                                        refine wl_cons (wl_pass E2516 (E2516.unwanted rfl rfl rfl hb2514) rfl fun a2517 E2518 => ?_)
                                        clear E2516
                                        refine wl_cons (wl_pass E2518 (E2518.unwanted rfl rfl rfl hb2514) rfl fun a2519 E2520 => ?_)
                                        clear E2518
                                        refine wl_cons (wl_pass E2520 (E2520.unwanted rfl rfl rfl hb2514) rfl fun a2521 E2522 => ?_)
                                        clear E2520
                                        refine wl_cons (wl_pass E2522 (E2522.unwanted rfl rfl rfl hb2514) rfl fun a2523 E2524 => ?_)
                                        clear E2522
                                        refine wl_cons (wl_val E2524 (E2524.wantedB rfl rfl rfl hb2505) (rn_pickT E2524 rfl rfl hb2514 rfl) rfl fun a2525 E2526 => ?_)
                                        clear E2524
                                        refine wl_cons (wl_val E2526 rfl (rn_pickT E2526 rfl rfl hb2505 rfl) rfl fun a2527 E2528 => ?_)
                                        clear E2526
                                        refine wl_cons (wl_val E2528 rfl (rn_move E2528 rfl rfl) rfl fun a2529 E2530 => ?_)
                                        clear E2528
                                        refine wl_cons (wl_pass E2530 (E2530.unwanted rfl rfl rfl rfl) rfl fun a2531 E2532 => ?_)
                                        clear E2530
                                        refine wl_cons (wl_pass E2532 (E2532.unwanted rfl rfl rfl rfl) rfl fun a2533 E2534 => ?_)
                                        clear E2532
                                        refine wl_cons (wl_pass E2534 (E2534.unwanted rfl rfl rfl rfl) rfl fun a2535 E2536 => ?_)
                                        clear E2534
                                        refine wl_cons (wl_pass E2536 (E2536.unwanted rfl rfl rfl rfl) rfl fun a2537 E2538 => ?_)
                                        clear E2536
                                        refine wl_cons (wl_val E2538 rfl (rn_pickT E2538 rfl rfl rfl rfl) rfl fun a2539 E2540 => ?_)
                                        clear E2538
                                        refine wl_cons (wl_val E2540 rfl (rn_assign E2540 rfl rfl) rfl fun a2541 E2542 => ?_)
                                        clear E2540
                                        refine wl_nil ?_
                                        refine then_normal (hK2496 _ _ ?_)
                                        refine wc_T E2542 rfl rfl ?_
                                        refine wp_seq_k fun _ hK2543 => ?_
                                        refine wp_region_lit ?_
                                        refine wl_cons (wl_val E2542 rfl (rn_assign E2542 rfl rfl) rfl fun a2544 E2545 => ?_)
                                        clear E2542
                                        refine wl_nil ?_
                                        refine then_normal (hK2543 _ _ ?_)
                                        refine wp_ret ?_
                                        obtain rfl := Option.some.inj h2212
                                        try dsimp only at h
                                        refine block_ret (block_ret (then_ret (then_ret (block_ret (then_ret (?_))))))
                                        obtain rfl := Option.some.inj h
                                        refine wb_ret1 E2545 rfl (rv_tmp E2545 rfl) ?_
                                        exact ⟨_, rfl, [], [], ⟨rfl, rfl, rfl⟩, H.leave (fun Z hA => trivial) (fun Z S hA hL => trivial)⟩
                                      · replace h2212 := itF hb2514 h2212
                                        refine wl_cons (wl_val E2513 (E2513.wantedB rfl rfl rfl hb2514) (rn_fieldAddr E2513 rfl Try.underlying38 rfl ti3 rfl rfl) rfl fun a2546 E2547 => ?_)
                                        clear E2513
                                        refine wl_cons (wl_val E2547 (E2547.wantedB rfl rfl rfl hb2514) (rn_ld1 (i := 1) E2547 H rfl Try.underlying3 rfl rfl rfl rfl) rfl fun a2548 E2549 => ?_)
                                        clear E2547
                                        refine wl_cons (wl_val E2549 (E2549.wantedB rfl rfl rfl hb2514) (rn_fieldAddr E2549 rfl Try.underlying28 rfl ti3 rfl rfl) rfl fun a2550 E2551 => ?_)
                                        clear E2549
                                        refine wl_cons (wl_val E2551 (E2551.wantedB rfl rfl rfl hb2514) (rn_ld1 (i := 0) E2551 H rfl Try.underlying3 rfl rfl rfl rfl) rfl fun a2552 E2553 => ?_)
                                        clear E2551
                                        refine wl_cons (wl_val E2553 (E2553.wantedB rfl rfl rfl hb2514) (rn_int E2553 rfl rfl rfl rfl) rfl fun a2554 E2555 => ?_)
                                        clear E2553
                                        refine wl_cons (wl_val E2555 (E2555.wantedB rfl rfl rfl hb2505) (rn_pickF E2555 rfl rfl hb2514 rfl) rfl fun a2556 E2557 => ?_)
                                        clear E2555
                                        refine wl_cons (wl_val E2557 rfl (rn_pickT E2557 rfl rfl hb2505 rfl) rfl fun a2558 E2559 => ?_)
                                        clear E2557
                                        refine wl_cons (wl_val E2559 rfl (rn_move E2559 rfl rfl) rfl fun a2560 E2561 => ?_)
                                        clear E2559
                                        rcases Bool.eq_false_or_eq_true (decide (u2222.Session ≥ a0.NextSession)) with hb2562 | hb2562
                                        · replace h2212 := itT hb2562 h2212
                                          refine wl_cons (wl_pass E2561 (E2561.unwanted rfl rfl rfl hb2562) rfl fun a2563 E2564 => ?_)
                                          clear E2561
                                          refine wl_cons (wl_pass E2564 (E2564.unwanted rfl rfl rfl hb2562) rfl fun a2565 E2566 => ?_)
                                          clear E2564
                                          refine wl_cons (wl_pass E2566 (E2566.unwanted rfl rfl rfl hb2562) rfl fun a2567 E2568 => ?_)
                                          clear E2566
                                          refine wl_cons (wl_pass E2568 (E2568.unwanted rfl rfl rfl hb2562) rfl fun a2569 E2570 => ?_)
                                          clear E2568
                                          refine wl_cons (wl_val E2570 rfl (rn_pickT E2570 rfl rfl hb2562 rfl) rfl fun a2571 E2572 => ?_)
                                          clear E2570
                                          refine wl_cons (wl_val E2572 rfl (rn_assign E2572 rfl rfl) rfl fun a2573 E2574 => ?_)
                                          clear E2572
                                          refine wl_nil ?_
                                          refine then_normal (hK2496 _ _ ?_)
                                          refine wc_T E2574 rfl rfl ?_
                                          refine wp_seq_k fun _ hK2575 => ?_
                                          refine wp_region_lit ?_
                                          refine wl_cons (wl_val E2574 rfl (rn_assign E2574 rfl rfl) rfl fun a2576 E2577 => ?_)
                                          clear E2574
                                          refine wl_nil ?_
                                          refine then_normal (hK2575 _ _ ?_)
                                          refine wp_ret ?_
                                          obtain rfl := Option.some.inj h2212
                                          try dsimp only at h
                                          refine block_ret (block_ret (then_ret (then_ret (block_ret (then_ret (?_))))))
                                          obtain rfl := Option.some.inj h
                                          refine wb_ret1 E2577 rfl (rv_tmp E2577 rfl) ?_
                                          exact ⟨_, rfl, [], [], ⟨rfl, rfl, rfl⟩, H.leave (fun Z hA => trivial) (fun Z S hA hL => trivial)⟩
                                        · replace h2212 := itF hb2562 h2212
                                          refine wl_cons (wl_val E2561 (E2561.wantedB rfl rfl rfl hb2562) (rn_fieldAddr E2561 rfl Try.underlying38 rfl ti36 rfl rfl) rfl fun a2578 E2579 => ?_)
                                          clear E2561
                                          refine wl_cons (wl_val E2579 (E2579.wantedB rfl rfl rfl hb2562) (rn_ld1 (i := 1) E2579 H rfl Try.underlying36 rfl rfl rfl rfl) rfl fun a2580 E2581 => ?_)
                                          clear E2579
                                          obtain ⟨y2582, hy2583, h2212⟩ := bs h2212
                                          refine wl_cons (wl_fun E2581 H (E2581.wantedB rfl rfl rfl hb2562) (rn_call (args := [.slice p2230 u2222.Open.length c2231]) E2581 rfl rfl rfl Try.func44 nm44 rfl) rfl (by exact fun Z hA => ⟨(argHolds_get hA (k := 2) rfl), trivial⟩) (C44 u2222.Open p2230 c2231 _ _ hy2583) ?_)
                                          rintro v_ A_ N_ w2586 a2584 ⟨rfl, rfl, rfl⟩ E2585 H'
                                          replace H := H'; clear H' E2581
                                          replace H : St w Nil Z w2586 [vw (kSlice 38 k_api_Process) a0.Processes [.slice p3 a0.Processes.length c4], vw (kSlice 81 k_api_Descriptor) u356.Open [.slice p369 u356.Open.length c370], vw (kSlice 81 k_api_Descriptor) u2222.Open [.slice p2230 u2222.Open.length c2231], vw (kSlice 38 k_api_Process) (cut a0.Processes 0 x2205) [.slice p2256 ((cut a0.Processes 0 x2205).length) c2257], vw (kSlice 81 k_api_Descriptor) u2294.Open [.slice p2307 u2294.Open.length c2308]] [[blk g6 [.int .i64 a0.Next, .int .i64 a0.NextSession, .slice p3 a0.Processes.length c4] 28], [blk g2234 [.int .i64 u2222.PID, .int .i64 u2222.PPID, .int .i64 u2222.UID, .int .i64 u2222.EUID, .int .i64 u2222.GID, .int .i64 u2222.EGID, .int .i64 u2222.AUID, .int .i64 u2222.Session, .int .i64 u2222.Cwd.Dev, .int .i64 u2222.Cwd.Ino, .string u2222.Comm, .string u2222.Exe, .slice p2230 u2222.Open.length c2231, .bool u2222.Audited] 38], [row 3 (kInt .i64) [u2222.UID, u2222.EUID, u2222.GID, u2222.EGID] (.slice (some ⟨g2458, 0, none⟩) 4 4)], [row 3 (kInt .i64) [u2222.AUID] (.slice (some ⟨g2479, 0, none⟩) 1 1)]] := H
                                          refine wl_cons (wl_val E2585 (E2585.wantedB rfl rfl rfl hb2562) (rn_not E2585 rfl rfl) rfl fun a2587 E2588 => ?_)
                                          clear E2585
                                          refine wl_cons (wl_val E2588 rfl (rn_pickF E2588 rfl rfl hb2562 rfl) rfl fun a2589 E2590 => ?_)
                                          clear E2588
                                          refine wl_cons (wl_val E2590 rfl (rn_assign E2590 rfl rfl) rfl fun a2591 E2592 => ?_)
                                          clear E2590
                                          refine wl_nil ?_
                                          refine then_normal (hK2496 _ _ ?_)
                                          rcases Bool.eq_false_or_eq_true y2582 with hb2593 | hb2593
                                          · replace h2212 := itT hb2593 h2212
                                            refine wc_F E2592 rfl (congrArg Bool.not hb2593) ?_
                                            refine wp_skip ?_
                                            refine block_normal ?_
                                            refine block_normal ?_
                                            refine then_normal (hK2218 _ _ ?_)
                                            refine wp_region_lit ?_
                                            refine wl_cons (wl_val E2592 rfl (rn_int E2592 rfl rfl rfl rfl) rfl fun a2594 E2595 => ?_)
                                            clear E2592
                                            refine wl_cons (wl_val E2595 rfl (rn_move E2595 rfl rfl) rfl fun a2596 E2597 => ?_)
                                            clear E2595
                                            refine wl_nil ?_
                                            replace H : St w Nil Z w2586 [vw (kSlice 38 k_api_Process) a0.Processes [.slice p3 a0.Processes.length c4], vw (kSlice 81 k_api_Descriptor) u356.Open [.slice p369 u356.Open.length c370], vw (kSlice 81 k_api_Descriptor) u2222.Open [.slice p2230 u2222.Open.length c2231], vw (kSlice 38 k_api_Process) (cut a0.Processes 0 x2205) [.slice p2256 ((cut a0.Processes 0 x2205).length) c2257], vw (kSlice 81 k_api_Descriptor) u2294.Open [.slice p2307 u2294.Open.length c2308]] ([[blk g6 [.int .i64 a0.Next, .int .i64 a0.NextSession, .slice p3 a0.Processes.length c4] 28]] ++ [[blk g2234 [.int .i64 u2222.PID, .int .i64 u2222.PPID, .int .i64 u2222.UID, .int .i64 u2222.EUID, .int .i64 u2222.GID, .int .i64 u2222.EGID, .int .i64 u2222.AUID, .int .i64 u2222.Session, .int .i64 u2222.Cwd.Dev, .int .i64 u2222.Cwd.Ino, .string u2222.Comm, .string u2222.Exe, .slice p2230 u2222.Open.length c2231, .bool u2222.Audited] 38], [row 3 (kInt .i64) [u2222.UID, u2222.EUID, u2222.GID, u2222.EGID] (.slice (some ⟨g2458, 0, none⟩) 4 4)], [row 3 (kInt .i64) [u2222.AUID] (.slice (some ⟨g2479, 0, none⟩) 1 1)]]) := H
                                            exact ⟨(IntKind.wrap .i64 (x2205 + 1)), E2597.pick ⟨rfl, rfl, rfl, rfl, rfl, rfl, rfl, rfl, rfl, rfl, rfl, rfl, rfl, rfl, rfl, rfl, rfl, rfl, rfl, rfl, rfl, rfl, rfl, rfl, rfl, rfl, rfl, rfl, rfl, rfl, rfl, rfl, rfl, rfl, rfl, rfl, rfl, rfl, rfl, rfl, rfl, rfl, rfl, rfl, rfl, trivial⟩, H.front.sel (fun Z hA => ⟨(argHolds_get hA (k := 0) rfl), (argHolds_get hA (k := 1) rfl), trivial⟩), h2212⟩
                                          · replace h2212 := itF hb2593 h2212
                                            refine wc_T E2592 rfl (congrArg Bool.not hb2593) ?_
                                            refine wp_seq_k fun _ hK2598 => ?_
                                            refine wp_region_lit ?_
                                            refine wl_cons (wl_val E2592 rfl (rn_assign E2592 rfl rfl) rfl fun a2599 E2600 => ?_)
                                            clear E2592
                                            refine wl_nil ?_
                                            refine then_normal (hK2598 _ _ ?_)
                                            refine wp_ret ?_
                                            obtain rfl := Option.some.inj h2212
                                            try dsimp only at h
                                            refine block_ret (block_ret (then_ret (then_ret (block_ret (then_ret (?_))))))
                                            obtain rfl := Option.some.inj h
                                            refine wb_ret1 E2600 rfl (rv_tmp E2600 rfl) ?_
                                            exact ⟨_, rfl, [], [], ⟨rfl, rfl, rfl⟩, H.leave (fun Z hA => trivial) (fun Z S hA hL => trivial)⟩
                                    · replace h2212 := itF hb2505 h2212
                                      refine wl_cons (wl_pass E2504 (E2504.unwanted rfl rfl rfl hb2505) rfl fun a2601 E2602 => ?_)
                                      clear E2504
                                      refine wl_cons (wl_pass E2602 (E2602.unwanted rfl rfl rfl hb2505) rfl fun a2603 E2604 => ?_)
                                      clear E2602
                                      refine wl_cons (wl_pass E2604 (E2604.unwanted rfl rfl rfl hb2505) rfl fun a2605 E2606 => ?_)
                                      clear E2604
                                      refine wl_cons (wl_pass E2606 (E2606.unwanted rfl rfl rfl hb2505) rfl fun a2607 E2608 => ?_)
                                      clear E2606
                                      refine wl_cons (wl_pass E2608 (E2608.unwanted0 rfl rfl rfl) rfl fun a2609 E2610 => ?_)
                                      clear E2608
                                      refine wl_cons (wl_pass E2610 (E2610.unwanted0 rfl rfl rfl) rfl fun a2611 E2612 => ?_)
                                      clear E2610
                                      refine wl_cons (wl_pass E2612 (E2612.unwanted0 rfl rfl rfl) rfl fun a2613 E2614 => ?_)
                                      clear E2612
                                      refine wl_cons (wl_pass E2614 (E2614.unwanted0 rfl rfl rfl) rfl fun a2615 E2616 => ?_)
                                      clear E2614
                                      refine wl_cons (wl_pass E2616 (E2616.unwanted0 rfl rfl rfl) rfl fun a2617 E2618 => ?_)
                                      clear E2616
                                      refine wl_cons (wl_pass E2618 (E2618.unwanted rfl rfl rfl hb2505) rfl fun a2619 E2620 => ?_)
                                      clear E2618
                                      refine wl_cons (wl_val E2620 rfl (rn_pickF E2620 rfl rfl hb2505 rfl) rfl fun a2621 E2622 => ?_)
                                      clear E2620
                                      refine wl_cons (wl_val E2622 rfl (rn_move E2622 rfl rfl) rfl fun a2623 E2624 => ?_)
                                      clear E2622
                                      refine wl_cons (wl_val E2624 (E2624.wantedB rfl rfl rfl rfl) (rn_fieldAddr E2624 rfl Try.underlying38 rfl ti36 rfl rfl) rfl fun a2625 E2626 => ?_)
                                      clear E2624
                                      refine wl_cons (wl_val E2626 (E2626.wantedB rfl rfl rfl rfl) (rn_ld1 (i := 1) E2626 H rfl Try.underlying36 rfl rfl rfl rfl) rfl fun a2627 E2628 => ?_)
                                      clear E2626
                                      obtain ⟨y2629, hy2630, h2212⟩ := bs h2212
                                      refine wl_cons (wl_fun E2628 H (E2628.wantedB rfl rfl rfl rfl) (rn_call (args := [.slice p2230 u2222.Open.length c2231]) E2628 rfl rfl rfl Try.func44 nm44 rfl) rfl (by exact fun Z hA => ⟨(argHolds_get hA (k := 2) rfl), trivial⟩) (C44 u2222.Open p2230 c2231 _ _ hy2630) ?_)
                                      rintro v_ A_ N_ w2633 a2631 ⟨rfl, rfl, rfl⟩ E2632 H'
                                      replace H := H'; clear H' E2628
                                      replace H : St w Nil Z w2633 [vw (kSlice 38 k_api_Process) a0.Processes [.slice p3 a0.Processes.length c4], vw (kSlice 81 k_api_Descriptor) u356.Open [.slice p369 u356.Open.length c370], vw (kSlice 81 k_api_Descriptor) u2222.Open [.slice p2230 u2222.Open.length c2231], vw (kSlice 38 k_api_Process) (cut a0.Processes 0 x2205) [.slice p2256 ((cut a0.Processes 0 x2205).length) c2257], vw (kSlice 81 k_api_Descriptor) u2294.Open [.slice p2307 u2294.Open.length c2308]] [[blk g6 [.int .i64 a0.Next, .int .i64 a0.NextSession, .slice p3 a0.Processes.length c4] 28], [blk g2234 [.int .i64 u2222.PID, .int .i64 u2222.PPID, .int .i64 u2222.UID, .int .i64 u2222.EUID, .int .i64 u2222.GID, .int .i64 u2222.EGID, .int .i64 u2222.AUID, .int .i64 u2222.Session, .int .i64 u2222.Cwd.Dev, .int .i64 u2222.Cwd.Ino, .string u2222.Comm, .string u2222.Exe, .slice p2230 u2222.Open.length c2231, .bool u2222.Audited] 38], [row 3 (kInt .i64) [u2222.UID, u2222.EUID, u2222.GID, u2222.EGID] (.slice (some ⟨g2458, 0, none⟩) 4 4)], [row 3 (kInt .i64) [u2222.AUID] (.slice (some ⟨g2479, 0, none⟩) 1 1)]] := H
                                      refine wl_cons (wl_val E2632 (E2632.wantedB rfl rfl rfl rfl) (rn_not E2632 rfl rfl) rfl fun a2634 E2635 => ?_)
                                      clear E2632
                                      refine wl_cons (wl_val E2635 rfl (rn_pickF E2635 rfl rfl rfl rfl) rfl fun a2636 E2637 => ?_)
                                      clear E2635
                                      refine wl_cons (wl_val E2637 rfl (rn_assign E2637 rfl rfl) rfl fun a2638 E2639 => ?_)
                                      clear E2637
                                      refine wl_nil ?_
                                      refine then_normal (hK2496 _ _ ?_)
                                      rcases Bool.eq_false_or_eq_true y2629 with hb2640 | hb2640
                                      · replace h2212 := itT hb2640 h2212
                                        refine wc_F E2639 rfl (congrArg Bool.not hb2640) ?_
                                        refine wp_skip ?_
                                        refine block_normal ?_
                                        refine block_normal ?_
                                        refine then_normal (hK2218 _ _ ?_)
                                        refine wp_region_lit ?_
                                        refine wl_cons (wl_val E2639 rfl (rn_int E2639 rfl rfl rfl rfl) rfl fun a2641 E2642 => ?_)
                                        clear E2639
                                        refine wl_cons (wl_val E2642 rfl (rn_move E2642 rfl rfl) rfl fun a2643 E2644 => ?_)
                                        clear E2642
                                        refine wl_nil ?_
                                        replace H : St w Nil Z w2633 [vw (kSlice 38 k_api_Process) a0.Processes [.slice p3 a0.Processes.length c4], vw (kSlice 81 k_api_Descriptor) u356.Open [.slice p369 u356.Open.length c370], vw (kSlice 81 k_api_Descriptor) u2222.Open [.slice p2230 u2222.Open.length c2231], vw (kSlice 38 k_api_Process) (cut a0.Processes 0 x2205) [.slice p2256 ((cut a0.Processes 0 x2205).length) c2257], vw (kSlice 81 k_api_Descriptor) u2294.Open [.slice p2307 u2294.Open.length c2308]] ([[blk g6 [.int .i64 a0.Next, .int .i64 a0.NextSession, .slice p3 a0.Processes.length c4] 28]] ++ [[blk g2234 [.int .i64 u2222.PID, .int .i64 u2222.PPID, .int .i64 u2222.UID, .int .i64 u2222.EUID, .int .i64 u2222.GID, .int .i64 u2222.EGID, .int .i64 u2222.AUID, .int .i64 u2222.Session, .int .i64 u2222.Cwd.Dev, .int .i64 u2222.Cwd.Ino, .string u2222.Comm, .string u2222.Exe, .slice p2230 u2222.Open.length c2231, .bool u2222.Audited] 38], [row 3 (kInt .i64) [u2222.UID, u2222.EUID, u2222.GID, u2222.EGID] (.slice (some ⟨g2458, 0, none⟩) 4 4)], [row 3 (kInt .i64) [u2222.AUID] (.slice (some ⟨g2479, 0, none⟩) 1 1)]]) := H
                                        exact ⟨(IntKind.wrap .i64 (x2205 + 1)), E2644.pick ⟨rfl, rfl, rfl, rfl, rfl, rfl, rfl, rfl, rfl, rfl, rfl, rfl, rfl, rfl, rfl, rfl, rfl, rfl, rfl, rfl, rfl, rfl, rfl, rfl, rfl, rfl, rfl, rfl, rfl, rfl, rfl, rfl, rfl, rfl, rfl, rfl, rfl, rfl, rfl, rfl, rfl, rfl, rfl, rfl, rfl, trivial⟩, H.front.sel (fun Z hA => ⟨(argHolds_get hA (k := 0) rfl), (argHolds_get hA (k := 1) rfl), trivial⟩), h2212⟩
                                      · replace h2212 := itF hb2640 h2212
                                        refine wc_T E2639 rfl (congrArg Bool.not hb2640) ?_
                                        refine wp_seq_k fun _ hK2645 => ?_
                                        refine wp_region_lit ?_
                                        refine wl_cons (wl_val E2639 rfl (rn_assign E2639 rfl rfl) rfl fun a2646 E2647 => ?_)
                                        clear E2639
                                        refine wl_nil ?_
                                        refine then_normal (hK2645 _ _ ?_)
                                        refine wp_ret ?_
                                        obtain rfl := Option.some.inj h2212
                                        try dsimp only at h
                                        refine block_ret (block_ret (then_ret (then_ret (block_ret (then_ret (?_))))))
                                        obtain rfl := Option.some.inj h
                                        refine wb_ret1 E2647 rfl (rv_tmp E2647 rfl) ?_
                                        exact ⟨_, rfl, [], [], ⟨rfl, rfl, rfl⟩, H.leave (fun Z hA => trivial) (fun Z S hA hL => trivial)⟩
                                  · replace h2212 := itF hb2495 h2212
                                    refine wc_T E2494 rfl (congrArg Bool.not hb2495) ?_
                                    refine wp_seq_k fun _ hK2648 => ?_
                                    refine wp_region_lit ?_
                                    refine wl_cons (wl_val E2494 rfl (rn_assign E2494 rfl rfl) rfl fun a2649 E2650 => ?_)
                                    clear E2494
                                    refine wl_nil ?_
                                    refine then_normal (hK2648 _ _ ?_)
                                    refine wp_ret ?_
                                    obtain rfl := Option.some.inj h2212
                                    try dsimp only at h
                                    refine block_ret (block_ret (then_ret (then_ret (block_ret (then_ret (?_))))))
                                    obtain rfl := Option.some.inj h
                                    refine wb_ret1 E2650 rfl (rv_tmp E2650 rfl) ?_
                                    exact ⟨_, rfl, [], [], ⟨rfl, rfl, rfl⟩, H.leave (fun Z hA => trivial) (fun Z S hA hL => trivial)⟩
                                · replace h2212 := itF hb2474 h2212
                                  refine wl_cons (wl_pass E2473 (E2473.unwanted rfl rfl rfl (congrArg Bool.not hb2474)) rfl fun a2651 E2652 => ?_)
                                  clear E2473
                                  refine wl_cons (wl_pass E2652 (E2652.unwanted rfl rfl rfl (congrArg Bool.not hb2474)) rfl fun a2653 E2654 => ?_)
                                  clear E2652
                                  refine wl_cons (wl_pass E2654 (E2654.unwanted rfl rfl rfl (congrArg Bool.not hb2474)) rfl fun a2655 E2656 => ?_)
                                  clear E2654
                                  refine wl_cons (wl_pass E2656 (E2656.unwanted rfl rfl rfl (congrArg Bool.not hb2474)) rfl fun a2657 E2658 => ?_)
                                  clear E2656
                                  refine wl_cons (wl_pass E2658 (E2658.unwanted rfl rfl rfl (congrArg Bool.not hb2474)) rfl fun a2659 E2660 => ?_)
                                  clear E2658
                                  refine wl_cons (wl_val E2660 rfl (rn_pickT E2660 rfl rfl (congrArg Bool.not hb2474) rfl) rfl fun a2661 E2662 => ?_)
                                  clear E2660
                                  refine wl_cons (wl_val E2662 rfl (rn_assign E2662 rfl rfl) rfl fun a2663 E2664 => ?_)
                                  clear E2662
                                  refine wl_nil ?_
                                  refine then_normal (hK2385 _ _ ?_)
                                  refine wc_T E2664 rfl rfl ?_
                                  refine wp_seq_k fun _ hK2665 => ?_
                                  refine wp_region_lit ?_
                                  refine wl_cons (wl_val E2664 rfl (rn_assign E2664 rfl rfl) rfl fun a2666 E2667 => ?_)
                                  clear E2664
                                  refine wl_nil ?_
                                  refine then_normal (hK2665 _ _ ?_)
                                  refine wp_ret ?_
                                  obtain rfl := Option.some.inj h2212
                                  try dsimp only at h
                                  refine block_ret (block_ret (then_ret (then_ret (block_ret (then_ret (?_))))))
                                  obtain rfl := Option.some.inj h
                                  refine wb_ret1 E2667 rfl (rv_tmp E2667 rfl) ?_
                                  exact ⟨_, rfl, [], [], ⟨rfl, rfl, rfl⟩, H.leave (fun Z hA => trivial) (fun Z S hA hL => trivial)⟩
                          · replace h2212 := itF hb2368 h2212
                            refine wa_pass (i := 22) E2367 rfl (by kernel_rfl) (panic_then (panic_block (panic_block (panic_then (panic_then (panic_block (panic_then panic_body))))))) (E2367.unwanted rfl rfl rfl hb2368) rfl fun a2668 E2669 => ?_
                            clear E2367
                            refine wa_pass (i := 23) E2669 rfl (by kernel_rfl) (panic_then (panic_block (panic_block (panic_then (panic_then (panic_block (panic_then panic_body))))))) (E2669.unwanted rfl rfl rfl hb2368) rfl fun a2670 E2671 => ?_
                            clear E2669
                            refine wa_pass (i := 24) E2671 rfl (by kernel_rfl) (panic_then (panic_block (panic_block (panic_then (panic_then (panic_block (panic_then panic_body))))))) (E2671.unwanted rfl rfl rfl hb2368) rfl fun a2672 E2673 => ?_
                            clear E2671
                            refine wa_take (i := 25) E2673 rfl (by kernel_rfl) (panic_then (panic_block (panic_block (panic_then (panic_then (panic_block (panic_then panic_body))))))) (E2673.wantedB rfl rfl rfl (congrArg Bool.not hb2361)) (fun w_ => rn_pickF E2673 rfl rfl hb2368 rfl) rfl fun a2674 E2675 => ?_
                            clear E2673
                            refine wa_take (i := 26) E2675 rfl (by kernel_rfl) (panic_then (panic_block (panic_block (panic_then (panic_then (panic_block (panic_then panic_body))))))) rfl (fun w_ => rn_pickF E2675 rfl rfl (congrArg Bool.not hb2361) rfl) rfl fun a2676 E2677 => ?_
                            clear E2675
                            refine wa_take (i := 27) E2677 rfl (by kernel_rfl) (panic_then (panic_block (panic_block (panic_then (panic_then (panic_block (panic_then panic_body))))))) rfl (fun w_ => rn_assign E2677 rfl rfl) rfl fun a2678 E2679 => ?_
                            clear E2677
                            refine wa_done (by kernel_rfl) ?_
                            refine then_normal (hK2277 _ _ ?_)
                            refine wc_F E2679 rfl rfl ?_
                            refine wp_seq_k fun _ hK2680 => ?_
                            refine wp_region_lit ?_
                            refine wl_cons (wl_val E2679 rfl (rn_fieldAddr E2679 rfl Try.underlying38 rfl ti3 rfl rfl) rfl fun a2681 E2682 => ?_)
                            clear E2679
                            refine wl_cons (wl_val E2682 rfl (rn_ld1 (i := 1) E2682 H rfl Try.underlying3 rfl rfl rfl rfl) rfl fun a2683 E2684 => ?_)
                            clear E2682
                            refine wl_cons (wl_val E2684 rfl (rn_fieldAddr E2684 rfl Try.underlying28 rfl ti3 rfl rfl) rfl fun a2685 E2686 => ?_)
                            clear E2684
                            refine wl_cons (wl_val E2686 rfl (rn_ld1 (i := 0) E2686 H rfl Try.underlying3 rfl rfl rfl rfl) rfl fun a2687 E2688 => ?_)
                            clear E2686
                            refine wl_cons (wl_val E2688 rfl (rn_int E2688 rfl rfl rfl rfl) rfl fun a2689 E2690 => ?_)
                            clear E2688
                            refine wl_cons (wl_val E2690 rfl (rn_move E2690 rfl rfl) rfl fun a2691 E2692 => ?_)
                            clear E2690
                            rcases Bool.eq_false_or_eq_true (decide (u2222.PID ≥ a0.Next)) with hb2693 | hb2693
                            · replace h2212 := itT hb2693 h2212
                              refine wl_cons (wl_pass E2692 (E2692.unwanted rfl rfl rfl hb2693) rfl fun a2694 E2695 => ?_)
                              clear E2692
                              refine wl_cons (wl_pass E2695 (E2695.unwanted rfl rfl rfl hb2693) rfl fun a2696 E2697 => ?_)
                              clear E2695
                              refine wl_cons (wl_pass E2697 (E2697.unwanted rfl rfl rfl hb2693) rfl fun a2698 E2699 => ?_)
                              clear E2697
                              refine wl_cons (wl_pass E2699 (E2699.unwanted rfl rfl rfl hb2693) rfl fun a2700 E2701 => ?_)
                              clear E2699
                              refine wl_cons (wl_pass E2701 (E2701.unwanted rfl rfl rfl hb2693) rfl fun a2702 E2703 => ?_)
                              clear E2701
                              refine wl_cons (wl_pass E2703 (E2703.unwanted rfl rfl rfl hb2693) rfl fun a2704 E2705 => ?_)
                              clear E2703
                              refine wl_cons (wl_pass E2705 (E2705.unwanted rfl rfl rfl hb2693) rfl fun a2706 E2707 => ?_)
                              clear E2705
                              refine wl_cons (wl_pass E2707 (E2707.unwanted rfl rfl rfl hb2693) rfl fun a2708 E2709 => ?_)
                              clear E2707
                              refine wl_cons (wl_pass E2709 (E2709.unwanted rfl rfl rfl hb2693) rfl fun a2710 E2711 => ?_)
                              clear E2709
                              refine wl_cons (wl_pass E2711 (E2711.unwanted rfl rfl rfl hb2693) rfl fun a2712 E2713 => ?_)
                              clear E2711
                              refine wl_cons (wl_pass E2713 (E2713.unwanted rfl rfl rfl hb2693) rfl fun a2714 E2715 => ?_)
                              clear E2713
                              refine wl_cons (wl_val E2715 rfl (rn_pickT E2715 rfl rfl hb2693 rfl) rfl fun a2716 E2717 => ?_)
                              clear E2715
                              refine wl_cons (wl_val E2717 rfl (rn_move E2717 rfl rfl) rfl fun a2718 E2719 => ?_)
                              clear E2717
                              refine wl_cons (wl_pass E2719 (E2719.unwanted rfl rfl rfl rfl) rfl fun a2720 E2721 => ?_)
                              clear E2719
                              refine wl_cons (wl_pass E2721 (E2721.unwanted rfl rfl rfl rfl) rfl fun a2722 E2723 => ?_)
                              clear E2721
                              refine wl_cons (wl_pass E2723 (E2723.unwanted rfl rfl rfl rfl) rfl fun a2724 E2725 => ?_)
                              clear E2723
                              refine wl_cons (wl_pass E2725 (E2725.unwanted rfl rfl rfl rfl) rfl fun a2726 E2727 => ?_)
                              clear E2725
                              refine wl_cons (wl_pass E2727 (E2727.unwanted rfl rfl rfl rfl) rfl fun a2728 E2729 => ?_)
                              clear E2727
                              refine wl_cons (wl_val E2729 rfl (rn_pickT E2729 rfl rfl rfl rfl) rfl fun a2730 E2731 => ?_)
                              clear E2729
                              refine wl_cons (wl_val E2731 rfl (rn_assign E2731 rfl rfl) rfl fun a2732 E2733 => ?_)
                              clear E2731
                              refine wl_nil ?_
                              refine then_normal (hK2680 _ _ ?_)
                              refine wc_T E2733 rfl rfl ?_
                              refine wp_seq_k fun _ hK2734 => ?_
                              refine wp_region_lit ?_
                              refine wl_cons (wl_val E2733 rfl (rn_assign E2733 rfl rfl) rfl fun a2735 E2736 => ?_)
                              clear E2733
                              refine wl_nil ?_
                              refine then_normal (hK2734 _ _ ?_)
                              refine wp_ret ?_
                              obtain rfl := Option.some.inj h2212
                              try dsimp only at h
                              refine block_ret (block_ret (then_ret (then_ret (block_ret (then_ret (?_))))))
                              obtain rfl := Option.some.inj h
                              refine wb_ret1 E2736 rfl (rv_tmp E2736 rfl) ?_
                              exact ⟨_, rfl, [], [], ⟨rfl, rfl, rfl⟩, H.leave (fun Z hA => trivial) (fun Z S hA hL => trivial)⟩
                            · replace h2212 := itF hb2693 h2212
                              refine wl_cons (wl_val E2692 (E2692.wantedB rfl rfl rfl hb2693) (rn_fieldAddr E2692 rfl Try.underlying38 rfl ti3 rfl rfl) rfl fun a2737 E2738 => ?_)
                              clear E2692
                              refine wl_cons (wl_val E2738 (E2738.wantedB rfl rfl rfl hb2693) (rn_ld1 (i := 1) E2738 H rfl Try.underlying3 rfl rfl rfl rfl) rfl fun a2739 E2740 => ?_)
                              clear E2738
                              refine wl_cons (wl_val E2740 (E2740.wantedB rfl rfl rfl hb2693) (rn_fieldAddr E2740 rfl Try.underlying38 rfl ti3 rfl rfl) rfl fun a2741 E2742 => ?_)
                              clear E2740
                              refine wl_cons (wl_val E2742 (E2742.wantedB rfl rfl rfl hb2693) (rn_ld1 (i := 1) E2742 H rfl Try.underlying3 rfl rfl rfl rfl) rfl fun a2743 E2744 => ?_)
                              clear E2742
                              refine wl_cons (wl_val E2744 (E2744.wantedB rfl rfl rfl hb2693) (rn_fieldAddr E2744 rfl Try.underlying38 rfl ti3 rfl rfl) rfl fun a2745 E2746 => ?_)
                              clear E2744
                              refine wl_cons (wl_val E2746 (E2746.wantedB rfl rfl rfl hb2693) (rn_ld1 (i := 1) E2746 H rfl Try.underlying3 rfl rfl rfl rfl) rfl fun a2747 E2748 => ?_)
                              clear E2746
                              refine wl_cons (wl_val E2748 (E2748.wantedB rfl rfl rfl hb2693) (rn_fieldAddr E2748 rfl Try.underlying38 rfl ti3 rfl rfl) rfl fun a2749 E2750 => ?_)
                              clear E2748
                              refine wl_cons (wl_val E2750 (E2750.wantedB rfl rfl rfl hb2693) (rn_ld1 (i := 1) E2750 H rfl Try.underlying3 rfl rfl rfl rfl) rfl fun a2751 E2752 => ?_)
                              clear E2750
                              refine wl_cons (wl_buildSlice (ps := [(0, .int .i64 u2222.UID), (1, .int .i64 u2222.EUID), (2, .int .i64 u2222.GID), (3, .int .i64 u2222.EGID)]) (cs := [.int .i64 u2222.UID, .int .i64 u2222.EUID, .int .i64 u2222.GID, .int .i64 u2222.EGID]) E2752 H (E2752.wantedB rfl rfl rfl hb2693) Try.underlying22 ti3 rfl rfl (by kernel_rfl) rfl fun g2753 w2754 a2755 E2756 H' => ?_)
                              clear H E2752; have H := H'; clear H'
                              replace H := H.toRow (i := 2) (K := (kInt .i64)) (xs := [u2222.UID, u2222.EUID, u2222.GID, u2222.EGID]) rfl rfl (fun Z hA => ⟨[.int .i64 u2222.UID], _, rfl, rfl, ⟨[.int .i64 u2222.EUID], _, rfl, rfl, ⟨[.int .i64 u2222.GID], _, rfl, rfl, ⟨[.int .i64 u2222.EGID], _, rfl, rfl, rfl⟩⟩⟩⟩)
                              obtain ⟨y2758, hy2759, h2212⟩ := bs h2212
                              refine wl_cons (wl_funFlat E2756 H (E2756.wantedB rfl rfl rfl hb2693) (rn_call (args := [.int .i64 4294967294, .slice (some ⟨g2753, 0, none⟩) 4 4]) E2756 rfl rfl rfl Try.func39 nm39 rfl) rfl (by exact fun Z S hA hL => ⟨(Holds_row hL (i := 2) rfl), trivial⟩) (C39 4294967294 [u2222.UID, u2222.EUID, u2222.GID, u2222.EGID] (some ⟨g2753, 0, none⟩) 4 _ _ hy2759) C39_flat ?_)
                              rintro v_ A_ N_ w2762 a2760 ⟨rfl, rfl, rfl⟩ E2761 H'
                              replace H := H'; clear H' E2756
                              replace H : St w Nil Z w2762 [vw (kSlice 38 k_api_Process) a0.Processes [.slice p3 a0.Processes.length c4], vw (kSlice 81 k_api_Descriptor) u356.Open [.slice p369 u356.Open.length c370], vw (kSlice 81 k_api_Descriptor) u2222.Open [.slice p2230 u2222.Open.length c2231], vw (kSlice 38 k_api_Process) (cut a0.Processes 0 x2205) [.slice p2256 ((cut a0.Processes 0 x2205).length) c2257], vw (kSlice 81 k_api_Descriptor) u2294.Open [.slice p2307 u2294.Open.length c2308]] [[blk g6 [.int .i64 a0.Next, .int .i64 a0.NextSession, .slice p3 a0.Processes.length c4] 28], [blk g2234 [.int .i64 u2222.PID, .int .i64 u2222.PPID, .int .i64 u2222.UID, .int .i64 u2222.EUID, .int .i64 u2222.GID, .int .i64 u2222.EGID, .int .i64 u2222.AUID, .int .i64 u2222.Session, .int .i64 u2222.Cwd.Dev, .int .i64 u2222.Cwd.Ino, .string u2222.Comm, .string u2222.Exe, .slice p2230 u2222.Open.length c2231, .bool u2222.Audited] 38], [row 3 (kInt .i64) [u2222.UID, u2222.EUID, u2222.GID, u2222.EGID] (.slice (some ⟨g2753, 0, none⟩) 4 4)]] := H
                              refine wl_cons (wl_val E2761 (E2761.wantedB rfl rfl rfl hb2693) (rn_not E2761 rfl rfl) rfl fun a2763 E2764 => ?_)
                              clear E2761
                              refine wl_cons (wl_val E2764 rfl (rn_pickF E2764 rfl rfl hb2693 rfl) rfl fun a2765 E2766 => ?_)
                              clear E2764
                              refine wl_cons (wl_val E2766 rfl (rn_move E2766 rfl rfl) rfl fun a2767 E2768 => ?_)
                              clear E2766
                              rcases Bool.eq_false_or_eq_true y2758 with hb2769 | hb2769
                              · replace h2212 := itT hb2769 h2212
                                refine wl_cons (wl_val E2768 (E2768.wantedB rfl rfl rfl (congrArg Bool.not hb2769)) (rn_fieldAddr E2768 rfl Try.underlying38 rfl ti3 rfl rfl) rfl fun a2770 E2771 => ?_)
                                clear E2768
                                refine wl_cons (wl_val E2771 (E2771.wantedB rfl rfl rfl (congrArg Bool.not hb2769)) (rn_ld1 (i := 1) E2771 H rfl Try.underlying3 rfl rfl rfl rfl) rfl fun a2772 E2773 => ?_)
                                clear E2771
                                refine wl_cons (wl_buildSlice (ps := [(0, .int .i64 u2222.AUID)]) (cs := [.int .i64 u2222.AUID]) E2773 H (E2773.wantedB rfl rfl rfl (congrArg Bool.not hb2769)) Try.underlying22 ti3 rfl rfl (by kernel_rfl) rfl fun g2774 w2775 a2776 E2777 H' => ?_)
                                clear H E2773; have H := H'; clear H'
                                replace H := H.toRow (i := 3) (K := (kInt .i64)) (xs := [u2222.AUID]) rfl rfl (fun Z hA => ⟨[.int .i64 u2222.AUID], _, rfl, rfl, rfl⟩)
                                obtain ⟨y2779, hy2780, h2212⟩ := bs h2212
                                refine wl_cons (wl_funFlat E2777 H (E2777.wantedB rfl rfl rfl (congrArg Bool.not hb2769)) (rn_call (args := [.int .i64 4294967295, .slice (some ⟨g2774, 0, none⟩) 1 1]) E2777 rfl rfl rfl Try.func39 nm39 rfl) rfl (by exact fun Z S hA hL => ⟨(Holds_row hL (i := 3) rfl), trivial⟩) (C39 4294967295 [u2222.AUID] (some ⟨g2774, 0, none⟩) 1 _ _ hy2780) C39_flat ?_)
                                rintro v_ A_ N_ w2783 a2781 ⟨rfl, rfl, rfl⟩ E2782 H'
                                replace H := H'; clear H' E2777
                                refine wl_cons (wl_val E2782 (E2782.wantedB rfl rfl rfl (congrArg Bool.not hb2769)) (rn_not E2782 rfl rfl) rfl fun a2784 E2785 => ?_)
                                clear E2782
                                refine wl_cons (wl_val E2785 rfl (rn_pickF E2785 rfl rfl (congrArg Bool.not hb2769) rfl) rfl fun a2786 E2787 => ?_)
                                clear E2785
                                refine wl_cons (wl_val E2787 rfl (rn_assign E2787 rfl rfl) rfl fun a2788 E2789 => ?_)
                                clear E2787
                                refine wl_nil ?_
                                refine then_normal (hK2680 _ _ ?_)
                                rcases Bool.eq_false_or_eq_true y2779 with hb2790 | hb2790
                                · replace h2212 := itT hb2790 h2212
                                  refine wc_F E2789 rfl (congrArg Bool.not hb2790) ?_
                                  refine wp_seq_k fun _ hK2791 => ?_
                                  refine wp_region_lit ?_
                                  refine wl_cons (wl_val E2789 rfl (rn_fieldAddr E2789 rfl Try.underlying38 rfl ti3 rfl rfl) rfl fun a2792 E2793 => ?_)
                                  clear E2789
                                  refine wl_cons (wl_val E2793 rfl (rn_ld1 (i := 1) E2793 H rfl Try.underlying3 rfl rfl rfl rfl) rfl fun a2794 E2795 => ?_)
                                  clear E2793
                                  refine wl_cons (wl_val E2795 rfl (rn_int E2795 rfl rfl rfl rfl) rfl fun a2796 E2797 => ?_)
                                  clear E2795
                                  refine wl_cons (wl_val E2797 rfl (rn_move E2797 rfl rfl) rfl fun a2798 E2799 => ?_)
                                  clear E2797
                                  rcases Bool.eq_false_or_eq_true (u2222.Session != 4294967295) with hb2800 | hb2800
                                  · replace h2212 := itT hb2800 h2212
                                    refine wl_cons (wl_val E2799 (E2799.wantedB rfl rfl rfl hb2800) (rn_fieldAddr E2799 rfl Try.underlying38 rfl ti3 rfl rfl) rfl fun a2801 E2802 => ?_)
                                    clear E2799
                                    refine wl_cons (wl_val E2802 (E2802.wantedB rfl rfl rfl hb2800) (rn_ld1 (i := 1) E2802 H rfl Try.underlying3 rfl rfl rfl rfl) rfl fun a2803 E2804 => ?_)
                                    clear E2802
                                    refine wl_cons (wl_val E2804 (E2804.wantedB rfl rfl rfl hb2800) (rn_int E2804 rfl rfl rfl rfl) rfl fun a2805 E2806 => ?_)
                                    clear E2804
                                    refine wl_cons (wl_val E2806 (E2806.wantedB rfl rfl rfl hb2800) (rn_move E2806 rfl rfl) rfl fun a2807 E2808 => ?_)
                                    clear E2806
                                    rcases Bool.eq_false_or_eq_true (decide (u2222.Session < 0)) with hb2809 | hb2809
                                    · replace h2212 := itT hb2809 h2212
                                      refine wl_cons (wl_pass E2808 (E2808.unwanted rfl rfl rfl hb2809) rfl fun a2810 E2811 => ?_)
                                      clear E2808
                                      refine wl_cons (wl_pass E2811 (E2811.unwanted rfl rfl rfl hb2809) rfl fun a2812 E2813 => ?_)
                                      clear E2811
                                      refine wl_cons (wl_pass E2813 (E2813.unwanted rfl rfl rfl hb2809) rfl fun a2814 E2815 => ?_)
                                      clear E2813
                                      refine wl_cons (wl_pass E2815 (E2815.unwanted rfl rfl rfl hb2809) rfl fun a2816 E2817 => ?_)
                                      clear E2815
                                      refine wl_cons (wl_pass E2817 (E2817.unwanted rfl rfl rfl hb2809) rfl fun a2818 E2819 => ?_)
                                      clear E2817
                                      refine wl_cons (wl_val E2819 (E2819.wantedB rfl rfl rfl hb2800) (rn_pickT E2819 rfl rfl hb2809 rfl) rfl fun a2820 E2821 => ?_)
                                      clear E2819
                                      refine wl_cons (wl_val E2821 rfl (rn_pickT E2821 rfl rfl hb2800 rfl) rfl fun a2822 E2823 => ?_)
                                      clear E2821
                                      refine wl_cons (wl_val E2823 rfl (rn_move E2823 rfl rfl) rfl fun a2824 E2825 => ?_)
                                      clear E2823
                                      refine wl_cons (wl_pass E2825 (E2825.unwanted rfl rfl rfl rfl) rfl fun a2826 E2827 => ?_)
                                      clear E2825
                                      refine wl_cons (wl_pass E2827 (E2827.unwanted rfl rfl rfl rfl) rfl fun a2828 E2829 => ?_)
                                      clear E2827
                                      refine wl_cons (wl_pass E2829 (E2829.unwanted rfl rfl rfl rfl) rfl fun a2830 E2831 => ?_)
                                      clear E2829
                                      refine wl_cons (wl_pass E2831 (E2831.unwanted rfl rfl rfl rfl) rfl fun a2832 E2833 => ?_)
                                      clear E2831
                                      refine wl_cons (wl_val E2833 rfl (rn_pickT E2833 rfl rfl rfl rfl) rfl fun a2834 E2835 => ?_)
                                      clear E2833
                                      refine wl_cons (wl_val E2835 rfl (rn_assign E2835 rfl rfl) rfl fun a2836 E2837 => ?_)
                                      clear E2835
                                      refine wl_nil ?_
                                      refine then_normal (hK2791 _ _ ?_)
                                      refine wc_T E2837 rfl rfl ?_
                                      refine wp_seq_k fun _ hK2838 => ?_
                                      refine wp_region_lit ?_
                                      refine wl_cons (wl_val E2837 rfl (rn_assign E2837 rfl rfl) rfl fun a2839 E2840 => ?_)
                                      clear E2837
                                      refine wl_nil ?_
                                      refine then_normal (hK2838 _ _ ?_)
                                      refine wp_ret ?_
                                      obtain rfl := Option.some.inj h2212
                                      try dsimp only at h
                                      refine block_ret (block_ret (then_ret (then_ret (block_ret (then_ret (?_))))))
                                      obtain rfl := Option.some.inj h
                                      refine wb_ret1 E2840 rfl (rv_tmp E2840 rfl) ?_
                                      exact ⟨_, rfl, [], [], ⟨rfl, rfl, rfl⟩, H.leave (fun Z hA => trivial) (fun Z S hA hL => trivial)⟩
                                    · replace h2212 := itF hb2809 h2212
                                      refine wl_cons (wl_val E2808 (E2808.wantedB rfl rfl rfl hb2809) (rn_fieldAddr E2808 rfl Try.underlying38 rfl ti3 rfl rfl) rfl fun a2841 E2842 => ?_)
                                      clear E2808
                                      refine wl_cons (wl_val E2842 (E2842.wantedB rfl rfl rfl hb2809) (rn_ld1 (i := 1) E2842 H rfl Try.underlying3 rfl rfl rfl rfl) rfl fun a2843 E2844 => ?_)
                                      clear E2842
                                      refine wl_cons (wl_val E2844 (E2844.wantedB rfl rfl rfl hb2809) (rn_fieldAddr E2844 rfl Try.underlying28 rfl ti3 rfl rfl) rfl fun a2845 E2846 => ?_)
                                      clear E2844
                                      refine wl_cons (wl_val E2846 (E2846.wantedB rfl rfl rfl hb2809) (rn_ld1 (i := 0) E2846 H rfl Try.underlying3 rfl rfl rfl rfl) rfl fun a2847 E2848 => ?_)
                                      clear E2846
                                      refine wl_cons (wl_val E2848 (E2848.wantedB rfl rfl rfl hb2809) (rn_int E2848 rfl rfl rfl rfl) rfl fun a2849 E2850 => ?_)
                                      clear E2848
                                      refine wl_cons (wl_val E2850 (E2850.wantedB rfl rfl rfl hb2800) (rn_pickF E2850 rfl rfl hb2809 rfl) rfl fun a2851 E2852 => ?_)
                                      clear E2850
                                      refine wl_cons (wl_val E2852 rfl (rn_pickT E2852 rfl rfl hb2800 rfl) rfl fun a2853 E2854 => ?_)
                                      clear E2852
                                      refine wl_cons (wl_val E2854 rfl (rn_move E2854 rfl rfl) rfl fun a2855 E2856 => ?_)
                                      clear E2854
                                      rcases Bool.eq_false_or_eq_true (decide (u2222.Session ≥ a0.NextSession)) with hb2857 | hb2857
                                      · replace h2212 := itT hb2857 h2212
                                        refine wl_cons (wl_pass E2856 (E2856.unwanted rfl rfl rfl hb2857) rfl fun a2858 E2859 => ?_)
                                        clear E2856
                                        refine wl_cons (wl_pass E2859 (E2859.unwanted rfl rfl rfl hb2857) rfl fun a2860 E2861 => ?_)
                                        clear E2859
                                        refine wl_cons (wl_pass E2861 (E2861.unwanted rfl rfl rfl hb2857) rfl fun a2862 E2863 => ?_)
                                        clear E2861
                                        refine wl_cons (wl_pass E2863 (E2863.unwanted rfl rfl rfl hb2857) rfl fun a2864 E2865 => ?_)
                                        clear E2863
                                        refine wl_cons (wl_val E2865 rfl (rn_pickT E2865 rfl rfl hb2857 rfl) rfl fun a2866 E2867 => ?_)
                                        clear E2865
                                        refine wl_cons (wl_val E2867 rfl (rn_assign E2867 rfl rfl) rfl fun a2868 E2869 => ?_)
                                        clear E2867
                                        refine wl_nil ?_
                                        refine then_normal (hK2791 _ _ ?_)
                                        refine wc_T E2869 rfl rfl ?_
                                        refine wp_seq_k fun _ hK2870 => ?_
                                        refine wp_region_lit ?_
                                        refine wl_cons (wl_val E2869 rfl (rn_assign E2869 rfl rfl) rfl fun a2871 E2872 => ?_)
                                        clear E2869
                                        refine wl_nil ?_
                                        refine then_normal (hK2870 _ _ ?_)
                                        refine wp_ret ?_
                                        obtain rfl := Option.some.inj h2212
                                        try dsimp only at h
                                        refine block_ret (block_ret (then_ret (then_ret (block_ret (then_ret (?_))))))
                                        obtain rfl := Option.some.inj h
                                        refine wb_ret1 E2872 rfl (rv_tmp E2872 rfl) ?_
                                        exact ⟨_, rfl, [], [], ⟨rfl, rfl, rfl⟩, H.leave (fun Z hA => trivial) (fun Z S hA hL => trivial)⟩
                                      · replace h2212 := itF hb2857 h2212
                                        refine wl_cons (wl_val E2856 (E2856.wantedB rfl rfl rfl hb2857) (rn_fieldAddr E2856 rfl Try.underlying38 rfl ti36 rfl rfl) rfl fun a2873 E2874 => ?_)
                                        clear E2856
                                        refine wl_cons (wl_val E2874 (E2874.wantedB rfl rfl rfl hb2857) (rn_ld1 (i := 1) E2874 H rfl Try.underlying36 rfl rfl rfl rfl) rfl fun a2875 E2876 => ?_)
                                        clear E2874
                                        obtain ⟨y2877, hy2878, h2212⟩ := bs h2212
                                        refine wl_cons (wl_fun E2876 H (E2876.wantedB rfl rfl rfl hb2857) (rn_call (args := [.slice p2230 u2222.Open.length c2231]) E2876 rfl rfl rfl Try.func44 nm44 rfl) rfl (by exact fun Z hA => ⟨(argHolds_get hA (k := 2) rfl), trivial⟩) (C44 u2222.Open p2230 c2231 _ _ hy2878) ?_)
                                        rintro v_ A_ N_ w2881 a2879 ⟨rfl, rfl, rfl⟩ E2880 H'
                                        replace H := H'; clear H' E2876
                                        replace H : St w Nil Z w2881 [vw (kSlice 38 k_api_Process) a0.Processes [.slice p3 a0.Processes.length c4], vw (kSlice 81 k_api_Descriptor) u356.Open [.slice p369 u356.Open.length c370], vw (kSlice 81 k_api_Descriptor) u2222.Open [.slice p2230 u2222.Open.length c2231], vw (kSlice 38 k_api_Process) (cut a0.Processes 0 x2205) [.slice p2256 ((cut a0.Processes 0 x2205).length) c2257], vw (kSlice 81 k_api_Descriptor) u2294.Open [.slice p2307 u2294.Open.length c2308]] [[blk g6 [.int .i64 a0.Next, .int .i64 a0.NextSession, .slice p3 a0.Processes.length c4] 28], [blk g2234 [.int .i64 u2222.PID, .int .i64 u2222.PPID, .int .i64 u2222.UID, .int .i64 u2222.EUID, .int .i64 u2222.GID, .int .i64 u2222.EGID, .int .i64 u2222.AUID, .int .i64 u2222.Session, .int .i64 u2222.Cwd.Dev, .int .i64 u2222.Cwd.Ino, .string u2222.Comm, .string u2222.Exe, .slice p2230 u2222.Open.length c2231, .bool u2222.Audited] 38], [row 3 (kInt .i64) [u2222.UID, u2222.EUID, u2222.GID, u2222.EGID] (.slice (some ⟨g2753, 0, none⟩) 4 4)], [row 3 (kInt .i64) [u2222.AUID] (.slice (some ⟨g2774, 0, none⟩) 1 1)]] := H
                                        refine wl_cons (wl_val E2880 (E2880.wantedB rfl rfl rfl hb2857) (rn_not E2880 rfl rfl) rfl fun a2882 E2883 => ?_)
                                        clear E2880
                                        refine wl_cons (wl_val E2883 rfl (rn_pickF E2883 rfl rfl hb2857 rfl) rfl fun a2884 E2885 => ?_)
                                        clear E2883
                                        refine wl_cons (wl_val E2885 rfl (rn_assign E2885 rfl rfl) rfl fun a2886 E2887 => ?_)
                                        clear E2885
                                        refine wl_nil ?_
                                        refine then_normal (hK2791 _ _ ?_)
                                        rcases Bool.eq_false_or_eq_true y2877 with hb2888 | hb2888
                                        · replace h2212 := itT hb2888 h2212
                                          refine wc_F E2887 rfl (congrArg Bool.not hb2888) ?_
                                          refine wp_skip ?_
                                          refine block_normal ?_
                                          refine block_normal ?_
                                          refine then_normal (hK2218 _ _ ?_)
                                          refine wp_region_lit ?_
                                          refine wl_cons (wl_val E2887 rfl (rn_int E2887 rfl rfl rfl rfl) rfl fun a2889 E2890 => ?_)
                                          clear E2887
                                          refine wl_cons (wl_val E2890 rfl (rn_move E2890 rfl rfl) rfl fun a2891 E2892 => ?_)
                                          clear E2890
                                          refine wl_nil ?_
                                          replace H : St w Nil Z w2881 [vw (kSlice 38 k_api_Process) a0.Processes [.slice p3 a0.Processes.length c4], vw (kSlice 81 k_api_Descriptor) u356.Open [.slice p369 u356.Open.length c370], vw (kSlice 81 k_api_Descriptor) u2222.Open [.slice p2230 u2222.Open.length c2231], vw (kSlice 38 k_api_Process) (cut a0.Processes 0 x2205) [.slice p2256 ((cut a0.Processes 0 x2205).length) c2257], vw (kSlice 81 k_api_Descriptor) u2294.Open [.slice p2307 u2294.Open.length c2308]] ([[blk g6 [.int .i64 a0.Next, .int .i64 a0.NextSession, .slice p3 a0.Processes.length c4] 28]] ++ [[blk g2234 [.int .i64 u2222.PID, .int .i64 u2222.PPID, .int .i64 u2222.UID, .int .i64 u2222.EUID, .int .i64 u2222.GID, .int .i64 u2222.EGID, .int .i64 u2222.AUID, .int .i64 u2222.Session, .int .i64 u2222.Cwd.Dev, .int .i64 u2222.Cwd.Ino, .string u2222.Comm, .string u2222.Exe, .slice p2230 u2222.Open.length c2231, .bool u2222.Audited] 38], [row 3 (kInt .i64) [u2222.UID, u2222.EUID, u2222.GID, u2222.EGID] (.slice (some ⟨g2753, 0, none⟩) 4 4)], [row 3 (kInt .i64) [u2222.AUID] (.slice (some ⟨g2774, 0, none⟩) 1 1)]]) := H
                                          exact ⟨(IntKind.wrap .i64 (x2205 + 1)), E2892.pick ⟨rfl, rfl, rfl, rfl, rfl, rfl, rfl, rfl, rfl, rfl, rfl, rfl, rfl, rfl, rfl, rfl, rfl, rfl, rfl, rfl, rfl, rfl, rfl, rfl, rfl, rfl, rfl, rfl, rfl, rfl, rfl, rfl, rfl, rfl, rfl, rfl, rfl, rfl, rfl, rfl, rfl, rfl, rfl, rfl, rfl, trivial⟩, H.front.sel (fun Z hA => ⟨(argHolds_get hA (k := 0) rfl), (argHolds_get hA (k := 1) rfl), trivial⟩), h2212⟩
                                        · replace h2212 := itF hb2888 h2212
                                          refine wc_T E2887 rfl (congrArg Bool.not hb2888) ?_
                                          refine wp_seq_k fun _ hK2893 => ?_
                                          refine wp_region_lit ?_
                                          refine wl_cons (wl_val E2887 rfl (rn_assign E2887 rfl rfl) rfl fun a2894 E2895 => ?_)
                                          clear E2887
                                          refine wl_nil ?_
                                          refine then_normal (hK2893 _ _ ?_)
                                          refine wp_ret ?_
                                          obtain rfl := Option.some.inj h2212
                                          try dsimp only at h
                                          refine block_ret (block_ret (then_ret (then_ret (block_ret (then_ret (?_))))))
                                          obtain rfl := Option.some.inj h
                                          refine wb_ret1 E2895 rfl (rv_tmp E2895 rfl) ?_
                                          exact ⟨_, rfl, [], [], ⟨rfl, rfl, rfl⟩, H.leave (fun Z hA => trivial) (fun Z S hA hL => trivial)⟩
                                  · replace h2212 := itF hb2800 h2212
                                    refine wl_cons (wl_pass E2799 (E2799.unwanted rfl rfl rfl hb2800) rfl fun a2896 E2897 => ?_)
                                    clear E2799
                                    refine wl_cons (wl_pass E2897 (E2897.unwanted rfl rfl rfl hb2800) rfl fun a2898 E2899 => ?_)
                                    clear E2897
                                    refine wl_cons (wl_pass E2899 (E2899.unwanted rfl rfl rfl hb2800) rfl fun a2900 E2901 => ?_)
                                    clear E2899
                                    refine wl_cons (wl_pass E2901 (E2901.unwanted rfl rfl rfl hb2800) rfl fun a2902 E2903 => ?_)
                                    clear E2901
                                    refine wl_cons (wl_pass E2903 (E2903.unwanted0 rfl rfl rfl) rfl fun a2904 E2905 => ?_)
                                    clear E2903
                                    refine wl_cons (wl_pass E2905 (E2905.unwanted0 rfl rfl rfl) rfl fun a2906 E2907 => ?_)
                                    clear E2905
                                    refine wl_cons (wl_pass E2907 (E2907.unwanted0 rfl rfl rfl) rfl fun a2908 E2909 => ?_)
                                    clear E2907
                                    refine wl_cons (wl_pass E2909 (E2909.unwanted0 rfl rfl rfl) rfl fun a2910 E2911 => ?_)
                                    clear E2909
                                    refine wl_cons (wl_pass E2911 (E2911.unwanted0 rfl rfl rfl) rfl fun a2912 E2913 => ?_)
                                    clear E2911
                                    refine wl_cons (wl_pass E2913 (E2913.unwanted rfl rfl rfl hb2800) rfl fun a2914 E2915 => ?_)
                                    clear E2913
                                    refine wl_cons (wl_val E2915 rfl (rn_pickF E2915 rfl rfl hb2800 rfl) rfl fun a2916 E2917 => ?_)
                                    clear E2915
                                    refine wl_cons (wl_val E2917 rfl (rn_move E2917 rfl rfl) rfl fun a2918 E2919 => ?_)
                                    clear E2917
                                    refine wl_cons (wl_val E2919 (E2919.wantedB rfl rfl rfl rfl) (rn_fieldAddr E2919 rfl Try.underlying38 rfl ti36 rfl rfl) rfl fun a2920 E2921 => ?_)
                                    clear E2919
                                    refine wl_cons (wl_val E2921 (E2921.wantedB rfl rfl rfl rfl) (rn_ld1 (i := 1) E2921 H rfl Try.underlying36 rfl rfl rfl rfl) rfl fun a2922 E2923 => ?_)
                                    clear E2921
                                    obtain ⟨y2924, hy2925, h2212⟩ := bs h2212
                                    refine wl_cons (wl_fun E2923 H (E2923.wantedB rfl rfl rfl rfl) (rn_call (args := [.slice p2230 u2222.Open.length c2231]) E2923 rfl rfl rfl Try.func44 nm44 rfl) rfl (by exact fun Z hA => ⟨(argHolds_get hA (k := 2) rfl), trivial⟩) (C44 u2222.Open p2230 c2231 _ _ hy2925) ?_)
                                    rintro v_ A_ N_ w2928 a2926 ⟨rfl, rfl, rfl⟩ E2927 H'
                                    replace H := H'; clear H' E2923
                                    replace H : St w Nil Z w2928 [vw (kSlice 38 k_api_Process) a0.Processes [.slice p3 a0.Processes.length c4], vw (kSlice 81 k_api_Descriptor) u356.Open [.slice p369 u356.Open.length c370], vw (kSlice 81 k_api_Descriptor) u2222.Open [.slice p2230 u2222.Open.length c2231], vw (kSlice 38 k_api_Process) (cut a0.Processes 0 x2205) [.slice p2256 ((cut a0.Processes 0 x2205).length) c2257], vw (kSlice 81 k_api_Descriptor) u2294.Open [.slice p2307 u2294.Open.length c2308]] [[blk g6 [.int .i64 a0.Next, .int .i64 a0.NextSession, .slice p3 a0.Processes.length c4] 28], [blk g2234 [.int .i64 u2222.PID, .int .i64 u2222.PPID, .int .i64 u2222.UID, .int .i64 u2222.EUID, .int .i64 u2222.GID, .int .i64 u2222.EGID, .int .i64 u2222.AUID, .int .i64 u2222.Session, .int .i64 u2222.Cwd.Dev, .int .i64 u2222.Cwd.Ino, .string u2222.Comm, .string u2222.Exe, .slice p2230 u2222.Open.length c2231, .bool u2222.Audited] 38], [row 3 (kInt .i64) [u2222.UID, u2222.EUID, u2222.GID, u2222.EGID] (.slice (some ⟨g2753, 0, none⟩) 4 4)], [row 3 (kInt .i64) [u2222.AUID] (.slice (some ⟨g2774, 0, none⟩) 1 1)]] := H
                                    refine wl_cons (wl_val E2927 (E2927.wantedB rfl rfl rfl rfl) (rn_not E2927 rfl rfl) rfl fun a2929 E2930 => ?_)
                                    clear E2927
                                    refine wl_cons (wl_val E2930 rfl (rn_pickF E2930 rfl rfl rfl rfl) rfl fun a2931 E2932 => ?_)
                                    clear E2930
                                    refine wl_cons (wl_val E2932 rfl (rn_assign E2932 rfl rfl) rfl fun a2933 E2934 => ?_)
                                    clear E2932
                                    refine wl_nil ?_
                                    refine then_normal (hK2791 _ _ ?_)
                                    rcases Bool.eq_false_or_eq_true y2924 with hb2935 | hb2935
                                    · replace h2212 := itT hb2935 h2212
                                      refine wc_F E2934 rfl (congrArg Bool.not hb2935) ?_
                                      refine wp_skip ?_
                                      refine block_normal ?_
                                      refine block_normal ?_
                                      refine then_normal (hK2218 _ _ ?_)
                                      refine wp_region_lit ?_
                                      refine wl_cons (wl_val E2934 rfl (rn_int E2934 rfl rfl rfl rfl) rfl fun a2936 E2937 => ?_)
                                      clear E2934
                                      refine wl_cons (wl_val E2937 rfl (rn_move E2937 rfl rfl) rfl fun a2938 E2939 => ?_)
                                      clear E2937
                                      refine wl_nil ?_
                                      replace H : St w Nil Z w2928 [vw (kSlice 38 k_api_Process) a0.Processes [.slice p3 a0.Processes.length c4], vw (kSlice 81 k_api_Descriptor) u356.Open [.slice p369 u356.Open.length c370], vw (kSlice 81 k_api_Descriptor) u2222.Open [.slice p2230 u2222.Open.length c2231], vw (kSlice 38 k_api_Process) (cut a0.Processes 0 x2205) [.slice p2256 ((cut a0.Processes 0 x2205).length) c2257], vw (kSlice 81 k_api_Descriptor) u2294.Open [.slice p2307 u2294.Open.length c2308]] ([[blk g6 [.int .i64 a0.Next, .int .i64 a0.NextSession, .slice p3 a0.Processes.length c4] 28]] ++ [[blk g2234 [.int .i64 u2222.PID, .int .i64 u2222.PPID, .int .i64 u2222.UID, .int .i64 u2222.EUID, .int .i64 u2222.GID, .int .i64 u2222.EGID, .int .i64 u2222.AUID, .int .i64 u2222.Session, .int .i64 u2222.Cwd.Dev, .int .i64 u2222.Cwd.Ino, .string u2222.Comm, .string u2222.Exe, .slice p2230 u2222.Open.length c2231, .bool u2222.Audited] 38], [row 3 (kInt .i64) [u2222.UID, u2222.EUID, u2222.GID, u2222.EGID] (.slice (some ⟨g2753, 0, none⟩) 4 4)], [row 3 (kInt .i64) [u2222.AUID] (.slice (some ⟨g2774, 0, none⟩) 1 1)]]) := H
                                      exact ⟨(IntKind.wrap .i64 (x2205 + 1)), E2939.pick ⟨rfl, rfl, rfl, rfl, rfl, rfl, rfl, rfl, rfl, rfl, rfl, rfl, rfl, rfl, rfl, rfl, rfl, rfl, rfl, rfl, rfl, rfl, rfl, rfl, rfl, rfl, rfl, rfl, rfl, rfl, rfl, rfl, rfl, rfl, rfl, rfl, rfl, rfl, rfl, rfl, rfl, rfl, rfl, rfl, rfl, trivial⟩, H.front.sel (fun Z hA => ⟨(argHolds_get hA (k := 0) rfl), (argHolds_get hA (k := 1) rfl), trivial⟩), h2212⟩
                                    · replace h2212 := itF hb2935 h2212
                                      refine wc_T E2934 rfl (congrArg Bool.not hb2935) ?_
                                      refine wp_seq_k fun _ hK2940 => ?_
                                      refine wp_region_lit ?_
                                      refine wl_cons (wl_val E2934 rfl (rn_assign E2934 rfl rfl) rfl fun a2941 E2942 => ?_)
                                      clear E2934
                                      refine wl_nil ?_
                                      refine then_normal (hK2940 _ _ ?_)
                                      refine wp_ret ?_
                                      obtain rfl := Option.some.inj h2212
                                      try dsimp only at h
                                      refine block_ret (block_ret (then_ret (then_ret (block_ret (then_ret (?_))))))
                                      obtain rfl := Option.some.inj h
                                      refine wb_ret1 E2942 rfl (rv_tmp E2942 rfl) ?_
                                      exact ⟨_, rfl, [], [], ⟨rfl, rfl, rfl⟩, H.leave (fun Z hA => trivial) (fun Z S hA hL => trivial)⟩
                                · replace h2212 := itF hb2790 h2212
                                  refine wc_T E2789 rfl (congrArg Bool.not hb2790) ?_
                                  refine wp_seq_k fun _ hK2943 => ?_
                                  refine wp_region_lit ?_
                                  refine wl_cons (wl_val E2789 rfl (rn_assign E2789 rfl rfl) rfl fun a2944 E2945 => ?_)
                                  clear E2789
                                  refine wl_nil ?_
                                  refine then_normal (hK2943 _ _ ?_)
                                  refine wp_ret ?_
                                  obtain rfl := Option.some.inj h2212
                                  try dsimp only at h
                                  refine block_ret (block_ret (then_ret (then_ret (block_ret (then_ret (?_))))))
                                  obtain rfl := Option.some.inj h
                                  refine wb_ret1 E2945 rfl (rv_tmp E2945 rfl) ?_
                                  exact ⟨_, rfl, [], [], ⟨rfl, rfl, rfl⟩, H.leave (fun Z hA => trivial) (fun Z S hA hL => trivial)⟩
                              · replace h2212 := itF hb2769 h2212
                                refine wl_cons (wl_pass E2768 (E2768.unwanted rfl rfl rfl (congrArg Bool.not hb2769)) rfl fun a2946 E2947 => ?_)
                                clear E2768
                                refine wl_cons (wl_pass E2947 (E2947.unwanted rfl rfl rfl (congrArg Bool.not hb2769)) rfl fun a2948 E2949 => ?_)
                                clear E2947
                                refine wl_cons (wl_pass E2949 (E2949.unwanted rfl rfl rfl (congrArg Bool.not hb2769)) rfl fun a2950 E2951 => ?_)
                                clear E2949
                                refine wl_cons (wl_pass E2951 (E2951.unwanted rfl rfl rfl (congrArg Bool.not hb2769)) rfl fun a2952 E2953 => ?_)
                                clear E2951
                                refine wl_cons (wl_pass E2953 (E2953.unwanted rfl rfl rfl (congrArg Bool.not hb2769)) rfl fun a2954 E2955 => ?_)
                                clear E2953
                                refine wl_cons (wl_val E2955 rfl (rn_pickT E2955 rfl rfl (congrArg Bool.not hb2769) rfl) rfl fun a2956 E2957 => ?_)
                                clear E2955
                                refine wl_cons (wl_val E2957 rfl (rn_assign E2957 rfl rfl) rfl fun a2958 E2959 => ?_)
                                clear E2957
                                refine wl_nil ?_
                                refine then_normal (hK2680 _ _ ?_)
                                refine wc_T E2959 rfl rfl ?_
                                refine wp_seq_k fun _ hK2960 => ?_
                                refine wp_region_lit ?_
                                refine wl_cons (wl_val E2959 rfl (rn_assign E2959 rfl rfl) rfl fun a2961 E2962 => ?_)
                                clear E2959
                                refine wl_nil ?_
                                refine then_normal (hK2960 _ _ ?_)
                                refine wp_ret ?_
                                obtain rfl := Option.some.inj h2212
                                try dsimp only at h
                                refine block_ret (block_ret (then_ret (then_ret (block_ret (then_ret (?_))))))
                                obtain rfl := Option.some.inj h
                                refine wb_ret1 E2962 rfl (rv_tmp E2962 rfl) ?_
                                exact ⟨_, rfl, [], [], ⟨rfl, rfl, rfl⟩, H.leave (fun Z hA => trivial) (fun Z S hA hL => trivial)⟩
                        · replace h2212 := itF hb2361 h2212
                          refine wa_pass (i := 19) E2360 rfl (by kernel_rfl) (panic_then (panic_block (panic_block (panic_then (panic_then (panic_block (panic_then panic_body))))))) (E2360.unwanted rfl rfl rfl (congrArg Bool.not hb2361)) rfl fun a2963 E2964 => ?_
                          clear E2360
                          refine wa_pass (i := 20) E2964 rfl (by kernel_rfl) (panic_then (panic_block (panic_block (panic_then (panic_then (panic_block (panic_then panic_body))))))) (E2964.unwanted rfl rfl rfl (congrArg Bool.not hb2361)) rfl fun a2965 E2966 => ?_
                          clear E2964
                          refine wa_pass (i := 21) E2966 rfl (by kernel_rfl) (panic_then (panic_block (panic_block (panic_then (panic_then (panic_block (panic_then panic_body))))))) (E2966.unwanted rfl rfl rfl (congrArg Bool.not hb2361)) rfl fun a2967 E2968 => ?_
                          clear E2966
                          refine wa_pass (i := 22) E2968 rfl (by kernel_rfl) (panic_then (panic_block (panic_block (panic_then (panic_then (panic_block (panic_then panic_body))))))) (E2968.unwanted0 rfl rfl rfl) rfl fun a2969 E2970 => ?_
                          clear E2968
                          refine wa_pass (i := 23) E2970 rfl (by kernel_rfl) (panic_then (panic_block (panic_block (panic_then (panic_then (panic_block (panic_then panic_body))))))) (E2970.unwanted0 rfl rfl rfl) rfl fun a2971 E2972 => ?_
                          clear E2970
                          refine wa_pass (i := 24) E2972 rfl (by kernel_rfl) (panic_then (panic_block (panic_block (panic_then (panic_then (panic_block (panic_then panic_body))))))) (E2972.unwanted0 rfl rfl rfl) rfl fun a2973 E2974 => ?_
                          clear E2972
                          refine wa_pass (i := 25) E2974 rfl (by kernel_rfl) (panic_then (panic_block (panic_block (panic_then (panic_then (panic_block (panic_then panic_body))))))) (E2974.unwanted rfl rfl rfl (congrArg Bool.not hb2361)) rfl fun a2975 E2976 => ?_
                          clear E2974
                          refine wa_take (i := 26) E2976 rfl (by kernel_rfl) (panic_then (panic_block (panic_block (panic_then (panic_then (panic_block (panic_then panic_body))))))) rfl (fun w_ => rn_pickT E2976 rfl rfl (congrArg Bool.not hb2361) rfl) rfl fun a2977 E2978 => ?_
                          clear E2976
                          refine wa_take (i := 27) E2978 rfl (by kernel_rfl) (panic_then (panic_block (panic_block (panic_then (panic_then (panic_block (panic_then panic_body))))))) rfl (fun w_ => rn_assign E2978 rfl rfl) rfl fun a2979 E2980 => ?_
                          clear E2978
                          refine wa_done (by kernel_rfl) ?_
                          refine then_normal (hK2277 _ _ ?_)
                          refine wc_T E2980 rfl rfl ?_
                          refine wp_seq_k fun _ hK2981 => ?_
                          refine wp_region_lit ?_
                          refine wl_cons (wl_val E2980 rfl (rn_assign E2980 rfl rfl) rfl fun a2982 E2983 => ?_)
                          clear E2980
                          refine wl_nil ?_
                          refine then_normal (hK2981 _ _ ?_)
                          refine wp_ret ?_
                          obtain rfl := Option.some.inj h2212
                          try dsimp only at h
                          refine block_ret (block_ret (then_ret (then_ret (block_ret (then_ret (?_))))))
                          obtain rfl := Option.some.inj h
                          refine wb_ret1 E2983 rfl (rv_tmp E2983 rfl) ?_
                          exact ⟨_, rfl, [], [], ⟨rfl, rfl, rfl⟩, H.leave (fun Z hA => trivial) (fun Z S hA hL => trivial)⟩
                    · replace h2212 := itF hb2285 h2212
                      refine wa_pass (i := 3) E2284 rfl (by kernel_rfl) (panic_then (panic_block (panic_block (panic_then (panic_then (panic_block (panic_then panic_body))))))) (E2284.unwanted rfl rfl rfl hb2285) rfl fun a2984 E2985 => ?_
                      clear E2284
                      refine wa_pass (i := 4) E2985 rfl (by kernel_rfl) (panic_then (panic_block (panic_block (panic_then (panic_then (panic_block (panic_then panic_body))))))) (E2985.unwanted rfl rfl rfl hb2285) rfl fun a2986 E2987 => ?_
                      clear E2985
                      refine wa_pass (i := 5) E2987 rfl (by kernel_rfl) (panic_then (panic_block (panic_block (panic_then (panic_then (panic_block (panic_then panic_body))))))) (E2987.unwanted rfl rfl rfl hb2285) rfl fun a2988 E2989 => ?_
                      clear E2987
                      refine wa_pass (i := 6) E2989 rfl (by kernel_rfl) (panic_then (panic_block (panic_block (panic_then (panic_then (panic_block (panic_then panic_body))))))) (E2989.unwanted rfl rfl rfl hb2285) rfl fun a2990 E2991 => ?_
                      clear E2989
                      refine wa_pass (i := 7) E2991 rfl (by kernel_rfl) (panic_then (panic_block (panic_block (panic_then (panic_then (panic_block (panic_then panic_body))))))) (E2991.unwanted rfl rfl rfl hb2285) rfl fun a2992 E2993 => ?_
                      clear E2991
                      refine wa_pass (i := 8) E2993 rfl (by kernel_rfl) (panic_then (panic_block (panic_block (panic_then (panic_then (panic_block (panic_then panic_body))))))) (E2993.unwanted rfl rfl rfl hb2285) rfl fun a2994 E2995 => ?_
                      clear E2993
                      refine wa_pass (i := 9) E2995 rfl (by kernel_rfl) (panic_then (panic_block (panic_block (panic_then (panic_then (panic_block (panic_then panic_body))))))) (E2995.unwanted rfl rfl rfl hb2285) rfl fun a2996 E2997 => ?_
                      clear E2995
                      refine wa_pass (i := 10) E2997 rfl (by kernel_rfl) (panic_then (panic_block (panic_block (panic_then (panic_then (panic_block (panic_then panic_body))))))) (E2997.unwanted rfl rfl rfl hb2285) rfl fun a2998 E2999 => ?_
                      clear E2997
                      refine wa_pass (i := 11) E2999 rfl (by kernel_rfl) (panic_then (panic_block (panic_block (panic_then (panic_then (panic_block (panic_then panic_body))))))) (E2999.unwanted rfl rfl rfl hb2285) rfl fun a3000 E3001 => ?_
                      clear E2999
                      refine wa_pass (i := 12) E3001 rfl (by kernel_rfl) (panic_then (panic_block (panic_block (panic_then (panic_then (panic_block (panic_then panic_body))))))) (E3001.unwanted rfl rfl rfl hb2285) rfl fun a3002 E3003 => ?_
                      clear E3001
                      refine wa_pass (i := 13) E3003 rfl (by kernel_rfl) (panic_then (panic_block (panic_block (panic_then (panic_then (panic_block (panic_then panic_body))))))) (E3003.unwanted rfl rfl rfl hb2285) rfl fun a3004 E3005 => ?_
                      clear E3003
                      refine wa_pass (i := 14) E3005 rfl (by kernel_rfl) (panic_then (panic_block (panic_block (panic_then (panic_then (panic_block (panic_then panic_body))))))) (E3005.unwanted0 rfl rfl rfl) rfl fun a3006 E3007 => ?_
                      clear E3005
                      refine wa_pass (i := 15) E3007 rfl (by kernel_rfl) (panic_then (panic_block (panic_block (panic_then (panic_then (panic_block (panic_then panic_body))))))) (E3007.unwanted0 rfl rfl rfl) rfl fun a3008 E3009 => ?_
                      clear E3007
                      refine wa_pass (i := 16) E3009 rfl (by kernel_rfl) (panic_then (panic_block (panic_block (panic_then (panic_then (panic_block (panic_then panic_body))))))) (E3009.unwanted rfl rfl rfl hb2285) rfl fun a3010 E3011 => ?_
                      clear E3009
                      refine wa_take (i := 17) E3011 rfl (by kernel_rfl) (panic_then (panic_block (panic_block (panic_then (panic_then (panic_block (panic_then panic_body))))))) rfl (fun w_ => rn_pickF E3011 rfl rfl hb2285 rfl) rfl fun a3012 E3013 => ?_
                      clear E3011
                      refine wa_take (i := 18) E3013 rfl (by kernel_rfl) (panic_then (panic_block (panic_block (panic_then (panic_then (panic_block (panic_then panic_body))))))) rfl (fun w_ => rn_move E3013 rfl rfl) rfl fun a3014 E3015 => ?_
                      clear E3013
                      refine wa_take (i := 19) E3015 rfl (by kernel_rfl) (panic_then (panic_block (panic_block (panic_then (panic_then (panic_block (panic_then panic_body))))))) (E3015.wantedB rfl rfl rfl rfl) (fun w_ => rn_move E3015 rfl rfl) rfl fun a3016 E3017 => ?_
                      clear E3015
                      refine wa_take (i := 20) E3017 rfl (by kernel_rfl) (panic_then (panic_block (panic_block (panic_then (panic_then (panic_block (panic_then panic_body))))))) (E3017.wantedB rfl rfl rfl rfl) (fun w_ => rn_int E3017 rfl rfl rfl rfl) rfl fun a3018 E3019 => ?_
                      clear E3017
                      refine wa_take (i := 21) E3019 rfl (by kernel_rfl) (panic_then (panic_block (panic_block (panic_then (panic_then (panic_block (panic_then panic_body))))))) (E3019.wantedB rfl rfl rfl rfl) (fun w_ => rn_move E3019 rfl rfl) rfl fun a3020 E3021 => ?_
                      clear E3019
                      rcases Bool.eq_false_or_eq_true (x2205 == 0) with hb3022 | hb3022
                      · replace h2212 := itT hb3022 h2212
                        refine wa_take (i := 22) E3021 rfl (by kernel_rfl) (panic_then (panic_block (panic_block (panic_then (panic_then (panic_block (panic_then panic_body))))))) (E3021.wantedB rfl rfl rfl hb3022) (fun w_ => rn_fieldAddr E3021 rfl Try.underlying38 rfl ti3 rfl rfl) rfl fun a3023 E3024 => ?_
                        clear E3021
                        refine wa_takeU (i := 23) E3024 rfl (by kernel_rfl) (by kernel_rfl) (panic_then (panic_block (panic_block (panic_then (panic_then (panic_block (panic_then panic_body))))))) (E3024.wantedB rfl rfl rfl hb3022) (rn_ld1 (i := 1) E3024 H rfl Try.underlying3 rfl rfl rfl rfl) rfl fun a3025 E3026 => ?_
                        clear E3024
                        refine wa_take (i := 24) E3026 rfl (by kernel_rfl) (panic_then (panic_block (panic_block (panic_then (panic_then (panic_block (panic_then panic_body))))))) (E3026.wantedB rfl rfl rfl hb3022) (fun w_ => rn_int E3026 rfl rfl rfl rfl) rfl fun a3027 E3028 => ?_
                        clear E3026
                        refine wa_take (i := 25) E3028 rfl (by kernel_rfl) (panic_then (panic_block (panic_block (panic_then (panic_then (panic_block (panic_then panic_body))))))) (E3028.wantedB rfl rfl rfl rfl) (fun w_ => rn_pickT E3028 rfl rfl hb3022 rfl) rfl fun a3029 E3030 => ?_
                        clear E3028
                        refine wa_take (i := 26) E3030 rfl (by kernel_rfl) (panic_then (panic_block (panic_block (panic_then (panic_then (panic_block (panic_then panic_body))))))) rfl (fun w_ => rn_pickF E3030 rfl rfl rfl rfl) rfl fun a3031 E3032 => ?_
                        clear E3030
                        refine wa_take (i := 27) E3032 rfl (by kernel_rfl) (panic_then (panic_block (panic_block (panic_then (panic_then (panic_block (panic_then panic_body))))))) rfl (fun w_ => rn_assign E3032 rfl rfl) rfl fun a3033 E3034 => ?_
                        clear E3032
                        refine wa_done (by kernel_rfl) ?_
                        refine then_normal (hK2277 _ _ ?_)
                        rcases Bool.eq_false_or_eq_true (u2222.PPID != 0) with hb3035 | hb3035
                        · replace h2212 := itT hb3035 h2212
                          refine wc_T E3034 rfl hb3035 ?_
                          refine wp_seq_k fun _ hK3036 => ?_
                          refine wp_region_lit ?_
                          refine wl_cons (wl_val E3034 rfl (rn_assign E3034 rfl rfl) rfl fun a3037 E3038 => ?_)
                          clear E3034
                          refine wl_nil ?_
                          refine then_normal (hK3036 _ _ ?_)
                          refine wp_ret ?_
                          obtain rfl := Option.some.inj h2212
                          try dsimp only at h
                          refine block_ret (block_ret (then_ret (then_ret (block_ret (then_ret (?_))))))
                          obtain rfl := Option.some.inj h
                          refine wb_ret1 E3038 rfl (rv_tmp E3038 rfl) ?_
                          exact ⟨_, rfl, [], [], ⟨rfl, rfl, rfl⟩, H.leave (fun Z hA => trivial) (fun Z S hA hL => trivial)⟩
                        · replace h2212 := itF hb3035 h2212
                          refine wc_F E3034 rfl hb3035 ?_
                          refine wp_seq_k fun _ hK3039 => ?_
                          refine wp_region_lit ?_
                          refine wl_cons (wl_val E3034 rfl (rn_fieldAddr E3034 rfl Try.underlying38 rfl ti3 rfl rfl) rfl fun a3040 E3041 => ?_)
                          clear E3034
                          refine wl_cons (wl_val E3041 rfl (rn_ld1 (i := 1) E3041 H rfl Try.underlying3 rfl rfl rfl rfl) rfl fun a3042 E3043 => ?_)
                          clear E3041
                          refine wl_cons (wl_val E3043 rfl (rn_fieldAddr E3043 rfl Try.underlying28 rfl ti3 rfl rfl) rfl fun a3044 E3045 => ?_)
                          clear E3043
                          refine wl_cons (wl_val E3045 rfl (rn_ld1 (i := 0) E3045 H rfl Try.underlying3 rfl rfl rfl rfl) rfl fun a3046 E3047 => ?_)
                          clear E3045
                          refine wl_cons (wl_val E3047 rfl (rn_int E3047 rfl rfl rfl rfl) rfl fun a3048 E3049 => ?_)
                          clear E3047
                          refine wl_cons (wl_val E3049 rfl (rn_move E3049 rfl rfl) rfl fun a3050 E3051 => ?_)
                          clear E3049
                          rcases Bool.eq_false_or_eq_true (decide (u2222.PID ≥ a0.Next)) with hb3052 | hb3052
                          · replace h2212 := itT hb3052 h2212
                            refine wl_cons (wl_pass E3051 (E3051.unwanted rfl rfl rfl hb3052) rfl fun a3053 E3054 => ?_)
                            clear E3051
                            refine wl_cons (wl_pass E3054 (E3054.unwanted rfl rfl rfl hb3052) rfl fun a3055 E3056 => ?_)
                            clear E3054
                            refine wl_cons (wl_pass E3056 (E3056.unwanted rfl rfl rfl hb3052) rfl fun a3057 E3058 => ?_)
                            clear E3056
                            refine wl_cons (wl_pass E3058 (E3058.unwanted rfl rfl rfl hb3052) rfl fun a3059 E3060 => ?_)
                            clear E3058
                            refine wl_cons (wl_pass E3060 (E3060.unwanted rfl rfl rfl hb3052) rfl fun a3061 E3062 => ?_)
                            clear E3060
                            refine wl_cons (wl_pass E3062 (E3062.unwanted rfl rfl rfl hb3052) rfl fun a3063 E3064 => ?_)
                            clear E3062
                            refine wl_cons (wl_pass E3064 (E3064.unwanted rfl rfl rfl hb3052) rfl fun a3065 E3066 => ?_)
                            clear E3064
                            refine wl_cons (wl_pass E3066 (E3066.unwanted rfl rfl rfl hb3052) rfl fun a3067 E3068 => ?_)
                            clear E3066
                            refine wl_cons (wl_pass E3068 (E3068.unwanted rfl rfl rfl hb3052) rfl fun a3069 E3070 => ?_)
                            clear E3068
                            refine wl_cons (wl_pass E3070 (E3070.unwanted rfl rfl rfl hb3052) rfl fun a3071 E3072 => ?_)
                            clear E3070
                            refine wl_cons (wl_pass E3072 (E3072.unwanted rfl rfl rfl hb3052) rfl fun a3073 E3074 => ?_)
                            clear E3072
                            refine wl_cons (wl_val E3074 rfl (rn_pickT E3074 rfl rfl hb3052 rfl) rfl fun a3075 E3076 => ?_)
                            clear E3074
                            refine wl_cons (wl_val E3076 rfl (rn_move E3076 rfl rfl) rfl fun a3077 E3078 => ?_)
                            clear E3076
                            refine wl_cons (wl_pass E3078 (E3078.unwanted rfl rfl rfl rfl) rfl fun a3079 E3080 => ?_)
                            clear E3078
                            refine wl_cons (wl_pass E3080 (E3080.unwanted rfl rfl rfl rfl) rfl fun a3081 E3082 => ?_)
                            clear E3080
                            refine wl_cons (wl_pass E3082 (E3082.unwanted rfl rfl rfl rfl) rfl fun a3083 E3084 => ?_)
                            clear E3082
                            refine wl_cons (wl_pass E3084 (E3084.unwanted rfl rfl rfl rfl) rfl fun a3085 E3086 => ?_)
                            clear E3084
                            refine wl_cons (wl_pass E3086 (E3086.unwanted rfl rfl rfl rfl) rfl fun a3087 E3088 => ?_)
                            clear E3086
                            refine wl_cons (wl_val E3088 rfl (rn_pickT E3088 rfl rfl rfl rfl) rfl fun a3089 E3090 => ?_)
                            clear E3088
                            refine wl_cons (wl_val E3090 rfl (rn_assign E3090 rfl rfl) rfl fun a3091 E3092 => ?_)
                            clear E3090
                            refine wl_nil ?_
                            refine then_normal (hK3039 _ _ ?_)
                            refine wc_T E3092 rfl rfl ?_
                            refine wp_seq_k fun _ hK3093 => ?_
                            refine wp_region_lit ?_
                            refine wl_cons (wl_val E3092 rfl (rn_assign E3092 rfl rfl) rfl fun a3094 E3095 => ?_)
                            clear E3092
                            refine wl_nil ?_
                            refine then_normal (hK3093 _ _ ?_)
                            refine wp_ret ?_
                            obtain rfl := Option.some.inj h2212
                            try dsimp only at h
                            refine block_ret (block_ret (then_ret (then_ret (block_ret (then_ret (?_))))))
                            obtain rfl := Option.some.inj h
                            refine wb_ret1 E3095 rfl (rv_tmp E3095 rfl) ?_
                            exact ⟨_, rfl, [], [], ⟨rfl, rfl, rfl⟩, H.leave (fun Z hA => trivial) (fun Z S hA hL => trivial)⟩
                          · replace h2212 := itF hb3052 h2212
                            refine wl_cons (wl_val E3051 (E3051.wantedB rfl rfl rfl hb3052) (rn_fieldAddr E3051 rfl Try.underlying38 rfl ti3 rfl rfl) rfl fun a3096 E3097 => ?_)
                            clear E3051
                            refine wl_cons (wl_val E3097 (E3097.wantedB rfl rfl rfl hb3052) (rn_ld1 (i := 1) E3097 H rfl Try.underlying3 rfl rfl rfl rfl) rfl fun a3098 E3099 => ?_)
                            clear E3097
                            refine wl_cons (wl_val E3099 (E3099.wantedB rfl rfl rfl hb3052) (rn_fieldAddr E3099 rfl Try.underlying38 rfl ti3 rfl rfl) rfl fun a3100 E3101 => ?_)
                            clear E3099
                            refine wl_cons (wl_val E3101 (E3101.wantedB rfl rfl rfl hb3052) (rn_ld1 (i := 1) E3101 H rfl Try.underlying3 rfl rfl rfl rfl) rfl fun a3102 E3103 => ?_)
                            clear E3101
                            refine wl_cons (wl_val E3103 (E3103.wantedB rfl rfl rfl hb3052) (rn_fieldAddr E3103 rfl Try.underlying38 rfl ti3 rfl rfl) rfl fun a3104 E3105 => ?_)
                            clear E3103
                            refine wl_cons (wl_val E3105 (E3105.wantedB rfl rfl rfl hb3052) (rn_ld1 (i := 1) E3105 H rfl Try.underlying3 rfl rfl rfl rfl) rfl fun a3106 E3107 => ?_)
                            clear E3105
                            refine wl_cons (wl_val E3107 (E3107.wantedB rfl rfl rfl hb3052) (rn_fieldAddr E3107 rfl Try.underlying38 rfl ti3 rfl rfl) rfl fun a3108 E3109 => ?_)
                            clear E3107
                            refine wl_cons (wl_val E3109 (E3109.wantedB rfl rfl rfl hb3052) (rn_ld1 (i := 1) E3109 H rfl Try.underlying3 rfl rfl rfl rfl) rfl fun a3110 E3111 => ?_)
                            clear E3109
                            refine wl_cons (wl_buildSlice (ps := [(0, .int .i64 u2222.UID), (1, .int .i64 u2222.EUID), (2, .int .i64 u2222.GID), (3, .int .i64 u2222.EGID)]) (cs := [.int .i64 u2222.UID, .int .i64 u2222.EUID, .int .i64 u2222.GID, .int .i64 u2222.EGID]) E3111 H (E3111.wantedB rfl rfl rfl hb3052) Try.underlying22 ti3 rfl rfl (by kernel_rfl) rfl fun g3112 w3113 a3114 E3115 H' => ?_)
                            clear H E3111; have H := H'; clear H'
                            replace H := H.toRow (i := 2) (K := (kInt .i64)) (xs := [u2222.UID, u2222.EUID, u2222.GID, u2222.EGID]) rfl rfl (fun Z hA => ⟨[.int .i64 u2222.UID], _, rfl, rfl, ⟨[.int .i64 u2222.EUID], _, rfl, rfl, ⟨[.int .i64 u2222.GID], _, rfl, rfl, ⟨[.int .i64 u2222.EGID], _, rfl, rfl, rfl⟩⟩⟩⟩)
                            obtain ⟨y3117, hy3118, h2212⟩ := bs h2212
                            refine wl_cons (wl_funFlat E3115 H (E3115.wantedB rfl rfl rfl hb3052) (rn_call (args := [.int .i64 4294967294, .slice (some ⟨g3112, 0, none⟩) 4 4]) E3115 rfl rfl rfl Try.func39 nm39 rfl) rfl (by exact fun Z S hA hL => ⟨(Holds_row hL (i := 2) rfl), trivial⟩) (C39 4294967294 [u2222.UID, u2222.EUID, u2222.GID, u2222.EGID] (some ⟨g3112, 0, none⟩) 4 _ _ hy3118) C39_flat ?_)
                            rintro v_ A_ N_ w3121 a3119 ⟨rfl, rfl, rfl⟩ E3120 H'
                            replace H := H'; clear H' E3115
                            replace H : St w Nil Z w3121 [vw (kSlice 38 k_api_Process) a0.Processes [.slice p3 a0.Processes.length c4], vw (kSlice 81 k_api_Descriptor) u356.Open [.slice p369 u356.Open.length c370], vw (kSlice 81 k_api_Descriptor) u2222.Open [.slice p2230 u2222.Open.length c2231], vw (kSlice 38 k_api_Process) (cut a0.Processes 0 x2205) [.slice p2256 ((cut a0.Processes 0 x2205).length) c2257]] [[blk g6 [.int .i64 a0.Next, .int .i64 a0.NextSession, .slice p3 a0.Processes.length c4] 28], [blk g2234 [.int .i64 u2222.PID, .int .i64 u2222.PPID, .int .i64 u2222.UID, .int .i64 u2222.EUID, .int .i64 u2222.GID, .int .i64 u2222.EGID, .int .i64 u2222.AUID, .int .i64 u2222.Session, .int .i64 u2222.Cwd.Dev, .int .i64 u2222.Cwd.Ino, .string u2222.Comm, .string u2222.Exe, .slice p2230 u2222.Open.length c2231, .bool u2222.Audited] 38], [row 3 (kInt .i64) [u2222.UID, u2222.EUID, u2222.GID, u2222.EGID] (.slice (some ⟨g3112, 0, none⟩) 4 4)]] := H
                            refine wl_cons (wl_val E3120 (E3120.wantedB rfl rfl rfl hb3052) (rn_not E3120 rfl rfl) rfl fun a3122 E3123 => ?_)
                            clear E3120
                            refine wl_cons (wl_val E3123 rfl (rn_pickF E3123 rfl rfl hb3052 rfl) rfl fun a3124 E3125 => ?_)
                            clear E3123
                            refine wl_cons (wl_val E3125 rfl (rn_move E3125 rfl rfl) rfl fun a3126 E3127 => ?_)
                            clear E3125
                            rcases Bool.eq_false_or_eq_true y3117 with hb3128 | hb3128
                            · replace h2212 := itT hb3128 h2212
                              refine wl_cons (wl_val E3127 (E3127.wantedB rfl rfl rfl (congrArg Bool.not hb3128)) (rn_fieldAddr E3127 rfl Try.underlying38 rfl ti3 rfl rfl) rfl fun a3129 E3130 => ?_)
                              clear E3127
                              refine wl_cons (wl_val E3130 (E3130.wantedB rfl rfl rfl (congrArg Bool.not hb3128)) (rn_ld1 (i := 1) E3130 H rfl Try.underlying3 rfl rfl rfl rfl) rfl fun a3131 E3132 => ?_)
                              clear E3130
                              refine wl_cons (wl_buildSlice (ps := [(0, .int .i64 u2222.AUID)]) (cs := [.int .i64 u2222.AUID]) E3132 H (E3132.wantedB rfl rfl rfl (congrArg Bool.not hb3128)) Try.underlying22 ti3 rfl rfl (by kernel_rfl) rfl fun g3133 w3134 a3135 E3136 H' => ?_)
                              clear H E3132; have H := H'; clear H'
                              replace H := H.toRow (i := 3) (K := (kInt .i64)) (xs := [u2222.AUID]) rfl rfl (fun Z hA => ⟨[.int .i64 u2222.AUID], _, rfl, rfl, rfl⟩)
                              obtain ⟨y3138, hy3139, h2212⟩ := bs h2212
                              refine wl_cons (wl_funFlat E3136 H (E3136.wantedB rfl rfl rfl (congrArg Bool.not hb3128)) (rn_call (args := [.int .i64 4294967295, .slice (some ⟨g3133, 0, none⟩) 1 1]) E3136 rfl rfl rfl Try.func39 nm39 rfl) rfl (by exact fun Z S hA hL => ⟨(Holds_row hL (i := 3) rfl), trivial⟩) (C39 4294967295 [u2222.AUID] (some ⟨g3133, 0, none⟩) 1 _ _ hy3139) C39_flat ?_)
                              rintro v_ A_ N_ w3142 a3140 ⟨rfl, rfl, rfl⟩ E3141 H'
                              replace H := H'; clear H' E3136
                              refine wl_cons (wl_val E3141 (E3141.wantedB rfl rfl rfl (congrArg Bool.not hb3128)) (rn_not E3141 rfl rfl) rfl fun a3143 E3144 => ?_)
                              clear E3141
                              refine wl_cons (wl_val E3144 rfl (rn_pickF E3144 rfl rfl (congrArg Bool.not hb3128) rfl) rfl fun a3145 E3146 => ?_)
                              clear E3144
                              refine wl_cons (wl_val E3146 rfl (rn_assign E3146 rfl rfl) rfl fun a3147 E3148 => ?_)
                              clear E3146
                              refine wl_nil ?_
                              refine then_normal (hK3039 _ _ ?_)
                              rcases Bool.eq_false_or_eq_true y3138 with hb3149 | hb3149
                              · replace h2212 := itT hb3149 h2212
                                refine wc_F E3148 rfl (congrArg Bool.not hb3149) ?_
                                refine wp_seq_k fun _ hK3150 => ?_
                                refine wp_region_lit ?_
                                refine wl_cons (wl_val E3148 rfl (rn_fieldAddr E3148 rfl Try.underlying38 rfl ti3 rfl rfl) rfl fun a3151 E3152 => ?_)
                                clear E3148
                                refine wl_cons (wl_val E3152 rfl (rn_ld1 (i := 1) E3152 H rfl Try.underlying3 rfl rfl rfl rfl) rfl fun a3153 E3154 => ?_)
                                clear E3152
                                refine wl_cons (wl_val E3154 rfl (rn_int E3154 rfl rfl rfl rfl) rfl fun a3155 E3156 => ?_)
                                clear E3154
                                refine wl_cons (wl_val E3156 rfl (rn_move E3156 rfl rfl) rfl fun a3157 E3158 => ?_)
                                clear E3156
                                rcases Bool.eq_false_or_eq_true (u2222.Session != 4294967295) with hb3159 | hb3159
                                · replace h2212 := itT hb3159 h2212
                                  refine wl_cons (wl_val E3158 (E3158.wantedB rfl rfl rfl hb3159) (rn_fieldAddr E3158 rfl Try.underlying38 rfl ti3 rfl rfl) rfl fun a3160 E3161 => ?_)
                                  clear E3158
                                  refine wl_cons (wl_val E3161 (E3161.wantedB rfl rfl rfl hb3159) (rn_ld1 (i := 1) E3161 H rfl Try.underlying3 rfl rfl rfl rfl) rfl fun a3162 E3163 => ?_)
                                  clear E3161
                                  refine wl_cons (wl_val E3163 (E3163.wantedB rfl rfl rfl hb3159) (rn_int E3163 rfl rfl rfl rfl) rfl fun a3164 E3165 => ?_)
                                  clear E3163
                                  refine wl_cons (wl_val E3165 (E3165.wantedB rfl rfl rfl hb3159) (rn_move E3165 rfl rfl) rfl fun a3166 E3167 => ?_)
                                  clear E3165
                                  rcases Bool.eq_false_or_eq_true (decide (u2222.Session < 0)) with hb3168 | hb3168
                                  · replace h2212 := itT hb3168 h2212
                                    refine wl_cons (wl_pass E3167 (E3167.unwanted rfl rfl rfl hb3168) rfl fun a3169 E3170 => ?_)
                                    clear E3167
                                    refine wl_cons (wl_pass E3170 (E3170.unwanted rfl rfl rfl hb3168) rfl fun a3171 E3172 => ?_)
                                    clear E3170
                                    refine wl_cons (wl_pass E3172 (E3172.unwanted rfl rfl rfl hb3168) rfl fun a3173 E3174 => ?_)
                                    clear E3172
                                    refine wl_cons (wl_pass E3174 (E3174.unwanted rfl rfl rfl hb3168) rfl fun a3175 E3176 => ?_)
                                    clear E3174
                                    refine wl_cons (wl_pass E3176 (E3176.unwanted rfl rfl rfl hb3168) rfl fun a3177 E3178 => ?_)
                                    clear E3176
                                    refine wl_cons (wl_val E3178 (E3178.wantedB rfl rfl rfl hb3159) (rn_pickT E3178 rfl rfl hb3168 rfl) rfl fun a3179 E3180 => ?_)
                                    clear E3178
                                    refine wl_cons (wl_val E3180 rfl (rn_pickT E3180 rfl rfl hb3159 rfl) rfl fun a3181 E3182 => ?_)
                                    clear E3180
                                    refine wl_cons (wl_val E3182 rfl (rn_move E3182 rfl rfl) rfl fun a3183 E3184 => ?_)
                                    clear E3182
                                    refine wl_cons (wl_pass E3184 (E3184.unwanted rfl rfl rfl rfl) rfl fun a3185 E3186 => ?_)
                                    clear E3184
                                    refine wl_cons (wl_pass E3186 (E3186.unwanted rfl rfl rfl rfl) rfl fun a3187 E3188 => ?_)
                                    clear E3186
                                    refine wl_cons (wl_pass E3188 (E3188.unwanted rfl rfl rfl rfl) rfl fun a3189 E3190 => ?_)
                                    clear E3188
                                    refine wl_cons (wl_pass E3190 (E3190.unwanted rfl rfl rfl rfl) rfl fun a3191 E3192 => ?_)
                                    clear E3190
                                    refine wl_cons (wl_val E3192 rfl (rn_pickT E3192 rfl rfl rfl rfl) rfl fun a3193 E3194 => ?_)
                                    clear E3192
                                    refine wl_cons (wl_val E3194 rfl (rn_assign E3194 rfl rfl) rfl fun a3195 E3196 => ?_)
                                    clear E3194
                                    refine wl_nil ?_
                                    refine then_normal (hK3150 _ _ ?_)
                                    refine wc_T E3196 rfl rfl ?_
                                    refine wp_seq_k fun _ hK3197 => ?_
                                    refine wp_region_lit ?_
                                    refine wl_cons (wl_val E3196 rfl (rn_assign E3196 rfl rfl) rfl fun a3198 E3199 => ?_)
                                    clear E3196
                                    refine wl_nil ?_
                                    refine then_normal (hK3197 _ _ ?_)
                                    refine wp_ret ?_
                                    obtain rfl := Option.some.inj h2212
                                    try dsimp only at h
                                    refine block_ret (block_ret (then_ret (then_ret (block_ret (then_ret (?_))))))
                                    obtain rfl := Option.some.inj h
                                    refine wb_ret1 E3199 rfl (rv_tmp E3199 rfl) ?_
                                    exact ⟨_, rfl, [], [], ⟨rfl, rfl, rfl⟩, H.leave (fun Z hA => trivial) (fun Z S hA hL => trivial)⟩
                                  · replace h2212 := itF hb3168 h2212
                                    refine wl_cons (wl_val E3167 (E3167.wantedB rfl rfl rfl hb3168) (rn_fieldAddr E3167 rfl Try.underlying38 rfl ti3 rfl rfl) rfl fun a3200 E3201 => ?_)
                                    clear E3167
                                    refine wl_cons (wl_val E3201 (E3201.wantedB rfl rfl rfl hb3168) (rn_ld1 (i := 1) E3201 H rfl Try.underlying3 rfl rfl rfl rfl) rfl fun a3202 E3203 => ?_)
                                    clear E3201
                                    refine wl_cons (wl_val E3203 (E3203.wantedB rfl rfl rfl hb3168) (rn_fieldAddr E3203 rfl Try.underlying28 rfl ti3 rfl rfl) rfl fun a3204 E3205 => ?_)
                                    clear E3203
                                    refine wl_cons (wl_val E3205 (E3205.wantedB rfl rfl rfl hb3168) (rn_ld1 (i := 0) E3205 H rfl Try.underlying3 rfl rfl rfl rfl) rfl fun a3206 E3207 => ?_)
                                    clear E3205
                                    refine wl_cons (wl_val E3207 (E3207.wantedB rfl rfl rfl hb3168) (rn_int E3207 rfl rfl rfl rfl) rfl fun a3208 E3209 => ?_)
                                    clear E3207
                                    refine wl_cons (wl_val E3209 (E3209.wantedB rfl rfl rfl hb3159) (rn_pickF E3209 rfl rfl hb3168 rfl) rfl fun a3210 E3211 => ?_)
                                    clear E3209
                                    refine wl_cons (wl_val E3211 rfl (rn_pickT E3211 rfl rfl hb3159 rfl) rfl fun a3212 E3213 => ?_)
                                    clear E3211
                                    refine wl_cons (wl_val E3213 rfl (rn_move E3213 rfl rfl) rfl fun a3214 E3215 => ?_)
                                    clear E3213
                                    rcases Bool.eq_false_or_eq_true (decide (u2222.Session ≥ a0.NextSession)) with hb3216 | hb3216
                                    · replace h2212 := itT hb3216 h2212
                                      refine wl_cons (wl_pass E3215 (E3215.unwanted rfl rfl rfl hb3216) rfl fun a3217 E3218 => ?_)
                                      clear E3215
                                      refine wl_cons (wl_pass E3218 (E3218.unwanted rfl rfl rfl hb3216) rfl fun a3219 E3220 => ?_)
                                      clear E3218
                                      refine wl_cons (wl_pass E3220 (E3220.unwanted rfl rfl rfl hb3216) rfl fun a3221 E3222 => ?_)
                                      clear E3220
                                      refine wl_cons (wl_pass E3222 (E3222.unwanted rfl rfl rfl hb3216) rfl fun a3223 E3224 => ?_)
                                      clear E3222
                                      refine wl_cons (wl_val E3224 rfl (rn_pickT E3224 rfl rfl hb3216 rfl) rfl fun a3225 E3226 => ?_)
                                      clear E3224
                                      refine wl_cons (wl_val E3226 rfl (rn_assign E3226 rfl rfl) rfl fun a3227 E3228 => ?_)
                                      clear E3226
                                      refine wl_nil ?_
                                      refine then_normal (hK3150 _ _ ?_)
                                      refine wc_T E3228 rfl rfl ?_
                                      refine wp_seq_k fun _ hK3229 => ?_
                                      refine wp_region_lit ?_
                                      refine wl_cons (wl_val E3228 rfl (rn_assign E3228 rfl rfl) rfl fun a3230 E3231 => ?_)
                                      clear E3228
                                      refine wl_nil ?_
                                      refine then_normal (hK3229 _ _ ?_)
                                      refine wp_ret ?_
                                      obtain rfl := Option.some.inj h2212
                                      try dsimp only at h
                                      refine block_ret (block_ret (then_ret (then_ret (block_ret (then_ret (?_))))))
                                      obtain rfl := Option.some.inj h
                                      refine wb_ret1 E3231 rfl (rv_tmp E3231 rfl) ?_
                                      exact ⟨_, rfl, [], [], ⟨rfl, rfl, rfl⟩, H.leave (fun Z hA => trivial) (fun Z S hA hL => trivial)⟩
                                    · replace h2212 := itF hb3216 h2212
                                      refine wl_cons (wl_val E3215 (E3215.wantedB rfl rfl rfl hb3216) (rn_fieldAddr E3215 rfl Try.underlying38 rfl ti36 rfl rfl) rfl fun a3232 E3233 => ?_)
                                      clear E3215
                                      refine wl_cons (wl_val E3233 (E3233.wantedB rfl rfl rfl hb3216) (rn_ld1 (i := 1) E3233 H rfl Try.underlying36 rfl rfl rfl rfl) rfl fun a3234 E3235 => ?_)
                                      clear E3233
                                      obtain ⟨y3236, hy3237, h2212⟩ := bs h2212
                                      refine wl_cons (wl_fun E3235 H (E3235.wantedB rfl rfl rfl hb3216) (rn_call (args := [.slice p2230 u2222.Open.length c2231]) E3235 rfl rfl rfl Try.func44 nm44 rfl) rfl (by exact fun Z hA => ⟨(argHolds_get hA (k := 2) rfl), trivial⟩) (C44 u2222.Open p2230 c2231 _ _ hy3237) ?_)
                                      rintro v_ A_ N_ w3240 a3238 ⟨rfl, rfl, rfl⟩ E3239 H'
                                      replace H := H'; clear H' E3235
                                      replace H : St w Nil Z w3240 [vw (kSlice 38 k_api_Process) a0.Processes [.slice p3 a0.Processes.length c4], vw (kSlice 81 k_api_Descriptor) u356.Open [.slice p369 u356.Open.length c370], vw (kSlice 81 k_api_Descriptor) u2222.Open [.slice p2230 u2222.Open.length c2231], vw (kSlice 38 k_api_Process) (cut a0.Processes 0 x2205) [.slice p2256 ((cut a0.Processes 0 x2205).length) c2257]] [[blk g6 [.int .i64 a0.Next, .int .i64 a0.NextSession, .slice p3 a0.Processes.length c4] 28], [blk g2234 [.int .i64 u2222.PID, .int .i64 u2222.PPID, .int .i64 u2222.UID, .int .i64 u2222.EUID, .int .i64 u2222.GID, .int .i64 u2222.EGID, .int .i64 u2222.AUID, .int .i64 u2222.Session, .int .i64 u2222.Cwd.Dev, .int .i64 u2222.Cwd.Ino, .string u2222.Comm, .string u2222.Exe, .slice p2230 u2222.Open.length c2231, .bool u2222.Audited] 38], [row 3 (kInt .i64) [u2222.UID, u2222.EUID, u2222.GID, u2222.EGID] (.slice (some ⟨g3112, 0, none⟩) 4 4)], [row 3 (kInt .i64) [u2222.AUID] (.slice (some ⟨g3133, 0, none⟩) 1 1)]] := H
                                      refine wl_cons (wl_val E3239 (E3239.wantedB rfl rfl rfl hb3216) (rn_not E3239 rfl rfl) rfl fun a3241 E3242 => ?_)
                                      clear E3239
                                      refine wl_cons (wl_val E3242 rfl (rn_pickF E3242 rfl rfl hb3216 rfl) rfl fun a3243 E3244 => ?_)
                                      clear E3242
                                      refine wl_cons (wl_val E3244 rfl (rn_assign E3244 rfl rfl) rfl fun a3245 E3246 => ?_)
                                      clear E3244
                                      refine wl_nil ?_
                                      refine then_normal (hK3150 _ _ ?_)
                                      rcases Bool.eq_false_or_eq_true y3236 with hb3247 | hb3247
                                      · replace h2212 := itT hb3247 h2212
                                        refine wc_F E3246 rfl (congrArg Bool.not hb3247) ?_
                                        refine wp_skip ?_
                                        refine block_normal ?_
                                        refine block_normal ?_
                                        refine then_normal (hK2218 _ _ ?_)
                                        refine wp_region_lit ?_
                                        refine wl_cons (wl_val E3246 rfl (rn_int E3246 rfl rfl rfl rfl) rfl fun a3248 E3249 => ?_)
                                        clear E3246
                                        refine wl_cons (wl_val E3249 rfl (rn_move E3249 rfl rfl) rfl fun a3250 E3251 => ?_)
                                        clear E3249
                                        refine wl_nil ?_
                                        replace H : St w Nil Z w3240 [vw (kSlice 38 k_api_Process) a0.Processes [.slice p3 a0.Processes.length c4], vw (kSlice 81 k_api_Descriptor) u356.Open [.slice p369 u356.Open.length c370], vw (kSlice 81 k_api_Descriptor) u2222.Open [.slice p2230 u2222.Open.length c2231], vw (kSlice 38 k_api_Process) (cut a0.Processes 0 x2205) [.slice p2256 ((cut a0.Processes 0 x2205).length) c2257]] ([[blk g6 [.int .i64 a0.Next, .int .i64 a0.NextSession, .slice p3 a0.Processes.length c4] 28]] ++ [[blk g2234 [.int .i64 u2222.PID, .int .i64 u2222.PPID, .int .i64 u2222.UID, .int .i64 u2222.EUID, .int .i64 u2222.GID, .int .i64 u2222.EGID, .int .i64 u2222.AUID, .int .i64 u2222.Session, .int .i64 u2222.Cwd.Dev, .int .i64 u2222.Cwd.Ino, .string u2222.Comm, .string u2222.Exe, .slice p2230 u2222.Open.length c2231, .bool u2222.Audited] 38], [row 3 (kInt .i64) [u2222.UID, u2222.EUID, u2222.GID, u2222.EGID] (.slice (some ⟨g3112, 0, none⟩) 4 4)], [row 3 (kInt .i64) [u2222.AUID] (.slice (some ⟨g3133, 0, none⟩) 1 1)]]) := H
                                        exact ⟨(IntKind.wrap .i64 (x2205 + 1)), E3251.pick ⟨rfl, rfl, rfl, rfl, rfl, rfl, rfl, rfl, rfl, rfl, rfl, rfl, rfl, rfl, rfl, rfl, rfl, rfl, rfl, rfl, rfl, rfl, rfl, rfl, rfl, rfl, rfl, rfl, rfl, rfl, rfl, rfl, rfl, rfl, rfl, rfl, rfl, rfl, rfl, rfl, rfl, rfl, rfl, rfl, rfl, trivial⟩, H.front.sel (fun Z hA => ⟨(argHolds_get hA (k := 0) rfl), (argHolds_get hA (k := 1) rfl), trivial⟩), h2212⟩
                                      · replace h2212 := itF hb3247 h2212
                                        refine wc_T E3246 rfl (congrArg Bool.not hb3247) ?_
                                        refine wp_seq_k fun _ hK3252 => ?_
                                        refine wp_region_lit ?_
                                        refine wl_cons (wl_val E3246 rfl (rn_assign E3246 rfl rfl) rfl fun a3253 E3254 => ?_)
                                        clear E3246
                                        refine wl_nil ?_
                                        refine then_normal (hK3252 _ _ ?_)
                                        refine wp_ret ?_
                                        obtain rfl := Option.some.inj h2212
                                        try dsimp only at h
                                        refine block_ret (block_ret (then_ret (then_ret (block_ret (then_ret (?_))))))
                                        obtain rfl := Option.some.inj h
                                        refine wb_ret1 E3254 rfl (rv_tmp E3254 rfl) ?_
                                        exact ⟨_, rfl, [], [], ⟨rfl, rfl, rfl⟩, H.leave (fun Z hA => trivial) (fun Z S hA hL => trivial)⟩
                                · replace h2212 := itF hb3159 h2212
                                  refine wl_cons (wl_pass E3158 (E3158.unwanted rfl rfl rfl hb3159) rfl fun a3255 E3256 => ?_)
                                  clear E3158
                                  refine wl_cons (wl_pass E3256 (E3256.unwanted rfl rfl rfl hb3159) rfl fun a3257 E3258 => ?_)
                                  clear E3256
                                  refine wl_cons (wl_pass E3258 (E3258.unwanted rfl rfl rfl hb3159) rfl fun a3259 E3260 => ?_)
                                  clear E3258
                                  refine wl_cons (wl_pass E3260 (E3260.unwanted rfl rfl rfl hb3159) rfl fun a3261 E3262 => ?_)
                                  clear E3260
                                  refine wl_cons (wl_pass E3262 (E3262.unwanted0 rfl rfl rfl) rfl fun a3263 E3264 => ?_)
                                  clear E3262
                                  refine wl_cons (wl_pass E3264 (E3264.unwanted0 rfl rfl rfl) rfl fun a3265 E3266 => ?_)
                                  clear E3264
                                  refine wl_cons (wl_pass E3266 (E3266.unwanted0 rfl rfl rfl) rfl fun a3267 E3268 => ?_)
                                  clear E3266
                                  refine wl_cons (wl_pass E3268 (E3268.unwanted0 rfl rfl rfl) rfl fun a3269 E3270 => ?_)
                                  clear E3268
                                  refine wl_cons (wl_pass E3270 (E3270.unwanted0 rfl rfl rfl) rfl fun a3271 E3272 => ?_)
                                  clear E3270
                                  refine wl_cons (wl_pass E3272 (E3272.unwanted rfl rfl rfl hb3159) rfl fun a3273 E3274 => ?_)
                                  clear E3272
                                  refine wl_cons (wl_val E3274 rfl (rn_pickF E3274 rfl rfl hb3159 rfl) rfl fun a3275 E3276 => ?_)
                                  clear E3274
                                  refine wl_cons (wl_val E3276 rfl (rn_move E3276 rfl rfl) rfl fun a3277 E3278 => ?_)
                                  clear E3276
                                  refine wl_cons (wl_val E3278 (E3278.wantedB rfl rfl rfl rfl) (rn_fieldAddr E3278 rfl Try.underlying38 rfl ti36 rfl rfl) rfl fun a3279 E3280 => ?_)
                                  clear E3278
                                  refine wl_cons (wl_val E3280 (E3280.wantedB rfl rfl rfl rfl) (rn_ld1 (i := 1) E3280 H rfl Try.underlying36 rfl rfl rfl rfl) rfl fun a3281 E3282 => ?_)
                                  clear E3280
                                  obtain ⟨y3283, hy3284, h2212⟩ := bs h2212
                                  refine wl_cons (wl_fun E3282 H (E3282.wantedB rfl rfl rfl rfl) (rn_call (args := [.slice p2230 u2222.Open.length c2231]) E3282 rfl rfl rfl Try.func44 nm44 rfl) rfl (by exact fun Z hA => ⟨(argHolds_get hA (k := 2) rfl), trivial⟩) (C44 u2222.Open p2230 c2231 _ _ hy3284) ?_)
                                  rintro v_ A_ N_ w3287 a3285 ⟨rfl, rfl, rfl⟩ E3286 H'
                                  replace H := H'; clear H' E3282
                                  replace H : St w Nil Z w3287 [vw (kSlice 38 k_api_Process) a0.Processes [.slice p3 a0.Processes.length c4], vw (kSlice 81 k_api_Descriptor) u356.Open [.slice p369 u356.Open.length c370], vw (kSlice 81 k_api_Descriptor) u2222.Open [.slice p2230 u2222.Open.length c2231], vw (kSlice 38 k_api_Process) (cut a0.Processes 0 x2205) [.slice p2256 ((cut a0.Processes 0 x2205).length) c2257]] [[blk g6 [.int .i64 a0.Next, .int .i64 a0.NextSession, .slice p3 a0.Processes.length c4] 28], [blk g2234 [.int .i64 u2222.PID, .int .i64 u2222.PPID, .int .i64 u2222.UID, .int .i64 u2222.EUID, .int .i64 u2222.GID, .int .i64 u2222.EGID, .int .i64 u2222.AUID, .int .i64 u2222.Session, .int .i64 u2222.Cwd.Dev, .int .i64 u2222.Cwd.Ino, .string u2222.Comm, .string u2222.Exe, .slice p2230 u2222.Open.length c2231, .bool u2222.Audited] 38], [row 3 (kInt .i64) [u2222.UID, u2222.EUID, u2222.GID, u2222.EGID] (.slice (some ⟨g3112, 0, none⟩) 4 4)], [row 3 (kInt .i64) [u2222.AUID] (.slice (some ⟨g3133, 0, none⟩) 1 1)]] := H
                                  refine wl_cons (wl_val E3286 (E3286.wantedB rfl rfl rfl rfl) (rn_not E3286 rfl rfl) rfl fun a3288 E3289 => ?_)
                                  clear E3286
                                  refine wl_cons (wl_val E3289 rfl (rn_pickF E3289 rfl rfl rfl rfl) rfl fun a3290 E3291 => ?_)
                                  clear E3289
                                  refine wl_cons (wl_val E3291 rfl (rn_assign E3291 rfl rfl) rfl fun a3292 E3293 => ?_)
                                  clear E3291
                                  refine wl_nil ?_
                                  refine then_normal (hK3150 _ _ ?_)
                                  rcases Bool.eq_false_or_eq_true y3283 with hb3294 | hb3294
                                  · replace h2212 := itT hb3294 h2212
                                    refine wc_F E3293 rfl (congrArg Bool.not hb3294) ?_
                                    refine wp_skip ?_
                                    refine block_normal ?_
                                    refine block_normal ?_
                                    refine then_normal (hK2218 _ _ ?_)
                                    refine wp_region_lit ?_
                                    refine wl_cons (wl_val E3293 rfl (rn_int E3293 rfl rfl rfl rfl) rfl fun a3295 E3296 => ?_)
                                    clear E3293
                                    refine wl_cons (wl_val E3296 rfl (rn_move E3296 rfl rfl) rfl fun a3297 E3298 => ?_)
                                    clear E3296
                                    refine wl_nil ?_
                                    replace H : St w Nil Z w3287 [vw (kSlice 38 k_api_Process) a0.Processes [.slice p3 a0.Processes.length c4], vw (kSlice 81 k_api_Descriptor) u356.Open [.slice p369 u356.Open.length c370], vw (kSlice 81 k_api_Descriptor) u2222.Open [.slice p2230 u2222.Open.length c2231], vw (kSlice 38 k_api_Process) (cut a0.Processes 0 x2205) [.slice p2256 ((cut a0.Processes 0 x2205).length) c2257]] ([[blk g6 [.int .i64 a0.Next, .int .i64 a0.NextSession, .slice p3 a0.Processes.length c4] 28]] ++ [[blk g2234 [.int .i64 u2222.PID, .int .i64 u2222.PPID, .int .i64 u2222.UID, .int .i64 u2222.EUID, .int .i64 u2222.GID, .int .i64 u2222.EGID, .int .i64 u2222.AUID, .int .i64 u2222.Session, .int .i64 u2222.Cwd.Dev, .int .i64 u2222.Cwd.Ino, .string u2222.Comm, .string u2222.Exe, .slice p2230 u2222.Open.length c2231, .bool u2222.Audited] 38], [row 3 (kInt .i64) [u2222.UID, u2222.EUID, u2222.GID, u2222.EGID] (.slice (some ⟨g3112, 0, none⟩) 4 4)], [row 3 (kInt .i64) [u2222.AUID] (.slice (some ⟨g3133, 0, none⟩) 1 1)]]) := H
                                    exact ⟨(IntKind.wrap .i64 (x2205 + 1)), E3298.pick ⟨rfl, rfl, rfl, rfl, rfl, rfl, rfl, rfl, rfl, rfl, rfl, rfl, rfl, rfl, rfl, rfl, rfl, rfl, rfl, rfl, rfl, rfl, rfl, rfl, rfl, rfl, rfl, rfl, rfl, rfl, rfl, rfl, rfl, rfl, rfl, rfl, rfl, rfl, rfl, rfl, rfl, rfl, rfl, rfl, rfl, trivial⟩, H.front.sel (fun Z hA => ⟨(argHolds_get hA (k := 0) rfl), (argHolds_get hA (k := 1) rfl), trivial⟩), h2212⟩
                                  · replace h2212 := itF hb3294 h2212
                                    refine wc_T E3293 rfl (congrArg Bool.not hb3294) ?_
                                    refine wp_seq_k fun _ hK3299 => ?_
                                    refine wp_region_lit ?_
                                    refine wl_cons (wl_val E3293 rfl (rn_assign E3293 rfl rfl) rfl fun a3300 E3301 => ?_)
                                    clear E3293
                                    refine wl_nil ?_
                                    refine then_normal (hK3299 _ _ ?_)
                                    refine wp_ret ?_
                                    obtain rfl := Option.some.inj h2212
                                    try dsimp only at h
                                    refine block_ret (block_ret (then_ret (then_ret (block_ret (then_ret (?_))))))
                                    obtain rfl := Option.some.inj h
                                    refine wb_ret1 E3301 rfl (rv_tmp E3301 rfl) ?_
                                    exact ⟨_, rfl, [], [], ⟨rfl, rfl, rfl⟩, H.leave (fun Z hA => trivial) (fun Z S hA hL => trivial)⟩
                              · replace h2212 := itF hb3149 h2212
                                refine wc_T E3148 rfl (congrArg Bool.not hb3149) ?_
                                refine wp_seq_k fun _ hK3302 => ?_
                                refine wp_region_lit ?_
                                refine wl_cons (wl_val E3148 rfl (rn_assign E3148 rfl rfl) rfl fun a3303 E3304 => ?_)
                                clear E3148
                                refine wl_nil ?_
                                refine then_normal (hK3302 _ _ ?_)
                                refine wp_ret ?_
                                obtain rfl := Option.some.inj h2212
                                try dsimp only at h
                                refine block_ret (block_ret (then_ret (then_ret (block_ret (then_ret (?_))))))
                                obtain rfl := Option.some.inj h
                                refine wb_ret1 E3304 rfl (rv_tmp E3304 rfl) ?_
                                exact ⟨_, rfl, [], [], ⟨rfl, rfl, rfl⟩, H.leave (fun Z hA => trivial) (fun Z S hA hL => trivial)⟩
                            · replace h2212 := itF hb3128 h2212
                              refine wl_cons (wl_pass E3127 (E3127.unwanted rfl rfl rfl (congrArg Bool.not hb3128)) rfl fun a3305 E3306 => ?_)
                              clear E3127
                              refine wl_cons (wl_pass E3306 (E3306.unwanted rfl rfl rfl (congrArg Bool.not hb3128)) rfl fun a3307 E3308 => ?_)
                              clear E3306
                              refine wl_cons (wl_pass E3308 (E3308.unwanted rfl rfl rfl (congrArg Bool.not hb3128)) rfl fun a3309 E3310 => ?_)
                              clear E3308
                              refine wl_cons (wl_pass E3310 (E3310.unwanted rfl rfl rfl (congrArg Bool.not hb3128)) rfl fun a3311 E3312 => ?_)
                              clear E3310
                              refine wl_cons (wl_pass E3312 (E3312.unwanted rfl rfl rfl (congrArg Bool.not hb3128)) rfl fun a3313 E3314 => ?_)
                              clear E3312
                              refine wl_cons (wl_val E3314 rfl (rn_pickT E3314 rfl rfl (congrArg Bool.not hb3128) rfl) rfl fun a3315 E3316 => ?_)
                              clear E3314
                              refine wl_cons (wl_val E3316 rfl (rn_assign E3316 rfl rfl) rfl fun a3317 E3318 => ?_)
                              clear E3316
                              refine wl_nil ?_
                              refine then_normal (hK3039 _ _ ?_)
                              refine wc_T E3318 rfl rfl ?_
                              refine wp_seq_k fun _ hK3319 => ?_
                              refine wp_region_lit ?_
                              refine wl_cons (wl_val E3318 rfl (rn_assign E3318 rfl rfl) rfl fun a3320 E3321 => ?_)
                              clear E3318
                              refine wl_nil ?_
                              refine then_normal (hK3319 _ _ ?_)
                              refine wp_ret ?_
                              obtain rfl := Option.some.inj h2212
                              try dsimp only at h
                              refine block_ret (block_ret (then_ret (then_ret (block_ret (then_ret (?_))))))
                              obtain rfl := Option.some.inj h
                              refine wb_ret1 E3321 rfl (rv_tmp E3321 rfl) ?_
                              exact ⟨_, rfl, [], [], ⟨rfl, rfl, rfl⟩, H.leave (fun Z hA => trivial) (fun Z S hA hL => trivial)⟩
                      · replace h2212 := itF hb3022 h2212
                        refine wa_pass (i := 22) E3021 rfl (by kernel_rfl) (panic_then (panic_block (panic_block (panic_then (panic_then (panic_block (panic_then panic_body))))))) (E3021.unwanted rfl rfl rfl hb3022) rfl fun a3322 E3323 => ?_
                        clear E3021
                        refine wa_pass (i := 23) E3323 rfl (by kernel_rfl) (panic_then (panic_block (panic_block (panic_then (panic_then (panic_block (panic_then panic_body))))))) (E3323.unwanted rfl rfl rfl hb3022) rfl fun a3324 E3325 => ?_
                        clear E3323
                        refine wa_pass (i := 24) E3325 rfl (by kernel_rfl) (panic_then (panic_block (panic_block (panic_then (panic_then (panic_block (panic_then panic_body))))))) (E3325.unwanted rfl rfl rfl hb3022) rfl fun a3326 E3327 => ?_
                        clear E3325
                        refine wa_take (i := 25) E3327 rfl (by kernel_rfl) (panic_then (panic_block (panic_block (panic_then (panic_then (panic_block (panic_then panic_body))))))) (E3327.wantedB rfl rfl rfl rfl) (fun w_ => rn_pickF E3327 rfl rfl hb3022 rfl) rfl fun a3328 E3329 => ?_
                        clear E3327
                        refine wa_take (i := 26) E3329 rfl (by kernel_rfl) (panic_then (panic_block (panic_block (panic_then (panic_then (panic_block (panic_then panic_body))))))) rfl (fun w_ => rn_pickF E3329 rfl rfl rfl rfl) rfl fun a3330 E3331 => ?_
                        clear E3329
                        refine wa_take (i := 27) E3331 rfl (by kernel_rfl) (panic_then (panic_block (panic_block (panic_then (panic_then (panic_block (panic_then panic_body))))))) rfl (fun w_ => rn_assign E3331 rfl rfl) rfl fun a3332 E3333 => ?_
                        clear E3331
                        refine wa_done (by kernel_rfl) ?_
                        refine then_normal (hK2277 _ _ ?_)
                        refine wc_F E3333 rfl rfl ?_
                        refine wp_seq_k fun _ hK3334 => ?_
                        refine wp_region_lit ?_
                        refine wl_cons (wl_val E3333 rfl (rn_fieldAddr E3333 rfl Try.underlying38 rfl ti3 rfl rfl) rfl fun a3335 E3336 => ?_)
                        clear E3333
                        refine wl_cons (wl_val E3336 rfl (rn_ld1 (i := 1) E3336 H rfl Try.underlying3 rfl rfl rfl rfl) rfl fun a3337 E3338 => ?_)
                        clear E3336
                        refine wl_cons (wl_val E3338 rfl (rn_fieldAddr E3338 rfl Try.underlying28 rfl ti3 rfl rfl) rfl fun a3339 E3340 => ?_)
                        clear E3338
                        refine wl_cons (wl_val E3340 rfl (rn_ld1 (i := 0) E3340 H rfl Try.underlying3 rfl rfl rfl rfl) rfl fun a3341 E3342 => ?_)
                        clear E3340
                        refine wl_cons (wl_val E3342 rfl (rn_int E3342 rfl rfl rfl rfl) rfl fun a3343 E3344 => ?_)
                        clear E3342
                        refine wl_cons (wl_val E3344 rfl (rn_move E3344 rfl rfl) rfl fun a3345 E3346 => ?_)
                        clear E3344
                        rcases Bool.eq_false_or_eq_true (decide (u2222.PID ≥ a0.Next)) with hb3347 | hb3347
                        · replace h2212 := itT hb3347 h2212
                          refine wl_cons (wl_pass E3346 (E3346.unwanted rfl rfl rfl hb3347) rfl fun a3348 E3349 => ?_)
                          clear E3346
                          refine wl_cons (wl_pass E3349 (E3349.unwanted rfl rfl rfl hb3347) rfl fun a3350 E3351 => ?_)
                          clear E3349
                          refine wl_cons (wl_pass E3351 (E3351.unwanted rfl rfl rfl hb3347) rfl fun a3352 E3353 => ?_)
                          clear E3351
                          refine wl_cons (wl_pass E3353 (E3353.unwanted rfl rfl rfl hb3347) rfl fun a3354 E3355 => ?_)
                          clear E3353
                          refine wl_cons (wl_pass E3355 (E3355.unwanted rfl rfl rfl hb3347) rfl fun a3356 E3357 => ?_)
                          clear E3355
                          refine wl_cons (wl_pass E3357 (E3357.unwanted rfl rfl rfl hb3347) rfl fun a3358 E3359 => ?_)
                          clear E3357
                          refine wl_cons (wl_pass E3359 (E3359.unwanted rfl rfl rfl hb3347) rfl fun a3360 E3361 => ?_)
                          clear E3359
                          refine wl_cons (wl_pass E3361 (E3361.unwanted rfl rfl rfl hb3347) rfl fun a3362 E3363 => ?_)
                          clear E3361
                          refine wl_cons (wl_pass E3363 (E3363.unwanted rfl rfl rfl hb3347) rfl fun a3364 E3365 => ?_)
                          clear E3363
                          refine wl_cons (wl_pass E3365 (E3365.unwanted rfl rfl rfl hb3347) rfl fun a3366 E3367 => ?_)
                          clear E3365
                          refine wl_cons (wl_pass E3367 (E3367.unwanted rfl rfl rfl hb3347) rfl fun a3368 E3369 => ?_)
                          clear E3367
                          refine wl_cons (wl_val E3369 rfl (rn_pickT E3369 rfl rfl hb3347 rfl) rfl fun a3370 E3371 => ?_)
                          clear E3369
                          refine wl_cons (wl_val E3371 rfl (rn_move E3371 rfl rfl) rfl fun a3372 E3373 => ?_)
                          clear E3371
                          refine wl_cons (wl_pass E3373 (E3373.unwanted rfl rfl rfl rfl) rfl fun a3374 E3375 => ?_)
                          clear E3373
                          refine wl_cons (wl_pass E3375 (E3375.unwanted rfl rfl rfl rfl) rfl fun a3376 E3377 => ?_)
                          clear E3375
                          refine wl_cons (wl_pass E3377 (E3377.unwanted rfl rfl rfl rfl) rfl fun a3378 E3379 => ?_)
                          clear E3377
                          refine wl_cons (wl_pass E3379 (E3379.unwanted rfl rfl rfl rfl) rfl fun a3380 E3381 => ?_)
                          clear E3379
                          refine wl_cons (wl_pass E3381 (E3381.unwanted rfl rfl rfl rfl) rfl fun a3382 E3383 => ?_)
                          clear E3381
                          refine wl_cons (wl_val E3383 rfl (rn_pickT E3383 rfl rfl rfl rfl) rfl fun a3384 E3385 => ?_)
                          clear E3383
                          refine wl_cons (wl_val E3385 rfl (rn_assign E3385 rfl rfl) rfl fun a3386 E3387 => ?_)
                          clear E3385
                          refine wl_nil ?_
                          refine then_normal (hK3334 _ _ ?_)
                          refine wc_T E3387 rfl rfl ?_
                          refine wp_seq_k fun _ hK3388 => ?_
                          refine wp_region_lit ?_
                          refine wl_cons (wl_val E3387 rfl (rn_assign E3387 rfl rfl) rfl fun a3389 E3390 => ?_)
                          clear E3387
                          refine wl_nil ?_
                          refine then_normal (hK3388 _ _ ?_)
                          refine wp_ret ?_
                          obtain rfl := Option.some.inj h2212
                          try dsimp only at h
                          refine block_ret (block_ret (then_ret (then_ret (block_ret (then_ret (?_))))))
                          obtain rfl := Option.some.inj h
                          refine wb_ret1 E3390 rfl (rv_tmp E3390 rfl) ?_
                          exact ⟨_, rfl, [], [], ⟨rfl, rfl, rfl⟩, H.leave (fun Z hA => trivial) (fun Z S hA hL => trivial)⟩
                        · replace h2212 := itF hb3347 h2212
                          refine wl_cons (wl_val E3346 (E3346.wantedB rfl rfl rfl hb3347) (rn_fieldAddr E3346 rfl Try.underlying38 rfl ti3 rfl rfl) rfl fun a3391 E3392 => ?_)
                          clear E3346
                          refine wl_cons (wl_val E3392 (E3392.wantedB rfl rfl rfl hb3347) (rn_ld1 (i := 1) E3392 H rfl Try.underlying3 rfl rfl rfl rfl) rfl fun a3393 E3394 => ?_)
                          clear E3392
                          refine wl_cons (wl_val E3394 (E3394.wantedB rfl rfl rfl hb3347) (rn_fieldAddr E3394 rfl Try.underlying38 rfl ti3 rfl rfl) rfl fun a3395 E3396 => ?_)
                          clear E3394
                          refine wl_cons (wl_val E3396 (E3396.wantedB rfl rfl rfl hb3347) (rn_ld1 (i := 1) E3396 H rfl Try.underlying3 rfl rfl rfl rfl) rfl fun a3397 E3398 => ?_)
                          clear E3396
                          refine wl_cons (wl_val E3398 (E3398.wantedB rfl rfl rfl hb3347) (rn_fieldAddr E3398 rfl Try.underlying38 rfl ti3 rfl rfl) rfl fun a3399 E3400 => ?_)
                          clear E3398
                          refine wl_cons (wl_val E3400 (E3400.wantedB rfl rfl rfl hb3347) (rn_ld1 (i := 1) E3400 H rfl Try.underlying3 rfl rfl rfl rfl) rfl fun a3401 E3402 => ?_)
                          clear E3400
                          refine wl_cons (wl_val E3402 (E3402.wantedB rfl rfl rfl hb3347) (rn_fieldAddr E3402 rfl Try.underlying38 rfl ti3 rfl rfl) rfl fun a3403 E3404 => ?_)
                          clear E3402
                          refine wl_cons (wl_val E3404 (E3404.wantedB rfl rfl rfl hb3347) (rn_ld1 (i := 1) E3404 H rfl Try.underlying3 rfl rfl rfl rfl) rfl fun a3405 E3406 => ?_)
                          clear E3404
                          refine wl_cons (wl_buildSlice (ps := [(0, .int .i64 u2222.UID), (1, .int .i64 u2222.EUID), (2, .int .i64 u2222.GID), (3, .int .i64 u2222.EGID)]) (cs := [.int .i64 u2222.UID, .int .i64 u2222.EUID, .int .i64 u2222.GID, .int .i64 u2222.EGID]) E3406 H (E3406.wantedB rfl rfl rfl hb3347) Try.underlying22 ti3 rfl rfl (by kernel_rfl) rfl fun g3407 w3408 a3409 E3410 H' => ?_)
                          clear H E3406; have H := H'; clear H'
                          replace H := H.toRow (i := 2) (K := (kInt .i64)) (xs := [u2222.UID, u2222.EUID, u2222.GID, u2222.EGID]) rfl rfl (fun Z hA => ⟨[.int .i64 u2222.UID], _, rfl, rfl, ⟨[.int .i64 u2222.EUID], _, rfl, rfl, ⟨[.int .i64 u2222.GID], _, rfl, rfl, ⟨[.int .i64 u2222.EGID], _, rfl, rfl, rfl⟩⟩⟩⟩)
                          obtain ⟨y3412, hy3413, h2212⟩ := bs h2212
                          refine wl_cons (wl_funFlat E3410 H (E3410.wantedB rfl rfl rfl hb3347) (rn_call (args := [.int .i64 4294967294, .slice (some ⟨g3407, 0, none⟩) 4 4]) E3410 rfl rfl rfl Try.func39 nm39 rfl) rfl (by exact fun Z S hA hL => ⟨(Holds_row hL (i := 2) rfl), trivial⟩) (C39 4294967294 [u2222.UID, u2222.EUID, u2222.GID, u2222.EGID] (some ⟨g3407, 0, none⟩) 4 _ _ hy3413) C39_flat ?_)
                          rintro v_ A_ N_ w3416 a3414 ⟨rfl, rfl, rfl⟩ E3415 H'
                          replace H := H'; clear H' E3410
                          replace H : St w Nil Z w3416 [vw (kSlice 38 k_api_Process) a0.Processes [.slice p3 a0.Processes.length c4], vw (kSlice 81 k_api_Descriptor) u356.Open [.slice p369 u356.Open.length c370], vw (kSlice 81 k_api_Descriptor) u2222.Open [.slice p2230 u2222.Open.length c2231], vw (kSlice 38 k_api_Process) (cut a0.Processes 0 x2205) [.slice p2256 ((cut a0.Processes 0 x2205).length) c2257]] [[blk g6 [.int .i64 a0.Next, .int .i64 a0.NextSession, .slice p3 a0.Processes.length c4] 28], [blk g2234 [.int .i64 u2222.PID, .int .i64 u2222.PPID, .int .i64 u2222.UID, .int .i64 u2222.EUID, .int .i64 u2222.GID, .int .i64 u2222.EGID, .int .i64 u2222.AUID, .int .i64 u2222.Session, .int .i64 u2222.Cwd.Dev, .int .i64 u2222.Cwd.Ino, .string u2222.Comm, .string u2222.Exe, .slice p2230 u2222.Open.length c2231, .bool u2222.Audited] 38], [row 3 (kInt .i64) [u2222.UID, u2222.EUID, u2222.GID, u2222.EGID] (.slice (some ⟨g3407, 0, none⟩) 4 4)]] := H
                          refine wl_cons (wl_val E3415 (E3415.wantedB rfl rfl rfl hb3347) (rn_not E3415 rfl rfl) rfl fun a3417 E3418 => ?_)
                          clear E3415
                          refine wl_cons (wl_val E3418 rfl (rn_pickF E3418 rfl rfl hb3347 rfl) rfl fun a3419 E3420 => ?_)
                          clear E3418
                          refine wl_cons (wl_val E3420 rfl (rn_move E3420 rfl rfl) rfl fun a3421 E3422 => ?_)
                          clear E3420
                          rcases Bool.eq_false_or_eq_true y3412 with hb3423 | hb3423
                          · replace h2212 := itT hb3423 h2212
                            refine wl_cons (wl_val E3422 (E3422.wantedB rfl rfl rfl (congrArg Bool.not hb3423)) (rn_fieldAddr E3422 rfl Try.underlying38 rfl ti3 rfl rfl) rfl fun a3424 E3425 => ?_)
                            clear E3422
                            refine wl_cons (wl_val E3425 (E3425.wantedB rfl rfl rfl (congrArg Bool.not hb3423)) (rn_ld1 (i := 1) E3425 H rfl Try.underlying3 rfl rfl rfl rfl) rfl fun a3426 E3427 => ?_)
                            clear E3425
                            refine wl_cons (wl_buildSlice (ps := [(0, .int .i64 u2222.AUID)]) (cs := [.int .i64 u2222.AUID]) E3427 H (E3427.wantedB rfl rfl rfl (congrArg Bool.not hb3423)) Try.underlying22 ti3 rfl rfl (by kernel_rfl) rfl fun g3428 w3429 a3430 E3431 H' => ?_)
                            clear H E3427; have H := H'; clear H'
                            replace H := H.toRow (i := 3) (K := (kInt .i64)) (xs := [u2222.AUID]) rfl rfl (fun Z hA => ⟨[.int .i64 u2222.AUID], _, rfl, rfl, rfl⟩)
                            obtain ⟨y3433, hy3434, h2212⟩ := bs h2212
                            refine wl_cons (wl_funFlat E3431 H (E3431.wantedB rfl rfl rfl (congrArg Bool.not hb3423)) (rn_call (args := [.int .i64 4294967295, .slice (some ⟨g3428, 0, none⟩) 1 1]) E3431 rfl rfl rfl Try.func39 nm39 rfl) rfl (by exact fun Z S hA hL => ⟨(Holds_row hL (i := 3) rfl), trivial⟩) (C39 4294967295 [u2222.AUID] (some ⟨g3428, 0, none⟩) 1 _ _ hy3434) C39_flat ?_)
                            rintro v_ A_ N_ w3437 a3435 ⟨rfl, rfl, rfl⟩ E3436 H'
                            replace H := H'; clear H' E3431
                            refine wl_cons (wl_val E3436 (E3436.wantedB rfl rfl rfl (congrArg Bool.not hb3423)) (rn_not E3436 rfl rfl) rfl fun a3438 E3439 => ?_)
                            clear E3436
                            refine wl_cons (wl_val E3439 rfl (rn_pickF E3439 rfl rfl (congrArg Bool.not hb3423) rfl) rfl fun a3440 E3441 => ?_)
                            clear E3439
                            refine wl_cons (wl_val E3441 rfl (rn_assign E3441 rfl rfl) rfl fun a3442 E3443 => ?_)
                            clear E3441
                            refine wl_nil ?_
                            refine then_normal (hK3334 _ _ ?_)
                            rcases Bool.eq_false_or_eq_true y3433 with hb3444 | hb3444
                            · replace h2212 := itT hb3444 h2212
                              refine wc_F E3443 rfl (congrArg Bool.not hb3444) ?_
                              refine wp_seq_k fun _ hK3445 => ?_
                              refine wp_region_lit ?_
                              refine wl_cons (wl_val E3443 rfl (rn_fieldAddr E3443 rfl Try.underlying38 rfl ti3 rfl rfl) rfl fun a3446 E3447 => ?_)
                              clear E3443
                              refine wl_cons (wl_val E3447 rfl (rn_ld1 (i := 1) E3447 H rfl Try.underlying3 rfl rfl rfl rfl) rfl fun a3448 E3449 => ?_)
                              clear E3447
                              refine wl_cons (wl_val E3449 rfl (rn_int E3449 rfl rfl rfl rfl) rfl fun a3450 E3451 => ?_)
                              clear E3449
                              refine wl_cons (wl_val E3451 rfl (rn_move E3451 rfl rfl) rfl fun a3452 E3453 => ?_)
                              clear E3451
                              rcases Bool.eq_false_or_eq_true (u2222.Session != 4294967295) with hb3454 | hb3454
                              · replace h2212 := itT hb3454 h2212
                                refine wl_cons (wl_val E3453 (E3453.wantedB rfl rfl rfl hb3454) (rn_fieldAddr E3453 rfl Try.underlying38 rfl ti3 rfl rfl) rfl fun a3455 E3456 => ?_)
                                clear E3453
                                refine wl_cons (wl_val E3456 (E3456.wantedB rfl rfl rfl hb3454) (rn_ld1 (i := 1) E3456 H rfl Try.underlying3 rfl rfl rfl rfl) rfl fun a3457 E3458 => ?_)
                                clear E3456
                                refine wl_cons (wl_val E3458 (E3458.wantedB rfl rfl rfl hb3454) (rn_int E3458 rfl rfl rfl rfl) rfl fun a3459 E3460 => ?_)
                                clear E3458
                                refine wl_cons (wl_val E3460 (E3460.wantedB rfl rfl rfl hb3454) (rn_move E3460 rfl rfl) rfl fun a3461 E3462 => ?_)
                                clear E3460
                                rcases Bool.eq_false_or_eq_true (decide (u2222.Session < 0)) with hb3463 | hb3463
                                · replace h2212 := itT hb3463 h2212
                                  refine wl_cons (wl_pass E3462 (E3462.unwanted rfl rfl rfl hb3463) rfl fun a3464 E3465 => ?_)
                                  clear E3462
                                  refine wl_cons (wl_pass E3465 (E3465.unwanted rfl rfl rfl hb3463) rfl fun a3466 E3467 => ?_)
                                  clear E3465
                                  refine wl_cons (wl_pass E3467 (E3467.unwanted rfl rfl rfl hb3463) rfl fun a3468 E3469 => ?_)
                                  clear E3467
                                  refine wl_cons (wl_pass E3469 (E3469.unwanted rfl rfl rfl hb3463) rfl fun a3470 E3471 => ?_)
                                  clear E3469
                                  refine wl_cons (wl_pass E3471 (E3471.unwanted rfl rfl rfl hb3463) rfl fun a3472 E3473 => ?_)
                                  clear E3471
                                  refine wl_cons (wl_val E3473 (E3473.wantedB rfl rfl rfl hb3454) (rn_pickT E3473 rfl rfl hb3463 rfl) rfl fun a3474 E3475 => ?_)
                                  clear E3473
                                  refine wl_cons (wl_val E3475 rfl (rn_pickT E3475 rfl rfl hb3454 rfl) rfl fun a3476 E3477 => ?_)
                                  clear E3475
                                  refine wl_cons (wl_val E3477 rfl (rn_move E3477 rfl rfl) rfl fun a3478 E3479 => ?_)
                                  clear E3477
                                  refine wl_cons (wl_pass E3479 (E3479.unwanted rfl rfl rfl rfl) rfl fun a3480 E3481 => ?_)
                                  clear E3479
                                  refine wl_cons (wl_pass E3481 (E3481.unwanted rfl rfl rfl rfl) rfl fun a3482 E3483 => ?_)
                                  clear E3481
                                  refine wl_cons (wl_pass E3483 (E3483.unwanted rfl rfl rfl rfl) rfl fun a3484 E3485 => ?_)
                                  clear E3483
                                  refine wl_cons (wl_pass E3485 (E3485.unwanted rfl rfl rfl rfl) rfl fun a3486 E3487 => ?_)
                                  clear E3485
                                  refine wl_cons (wl_val E3487 rfl (rn_pickT E3487 rfl rfl rfl rfl) rfl fun a3488 E3489 => ?_)
                                  clear E3487
                                  refine wl_cons (wl_val E3489 rfl (rn_assign E3489 rfl rfl) rfl fun a3490 E3491 => ?_)
                                  clear E3489
                                  refine wl_nil ?_
                                  refine then_normal (hK3445 _ _ ?_)
                                  refine wc_T E3491 rfl rfl ?_
                                  refine wp_seq_k fun _ hK3492 => ?_
                                  refine wp_region_lit ?_
                                  refine wl_cons (wl_val E3491 rfl (rn_assign E3491 rfl rfl) rfl fun a3493 E3494 => ?_)
                                  clear E3491
                                  refine wl_nil ?_
                                  refine then_normal (hK3492 _ _ ?_)
                                  refine wp_ret ?_
                                  obtain rfl := Option.some.inj h2212
                                  try dsimp only at h
                                  refine block_ret (block_ret (then_ret (then_ret (block_ret (then_ret (?_))))))
                                  obtain rfl := Option.some.inj h
                                  refine wb_ret1 E3494 rfl (rv_tmp E3494 rfl) ?_
                                  exact ⟨_, rfl, [], [], ⟨rfl, rfl, rfl⟩, H.leave (fun Z hA => trivial) (fun Z S hA hL => trivial)⟩
                                · replace h2212 := itF hb3463 h2212
                                  refine wl_cons (wl_val E3462 (E3462.wantedB rfl rfl rfl hb3463) (rn_fieldAddr E3462 rfl Try.underlying38 rfl ti3 rfl rfl) rfl fun a3495 E3496 => ?_)
                                  clear E3462
                                  refine wl_cons (wl_val E3496 (E3496.wantedB rfl rfl rfl hb3463) (rn_ld1 (i := 1) E3496 H rfl Try.underlying3 rfl rfl rfl rfl) rfl fun a3497 E3498 => ?_)
                                  clear E3496
                                  refine wl_cons (wl_val E3498 (E3498.wantedB rfl rfl rfl hb3463) (rn_fieldAddr E3498 rfl Try.underlying28 rfl ti3 rfl rfl) rfl fun a3499 E3500 => ?_)
                                  clear E3498
                                  refine wl_cons (wl_val E3500 (E3500.wantedB rfl rfl rfl hb3463) (rn_ld1 (i := 0) E3500 H rfl Try.underlying3 rfl rfl rfl rfl) rfl fun a3501 E3502 => ?_)
                                  clear E3500
                                  refine wl_cons (wl_val E3502 (E3502.wantedB rfl rfl rfl hb3463) (rn_int E3502 rfl rfl rfl rfl) rfl fun a3503 E3504 => ?_)
                                  clear E3502
                                  refine wl_cons (wl_val E3504 (E3504.wantedB rfl rfl rfl hb3454) (rn_pickF E3504 rfl rfl hb3463 rfl) rfl fun a3505 E3506 => ?_)
                                  clear E3504
                                  refine wl_cons (wl_val E3506 rfl (rn_pickT E3506 rfl rfl hb3454 rfl) rfl fun a3507 E3508 => ?_)
                                  clear E3506
                                  refine wl_cons (wl_val E3508 rfl (rn_move E3508 rfl rfl) rfl fun a3509 E3510 => ?_)
                                  clear E3508
                                  rcases Bool.eq_false_or_eq_true (decide (u2222.Session ≥ a0.NextSession)) with hb3511 | hb3511
                                  · replace h2212 := itT hb3511 h2212
                                    refine wl_cons (wl_pass E3510 (E3510.unwanted rfl rfl rfl hb3511) rfl fun a3512 E3513 => ?_)
                                    clear E3510
                                    refine wl_cons (wl_pass E3513 (E3513.unwanted rfl rfl rfl hb3511) rfl fun a3514 E3515 => ?_)
                                    clear E3513
                                    refine wl_cons (wl_pass E3515 (E3515.unwanted rfl rfl rfl hb3511) rfl fun a3516 E3517 => ?_)
                                    clear E3515
                                    refine wl_cons (wl_pass E3517 (E3517.unwanted rfl rfl rfl hb3511) rfl fun a3518 E3519 => ?_)
                                    clear E3517
                                    refine wl_cons (wl_val E3519 rfl (rn_pickT E3519 rfl rfl hb3511 rfl) rfl fun a3520 E3521 => ?_)
                                    clear E3519
                                    refine wl_cons (wl_val E3521 rfl (rn_assign E3521 rfl rfl) rfl fun a3522 E3523 => ?_)
                                    clear E3521
                                    refine wl_nil ?_
                                    refine then_normal (hK3445 _ _ ?_)
                                    refine wc_T E3523 rfl rfl ?_
                                    refine wp_seq_k fun _ hK3524 => ?_
                                    refine wp_region_lit ?_
                                    refine wl_cons (wl_val E3523 rfl (rn_assign E3523 rfl rfl) rfl fun a3525 E3526 => ?_)
                                    clear E3523
                                    refine wl_nil ?_
                                    refine then_normal (hK3524 _ _ ?_)
                                    refine wp_ret ?_
                                    obtain rfl := Option.some.inj h2212
                                    try dsimp only at h
                                    refine block_ret (block_ret (then_ret (then_ret (block_ret (then_ret (?_))))))
                                    obtain rfl := Option.some.inj h
                                    refine wb_ret1 E3526 rfl (rv_tmp E3526 rfl) ?_
                                    exact ⟨_, rfl, [], [], ⟨rfl, rfl, rfl⟩, H.leave (fun Z hA => trivial) (fun Z S hA hL => trivial)⟩
                                  · replace h2212 := itF hb3511 h2212
                                    refine wl_cons (wl_val E3510 (E3510.wantedB rfl rfl rfl hb3511) (rn_fieldAddr E3510 rfl Try.underlying38 rfl ti36 rfl rfl) rfl fun a3527 E3528 => ?_)
                                    clear E3510
                                    refine wl_cons (wl_val E3528 (E3528.wantedB rfl rfl rfl hb3511) (rn_ld1 (i := 1) E3528 H rfl Try.underlying36 rfl rfl rfl rfl) rfl fun a3529 E3530 => ?_)
                                    clear E3528
                                    obtain ⟨y3531, hy3532, h2212⟩ := bs h2212
                                    refine wl_cons (wl_fun E3530 H (E3530.wantedB rfl rfl rfl hb3511) (rn_call (args := [.slice p2230 u2222.Open.length c2231]) E3530 rfl rfl rfl Try.func44 nm44 rfl) rfl (by exact fun Z hA => ⟨(argHolds_get hA (k := 2) rfl), trivial⟩) (C44 u2222.Open p2230 c2231 _ _ hy3532) ?_)
                                    rintro v_ A_ N_ w3535 a3533 ⟨rfl, rfl, rfl⟩ E3534 H'
                                    replace H := H'; clear H' E3530
                                    replace H : St w Nil Z w3535 [vw (kSlice 38 k_api_Process) a0.Processes [.slice p3 a0.Processes.length c4], vw (kSlice 81 k_api_Descriptor) u356.Open [.slice p369 u356.Open.length c370], vw (kSlice 81 k_api_Descriptor) u2222.Open [.slice p2230 u2222.Open.length c2231], vw (kSlice 38 k_api_Process) (cut a0.Processes 0 x2205) [.slice p2256 ((cut a0.Processes 0 x2205).length) c2257]] [[blk g6 [.int .i64 a0.Next, .int .i64 a0.NextSession, .slice p3 a0.Processes.length c4] 28], [blk g2234 [.int .i64 u2222.PID, .int .i64 u2222.PPID, .int .i64 u2222.UID, .int .i64 u2222.EUID, .int .i64 u2222.GID, .int .i64 u2222.EGID, .int .i64 u2222.AUID, .int .i64 u2222.Session, .int .i64 u2222.Cwd.Dev, .int .i64 u2222.Cwd.Ino, .string u2222.Comm, .string u2222.Exe, .slice p2230 u2222.Open.length c2231, .bool u2222.Audited] 38], [row 3 (kInt .i64) [u2222.UID, u2222.EUID, u2222.GID, u2222.EGID] (.slice (some ⟨g3407, 0, none⟩) 4 4)], [row 3 (kInt .i64) [u2222.AUID] (.slice (some ⟨g3428, 0, none⟩) 1 1)]] := H
                                    refine wl_cons (wl_val E3534 (E3534.wantedB rfl rfl rfl hb3511) (rn_not E3534 rfl rfl) rfl fun a3536 E3537 => ?_)
                                    clear E3534
                                    refine wl_cons (wl_val E3537 rfl (rn_pickF E3537 rfl rfl hb3511 rfl) rfl fun a3538 E3539 => ?_)
                                    clear E3537
                                    refine wl_cons (wl_val E3539 rfl (rn_assign E3539 rfl rfl) rfl fun a3540 E3541 => ?_)
                                    clear E3539
                                    refine wl_nil ?_
                                    refine then_normal (hK3445 _ _ ?_)
                                    rcases Bool.eq_false_or_eq_true y3531 with hb3542 | hb3542
                                    · replace h2212 := itT hb3542 h2212
                                      refine wc_F E3541 rfl (congrArg Bool.not hb3542) ?_
                                      refine wp_skip ?_
                                      refine block_normal ?_
                                      refine block_normal ?_
                                      refine then_normal (hK2218 _ _ ?_)
                                      refine wp_region_lit ?_
                                      refine wl_cons (wl_val E3541 rfl (rn_int E3541 rfl rfl rfl rfl) rfl fun a3543 E3544 => ?_)
                                      clear E3541
                                      refine wl_cons (wl_val E3544 rfl (rn_move E3544 rfl rfl) rfl fun a3545 E3546 => ?_)
                                      clear E3544
                                      refine wl_nil ?_
                                      replace H : St w Nil Z w3535 [vw (kSlice 38 k_api_Process) a0.Processes [.slice p3 a0.Processes.length c4], vw (kSlice 81 k_api_Descriptor) u356.Open [.slice p369 u356.Open.length c370], vw (kSlice 81 k_api_Descriptor) u2222.Open [.slice p2230 u2222.Open.length c2231], vw (kSlice 38 k_api_Process) (cut a0.Processes 0 x2205) [.slice p2256 ((cut a0.Processes 0 x2205).length) c2257]] ([[blk g6 [.int .i64 a0.Next, .int .i64 a0.NextSession, .slice p3 a0.Processes.length c4] 28]] ++ [[blk g2234 [.int .i64 u2222.PID, .int .i64 u2222.PPID, .int .i64 u2222.UID, .int .i64 u2222.EUID, .int .i64 u2222.GID, .int .i64 u2222.EGID, .int .i64 u2222.AUID, .int .i64 u2222.Session, .int .i64 u2222.Cwd.Dev, .int .i64 u2222.Cwd.Ino, .string u2222.Comm, .string u2222.Exe, .slice p2230 u2222.Open.length c2231, .bool u2222.Audited] 38], [row 3 (kInt .i64) [u2222.UID, u2222.EUID, u2222.GID, u2222.EGID] (.slice (some ⟨g3407, 0, none⟩) 4 4)], [row 3 (kInt .i64) [u2222.AUID] (.slice (some ⟨g3428, 0, none⟩) 1 1)]]) := H
                                      exact ⟨(IntKind.wrap .i64 (x2205 + 1)), E3546.pick ⟨rfl, rfl, rfl, rfl, rfl, rfl, rfl, rfl, rfl, rfl, rfl, rfl, rfl, rfl, rfl, rfl, rfl, rfl, rfl, rfl, rfl, rfl, rfl, rfl, rfl, rfl, rfl, rfl, rfl, rfl, rfl, rfl, rfl, rfl, rfl, rfl, rfl, rfl, rfl, rfl, rfl, rfl, rfl, rfl, rfl, trivial⟩, H.front.sel (fun Z hA => ⟨(argHolds_get hA (k := 0) rfl), (argHolds_get hA (k := 1) rfl), trivial⟩), h2212⟩
                                    · replace h2212 := itF hb3542 h2212
                                      refine wc_T E3541 rfl (congrArg Bool.not hb3542) ?_
                                      refine wp_seq_k fun _ hK3547 => ?_
                                      refine wp_region_lit ?_
                                      refine wl_cons (wl_val E3541 rfl (rn_assign E3541 rfl rfl) rfl fun a3548 E3549 => ?_)
                                      clear E3541
                                      refine wl_nil ?_
                                      refine then_normal (hK3547 _ _ ?_)
                                      refine wp_ret ?_
                                      obtain rfl := Option.some.inj h2212
                                      try dsimp only at h
                                      refine block_ret (block_ret (then_ret (then_ret (block_ret (then_ret (?_))))))
                                      obtain rfl := Option.some.inj h
                                      refine wb_ret1 E3549 rfl (rv_tmp E3549 rfl) ?_
                                      exact ⟨_, rfl, [], [], ⟨rfl, rfl, rfl⟩, H.leave (fun Z hA => trivial) (fun Z S hA hL => trivial)⟩
                              · replace h2212 := itF hb3454 h2212
                                refine wl_cons (wl_pass E3453 (E3453.unwanted rfl rfl rfl hb3454) rfl fun a3550 E3551 => ?_)
                                clear E3453
                                refine wl_cons (wl_pass E3551 (E3551.unwanted rfl rfl rfl hb3454) rfl fun a3552 E3553 => ?_)
                                clear E3551
                                refine wl_cons (wl_pass E3553 (E3553.unwanted rfl rfl rfl hb3454) rfl fun a3554 E3555 => ?_)
                                clear E3553
                                refine wl_cons (wl_pass E3555 (E3555.unwanted rfl rfl rfl hb3454) rfl fun a3556 E3557 => ?_)
                                clear E3555
                                refine wl_cons (wl_pass E3557 (E3557.unwanted0 rfl rfl rfl) rfl fun a3558 E3559 => ?_)
                                clear E3557
                                refine wl_cons (wl_pass E3559 (E3559.unwanted0 rfl rfl rfl) rfl fun a3560 E3561 => ?_)
                                clear E3559
                                refine wl_cons (wl_pass E3561 (E3561.unwanted0 rfl rfl rfl) rfl fun a3562 E3563 => ?_)
                                clear E3561
                                refine wl_cons (wl_pass E3563 (E3563.unwanted0 rfl rfl rfl) rfl fun a3564 E3565 => ?_)
                                clear E3563
                                refine wl_cons (wl_pass E3565 (E3565.unwanted0 rfl rfl rfl) rfl fun a3566 E3567 => ?_)
                                clear E3565
                                refine wl_cons (wl_pass E3567 (E3567.unwanted rfl rfl rfl hb3454) rfl fun a3568 E3569 => ?_)
                                clear E3567
                                refine wl_cons (wl_val E3569 rfl (rn_pickF E3569 rfl rfl hb3454 rfl) rfl fun a3570 E3571 => ?_)
                                clear E3569
                                refine wl_cons (wl_val E3571 rfl (rn_move E3571 rfl rfl) rfl fun a3572 E3573 => ?_)
                                clear E3571
                                refine wl_cons (wl_val E3573 (E3573.wantedB rfl rfl rfl rfl) (rn_fieldAddr E3573 rfl Try.underlying38 rfl ti36 rfl rfl) rfl fun a3574 E3575 => ?_)
                                clear E3573
                                refine wl_cons (wl_val E3575 (E3575.wantedB rfl rfl rfl rfl) (rn_ld1 (i := 1) E3575 H rfl Try.underlying36 rfl rfl rfl rfl) rfl fun a3576 E3577 => ?_)
                                clear E3575
                                obtain ⟨y3578, hy3579, h2212⟩ := bs h2212
                                refine wl_cons (wl_fun E3577 H (E3577.wantedB rfl rfl rfl rfl) (rn_call (args := [.slice p2230 u2222.Open.length c2231]) E3577 rfl rfl rfl Try.func44 nm44 rfl) rfl (by exact fun Z hA => ⟨(argHolds_get hA (k := 2) rfl), trivial⟩) (C44 u2222.Open p2230 c2231 _ _ hy3579) ?_)
                                rintro v_ A_ N_ w3582 a3580 ⟨rfl, rfl, rfl⟩ E3581 H'
                                replace H := H'; clear H' E3577
                                replace H : St w Nil Z w3582 [vw (kSlice 38 k_api_Process) a0.Processes [.slice p3 a0.Processes.length c4], vw (kSlice 81 k_api_Descriptor) u356.Open [.slice p369 u356.Open.length c370], vw (kSlice 81 k_api_Descriptor) u2222.Open [.slice p2230 u2222.Open.length c2231], vw (kSlice 38 k_api_Process) (cut a0.Processes 0 x2205) [.slice p2256 ((cut a0.Processes 0 x2205).length) c2257]] [[blk g6 [.int .i64 a0.Next, .int .i64 a0.NextSession, .slice p3 a0.Processes.length c4] 28], [blk g2234 [.int .i64 u2222.PID, .int .i64 u2222.PPID, .int .i64 u2222.UID, .int .i64 u2222.EUID, .int .i64 u2222.GID, .int .i64 u2222.EGID, .int .i64 u2222.AUID, .int .i64 u2222.Session, .int .i64 u2222.Cwd.Dev, .int .i64 u2222.Cwd.Ino, .string u2222.Comm, .string u2222.Exe, .slice p2230 u2222.Open.length c2231, .bool u2222.Audited] 38], [row 3 (kInt .i64) [u2222.UID, u2222.EUID, u2222.GID, u2222.EGID] (.slice (some ⟨g3407, 0, none⟩) 4 4)], [row 3 (kInt .i64) [u2222.AUID] (.slice (some ⟨g3428, 0, none⟩) 1 1)]] := H
                                refine wl_cons (wl_val E3581 (E3581.wantedB rfl rfl rfl rfl) (rn_not E3581 rfl rfl) rfl fun a3583 E3584 => ?_)
                                clear E3581
                                refine wl_cons (wl_val E3584 rfl (rn_pickF E3584 rfl rfl rfl rfl) rfl fun a3585 E3586 => ?_)
                                clear E3584
                                refine wl_cons (wl_val E3586 rfl (rn_assign E3586 rfl rfl) rfl fun a3587 E3588 => ?_)
                                clear E3586
                                refine wl_nil ?_
                                refine then_normal (hK3445 _ _ ?_)
                                rcases Bool.eq_false_or_eq_true y3578 with hb3589 | hb3589
                                · replace h2212 := itT hb3589 h2212
                                  refine wc_F E3588 rfl (congrArg Bool.not hb3589) ?_
                                  refine wp_skip ?_
                                  refine block_normal ?_
                                  refine block_normal ?_
                                  refine then_normal (hK2218 _ _ ?_)
                                  refine wp_region_lit ?_
                                  refine wl_cons (wl_val E3588 rfl (rn_int E3588 rfl rfl rfl rfl) rfl fun a3590 E3591 => ?_)
                                  clear E3588
                                  refine wl_cons (wl_val E3591 rfl (rn_move E3591 rfl rfl) rfl fun a3592 E3593 => ?_)
                                  clear E3591
                                  refine wl_nil ?_
                                  replace H : St w Nil Z w3582 [vw (kSlice 38 k_api_Process) a0.Processes [.slice p3 a0.Processes.length c4], vw (kSlice 81 k_api_Descriptor) u356.Open [.slice p369 u356.Open.length c370], vw (kSlice 81 k_api_Descriptor) u2222.Open [.slice p2230 u2222.Open.length c2231], vw (kSlice 38 k_api_Process) (cut a0.Processes 0 x2205) [.slice p2256 ((cut a0.Processes 0 x2205).length) c2257]] ([[blk g6 [.int .i64 a0.Next, .int .i64 a0.NextSession, .slice p3 a0.Processes.length c4] 28]] ++ [[blk g2234 [.int .i64 u2222.PID, .int .i64 u2222.PPID, .int .i64 u2222.UID, .int .i64 u2222.EUID, .int .i64 u2222.GID, .int .i64 u2222.EGID, .int .i64 u2222.AUID, .int .i64 u2222.Session, .int .i64 u2222.Cwd.Dev, .int .i64 u2222.Cwd.Ino, .string u2222.Comm, .string u2222.Exe, .slice p2230 u2222.Open.length c2231, .bool u2222.Audited] 38], [row 3 (kInt .i64) [u2222.UID, u2222.EUID, u2222.GID, u2222.EGID] (.slice (some ⟨g3407, 0, none⟩) 4 4)], [row 3 (kInt .i64) [u2222.AUID] (.slice (some ⟨g3428, 0, none⟩) 1 1)]]) := H
                                  exact ⟨(IntKind.wrap .i64 (x2205 + 1)), E3593.pick ⟨rfl, rfl, rfl, rfl, rfl, rfl, rfl, rfl, rfl, rfl, rfl, rfl, rfl, rfl, rfl, rfl, rfl, rfl, rfl, rfl, rfl, rfl, rfl, rfl, rfl, rfl, rfl, rfl, rfl, rfl, rfl, rfl, rfl, rfl, rfl, rfl, rfl, rfl, rfl, rfl, rfl, rfl, rfl, rfl, rfl, trivial⟩, H.front.sel (fun Z hA => ⟨(argHolds_get hA (k := 0) rfl), (argHolds_get hA (k := 1) rfl), trivial⟩), h2212⟩
                                · replace h2212 := itF hb3589 h2212
                                  refine wc_T E3588 rfl (congrArg Bool.not hb3589) ?_
                                  refine wp_seq_k fun _ hK3594 => ?_
                                  refine wp_region_lit ?_
                                  refine wl_cons (wl_val E3588 rfl (rn_assign E3588 rfl rfl) rfl fun a3595 E3596 => ?_)
                                  clear E3588
                                  refine wl_nil ?_
                                  refine then_normal (hK3594 _ _ ?_)
                                  refine wp_ret ?_
                                  obtain rfl := Option.some.inj h2212
                                  try dsimp only at h
                                  refine block_ret (block_ret (then_ret (then_ret (block_ret (then_ret (?_))))))
                                  obtain rfl := Option.some.inj h
                                  refine wb_ret1 E3596 rfl (rv_tmp E3596 rfl) ?_
                                  exact ⟨_, rfl, [], [], ⟨rfl, rfl, rfl⟩, H.leave (fun Z hA => trivial) (fun Z S hA hL => trivial)⟩
                            · replace h2212 := itF hb3444 h2212
                              refine wc_T E3443 rfl (congrArg Bool.not hb3444) ?_
                              refine wp_seq_k fun _ hK3597 => ?_
                              refine wp_region_lit ?_
                              refine wl_cons (wl_val E3443 rfl (rn_assign E3443 rfl rfl) rfl fun a3598 E3599 => ?_)
                              clear E3443
                              refine wl_nil ?_
                              refine then_normal (hK3597 _ _ ?_)
                              refine wp_ret ?_
                              obtain rfl := Option.some.inj h2212
                              try dsimp only at h
                              refine block_ret (block_ret (then_ret (then_ret (block_ret (then_ret (?_))))))
                              obtain rfl := Option.some.inj h
                              refine wb_ret1 E3599 rfl (rv_tmp E3599 rfl) ?_
                              exact ⟨_, rfl, [], [], ⟨rfl, rfl, rfl⟩, H.leave (fun Z hA => trivial) (fun Z S hA hL => trivial)⟩
                          · replace h2212 := itF hb3423 h2212
                            refine wl_cons (wl_pass E3422 (E3422.unwanted rfl rfl rfl (congrArg Bool.not hb3423)) rfl fun a3600 E3601 => ?_)
                            clear E3422
                            refine wl_cons (wl_pass E3601 (E3601.unwanted rfl rfl rfl (congrArg Bool.not hb3423)) rfl fun a3602 E3603 => ?_)
                            clear E3601
                            refine wl_cons (wl_pass E3603 (E3603.unwanted rfl rfl rfl (congrArg Bool.not hb3423)) rfl fun a3604 E3605 => ?_)
                            clear E3603
                            refine wl_cons (wl_pass E3605 (E3605.unwanted rfl rfl rfl (congrArg Bool.not hb3423)) rfl fun a3606 E3607 => ?_)
                            clear E3605
                            refine wl_cons (wl_pass E3607 (E3607.unwanted rfl rfl rfl (congrArg Bool.not hb3423)) rfl fun a3608 E3609 => ?_)
                            clear E3607
                            refine wl_cons (wl_val E3609 rfl (rn_pickT E3609 rfl rfl (congrArg Bool.not hb3423) rfl) rfl fun a3610 E3611 => ?_)
                            clear E3609
                            refine wl_cons (wl_val E3611 rfl (rn_assign E3611 rfl rfl) rfl fun a3612 E3613 => ?_)
                            clear E3611
                            refine wl_nil ?_
                            refine then_normal (hK3334 _ _ ?_)
                            refine wc_T E3613 rfl rfl ?_
                            refine wp_seq_k fun _ hK3614 => ?_
                            refine wp_region_lit ?_
                            refine wl_cons (wl_val E3613 rfl (rn_assign E3613 rfl rfl) rfl fun a3615 E3616 => ?_)
                            clear E3613
                            refine wl_nil ?_
                            refine then_normal (hK3614 _ _ ?_)
                            refine wp_ret ?_
                            obtain rfl := Option.some.inj h2212
                            try dsimp only at h
                            refine block_ret (block_ret (then_ret (then_ret (block_ret (then_ret (?_))))))
                            obtain rfl := Option.some.inj h
                            refine wb_ret1 E3616 rfl (rv_tmp E3616 rfl) ?_
                            exact ⟨_, rfl, [], [], ⟨rfl, rfl, rfl⟩, H.leave (fun Z hA => trivial) (fun Z S hA hL => trivial)⟩
                  · replace h2212 := itF hb2217 h2212
                    refine wc_F E2215 rfl hb2217 ?_
                    refine wp_exit ?_
                    obtain rfl := Option.some.inj h2212
                    try dsimp only at h
                    refine then_exit (then_exit (block_exit (?_)))
                    refine then_normal (hK381 _ _ ?_)
                    refine wp_seq_k fun _ hK3617 => ?_
                    refine wp_region_lit ?_
                    refine wl_cons (wl_val E2215 rfl (rn_assign E2215 rfl rfl) rfl fun a3618 E3619 => ?_)
                    clear E2215
                    refine wl_nil ?_
                    refine then_normal (hK3617 _ _ ?_)
                    refine wp_ret ?_
                    refine ?_
                    obtain rfl := Option.some.inj h
                    refine wb_ret1 E3619 rfl (rv_tmp E3619 rfl) ?_
                    exact ⟨_, rfl, [], [], ⟨rfl, rfl, rfl⟩, H.leave (fun Z hA => trivial) (fun Z S hA hL => trivial)⟩
theorem C23_flat {r : Bool} : ∀ v_ A_ N_, (fun (v_ : Value) (A_ : List VP) (N_ : List (List SP)) => v_ = .bool r ∧ A_ = [] ∧ N_ = []) v_ A_ N_ → A_ = [] ∧ Flat N_ := by
  rintro v_ A_ N_ ⟨rfl, rfl, rfl⟩
  exact ⟨rfl, flat_nil⟩
end Go.Proofs.Ytanimjbmkhpnaaa.Gx
