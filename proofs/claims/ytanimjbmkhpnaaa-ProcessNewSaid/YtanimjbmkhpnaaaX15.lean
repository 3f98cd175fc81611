/- Function 15, kaudit/kauditlaw09.awake: what it answers as a plain function, and that the Go code comes to exactly that (where the plain function gives an answer). -/
import Derived.Test.YtanimjbmkhpnaaaXT
import Derived.Test.YtanimjbmkhpnaaaX9
import Derived.Test.YtanimjbmkhpnaaaX10
import Derived.Test.YtanimjbmkhpnaaaX12
import Derived.Test.YtanimjbmkhpnaaaX14
set_option linter.unusedVariables false
set_option linter.unusedSimpArgs false
namespace Go.Proofs.Ytanimjbmkhpnaaa.Gx
open Go.Gx Go.RowKit
/-! ### kaudit/kauditlaw09.awake: function 15 -/
def f_kauditlaw09_awake : Option (Bool) := (f_process_New (⟨0, 1⟩ : api_File)).bind fun y7 => (f_process_Fork y7 1).bind fun y25 => (f_process_Setuid y25.1 y25.2.1 5).bind fun y53 => (f_process_Setuid y53.1 y25.2.1 0).bind fun y77 => (f_process_Get y53.1 2).bind fun y103 => if (y25.2.2 == 0) = true then (if (y53.2 == 0) = true then (if (y77.2 == 1) = true then (if (y25.2.1 == 2) = true then (if y103.2 = true then (if (y103.1.UID == 5) = true then (some ((y103.1.PPID == 1))) else (some (false))) else (some (false))) else (some (false))) else (some (false))) else (some (false))) else (some (false))
set_option maxHeartbeats 4000000 in
set_option maxRecDepth 100000 in
theorem C15 (r : Bool) (w : World) (h : f_kauditlaw09_awake = some r) : Fun Try.prog 15 #[] w [] (fun (v_ : Value) (A_ : List VP) (N_ : List (List SP)) => v_ = .bool r ∧ A_ = [] ∧ N_ = []) := by
  unfold f_kauditlaw09_awake at h
  refine fun_begin (args := []) Try.func15 rfl Try.ntmps15 rfl fun Z a E H => ?_
  refine wp_seq_k fun _ hK1 => ?_
  refine wp_region_lit ?_
  refine wl_cons (wl_val E rfl (rn_assign E rfl rfl) rfl fun a2 E3 => ?_)
  clear E
  refine wl_nil ?_
  refine then_normal (hK1 _ _ ?_)
  refine wp_seq_k fun _ hK4 => ?_
  refine wp_region_lit ?_
  refine wl_cons (wl_val E3 rfl (rn_build (ps := [(1, .int .i64 1)]) (cs := [.int .i64 0, .int .i64 1]) E3 rfl rfl (by kernel_rfl)) rfl fun a5 E6 => ?_)
  clear E3
  obtain ⟨y7, hy8, h⟩ := bs h
  refine wl_cons (wl_fun E6 H rfl (rn_call (args := [.agg #[.int .i64 0, .int .i64 1]]) E6 rfl rfl rfl Try.func9 nm9 rfl) rfl (by exact fun Z hA => trivial) (C9 (⟨0, 1⟩ : api_File) _ _ hy8) ?_)
  rintro v_ A_ N_ w14 a12 ⟨p9, c10, rfl, rfl, rfl⟩ E13 H'
  replace H := H'; clear H' E6
  refine wl_cons (wl_alloc (cs := [.int .i64 0, .int .i64 0, .slice none 0 0]) E13 H rfl ti28 rfl rfl fun g15 w16 a17 E18 H' => ?_)
  clear H E13; have H := H'; clear H'
  refine wl_cons (wl_store (i := 1) (vs := [.int .i64 y7.Next, .int .i64 y7.NextSession, .slice p9 y7.Processes.length c10]) (cs' := [.int .i64 y7.Next, .int .i64 y7.NextSession, .slice p9 y7.Processes.length c10]) E18 H rfl rfl rfl rfl ti28 rfl rfl rfl rfl rfl rfl fun w21 a19 E20 H' => ?_)
  clear H E18; have H := H'; clear H'
  replace H : St w Nil Z w21 [] [[row 38 k_api_Process y7.Processes (.slice p9 y7.Processes.length c10)], [blk g15 [.int .i64 y7.Next, .int .i64 y7.NextSession, .slice p9 y7.Processes.length c10] 28]] := H
  refine wl_nil ?_
  refine then_normal (hK4 _ _ ?_)
  refine wp_seq_k fun _ hK22 => ?_
  refine wp_region_lit ?_
  refine wl_cons (wl_val E20 rfl (rn_ldN (i := 1) [.int .i64 y7.Next, .int .i64 y7.NextSession, .slice p9 y7.Processes.length c10] E20 H rfl Try.underlying28 rfl ti28 rfl rfl rfl rfl) rfl fun a23 E24 => ?_)
  clear E20
  replace H := H.share (i := 0) (A' := [vw (kSlice 38 k_api_Process) y7.Processes [.slice p9 y7.Processes.length c10]]) (by intro b h; exact h) rfl (fun Z S1 h => ⟨rowH.read h.1, trivial⟩)
  obtain ⟨y25, hy26, h⟩ := bs h
  refine wl_cons (wl_fun E24 H rfl (rn_call (args := [.agg #[.int .i64 y7.Next, .int .i64 y7.NextSession, .slice p9 y7.Processes.length c10], .int .i64 1]) E24 rfl rfl rfl Try.func10 nm10 rfl) rfl (by exact fun Z hA => ⟨(argHolds_get hA (k := 0) rfl), trivial⟩) (C10 y7 1 p9 c10 _ _ hy26) ?_)
  rintro v_ A_ N_ w32 a30 ⟨p27, c28, rfl, rfl, rfl⟩ E31 H'
  replace H := H'; clear H' E24
  refine wl_cons (wl_val E31 rfl (rn_move E31 rfl rfl) rfl fun a33 E34 => ?_)
  clear E31
  refine wl_cons (wl_val E34 rfl (rn_extract E34 rfl rfl rfl) rfl fun a35 E36 => ?_)
  clear E34
  refine wl_cons (wl_val E36 rfl (rn_extract E36 rfl rfl rfl) rfl fun a37 E38 => ?_)
  clear E36
  refine wl_cons (wl_val E38 rfl (rn_extract E38 rfl rfl rfl) rfl fun a39 E40 => ?_)
  clear E38
  refine wl_cons (wl_store (i := 1) (vs := [.int .i64 y25.1.Next, .int .i64 y25.1.NextSession, .slice p27 y25.1.Processes.length c28]) (cs' := [.int .i64 y25.1.Next, .int .i64 y25.1.NextSession, .slice p27 y25.1.Processes.length c28]) E40 H rfl rfl rfl rfl ti28 rfl rfl rfl rfl rfl rfl fun w43 a41 E42 H' => ?_)
  clear H E40; have H := H'; clear H'
  refine wl_cons (wl_val E42 rfl (rn_assign E42 rfl rfl) rfl fun a44 E45 => ?_)
  clear E42
  refine wl_cons (wl_val E45 rfl (rn_assign E45 rfl rfl) rfl fun a46 E47 => ?_)
  clear E45
  refine wl_nil ?_
  refine then_normal (hK22 _ _ ?_)
  refine wp_seq_k fun _ hK48 => ?_
  refine wp_region_lit ?_
  refine wl_cons (wl_val E47 rfl (rn_ldN (i := 1) [.int .i64 y25.1.Next, .int .i64 y25.1.NextSession, .slice p27 y25.1.Processes.length c28] E47 H rfl Try.underlying28 rfl ti28 rfl rfl rfl rfl) rfl fun a49 E50 => ?_)
  clear E47
  refine wl_cons (wl_val E50 rfl (rn_move E50 rfl rfl) rfl fun a51 E52 => ?_)
  clear E50
  replace H := H.share (i := 2) (A' := [vw (kSlice 38 k_api_Process) y25.1.Processes [.slice p27 y25.1.Processes.length c28]]) (by intro b h; exact h) rfl (fun Z S1 h => ⟨rowH.read h.1, trivial⟩)
  obtain ⟨y53, hy54, h⟩ := bs h
  refine wl_cons (wl_fun E52 H rfl (rn_call (args := [.agg #[.int .i64 y25.1.Next, .int .i64 y25.1.NextSession, .slice p27 y25.1.Processes.length c28], .int .i64 y25.2.1, .int .i64 5]) E52 rfl rfl rfl Try.func12 nm12 rfl) rfl (by exact fun Z hA => ⟨(argHolds_get hA (k := 1) rfl), trivial⟩) (C12 y25.1 y25.2.1 5 p27 c28 _ _ hy54) ?_)
  rintro v_ A_ N_ w60 a58 ⟨p55, c56, rfl, rfl, rfl⟩ E59 H'
  replace H := H'; clear H' E52
  replace H : St w Nil Z w60 [vw (kSlice 38 k_api_Process) y7.Processes [.slice p9 y7.Processes.length c10], vw (kSlice 38 k_api_Process) y25.1.Processes [.slice p27 y25.1.Processes.length c28]] [[], [blk g15 [.int .i64 y25.1.Next, .int .i64 y25.1.NextSession, .slice p27 y25.1.Processes.length c28] 28], [], [row 38 k_api_Process y53.1.Processes (.slice p55 y53.1.Processes.length c56)]] := H
  refine wl_cons (wl_val E59 rfl (rn_move E59 rfl rfl) rfl fun a61 E62 => ?_)
  clear E59
  refine wl_cons (wl_val E62 rfl (rn_extract E62 rfl rfl rfl) rfl fun a63 E64 => ?_)
  clear E62
  refine wl_cons (wl_val E64 rfl (rn_extract E64 rfl rfl rfl) rfl fun a65 E66 => ?_)
  clear E64
  refine wl_cons (wl_store (i := 1) (vs := [.int .i64 y53.1.Next, .int .i64 y53.1.NextSession, .slice p55 y53.1.Processes.length c56]) (cs' := [.int .i64 y53.1.Next, .int .i64 y53.1.NextSession, .slice p55 y53.1.Processes.length c56]) E66 H rfl rfl rfl rfl ti28 rfl rfl rfl rfl rfl rfl fun w69 a67 E68 H' => ?_)
  clear H E66; have H := H'; clear H'
  refine wl_cons (wl_val E68 rfl (rn_assign E68 rfl rfl) rfl fun a70 E71 => ?_)
  clear E68
  refine wl_nil ?_
  refine then_normal (hK48 _ _ ?_)
  refine wp_seq_k fun _ hK72 => ?_
  refine wp_region_lit ?_
  refine wl_cons (wl_val E71 rfl (rn_ldN (i := 1) [.int .i64 y53.1.Next, .int .i64 y53.1.NextSession, .slice p55 y53.1.Processes.length c56] E71 H rfl Try.underlying28 rfl ti28 rfl rfl rfl rfl) rfl fun a73 E74 => ?_)
  clear E71
  refine wl_cons (wl_val E74 rfl (rn_move E74 rfl rfl) rfl fun a75 E76 => ?_)
  clear E74
  replace H := H.share (i := 3) (A' := [vw (kSlice 38 k_api_Process) y53.1.Processes [.slice p55 y53.1.Processes.length c56]]) (by intro b h; exact h) rfl (fun Z S1 h => ⟨rowH.read h.1, trivial⟩)
  obtain ⟨y77, hy78, h⟩ := bs h
  refine wl_cons (wl_fun E76 H rfl (rn_call (args := [.agg #[.int .i64 y53.1.Next, .int .i64 y53.1.NextSession, .slice p55 y53.1.Processes.length c56], .int .i64 y25.2.1, .int .i64 0]) E76 rfl rfl rfl Try.func12 nm12 rfl) rfl (by exact fun Z hA => ⟨(argHolds_get hA (k := 2) rfl), trivial⟩) (C12 y53.1 y25.2.1 0 p55 c56 _ _ hy78) ?_)
  rintro v_ A_ N_ w84 a82 ⟨p79, c80, rfl, rfl, rfl⟩ E83 H'
  replace H := H'; clear H' E76
  refine wl_cons (wl_val E83 rfl (rn_move E83 rfl rfl) rfl fun a85 E86 => ?_)
  clear E83
  refine wl_cons (wl_val E86 rfl (rn_extract E86 rfl rfl rfl) rfl fun a87 E88 => ?_)
  clear E86
  refine wl_cons (wl_val E88 rfl (rn_extract E88 rfl rfl rfl) rfl fun a89 E90 => ?_)
  clear E88
  refine wl_cons (wl_alloc (cs := [.int .i64 0, .int .i64 0, .slice none 0 0]) E90 H rfl ti28 rfl rfl fun g91 w92 a93 E94 H' => ?_)
  clear H E90; have H := H'; clear H'
  replace H : St w Nil Z w92 [vw (kSlice 38 k_api_Process) y7.Processes [.slice p9 y7.Processes.length c10], vw (kSlice 38 k_api_Process) y25.1.Processes [.slice p27 y25.1.Processes.length c28], vw (kSlice 38 k_api_Process) y53.1.Processes [.slice p55 y53.1.Processes.length c56]] [[], [blk g15 [.int .i64 y53.1.Next, .int .i64 y53.1.NextSession, .slice p55 y53.1.Processes.length c56] 28], [], [], [row 38 k_api_Process y77.1.Processes (.slice p79 y77.1.Processes.length c80)], [blk g91 [.int .i64 0, .int .i64 0, .slice none 0 0] 28]] := H
  refine wl_cons (wl_store (i := 5) (vs := [.int .i64 y77.1.Next, .int .i64 y77.1.NextSession, .slice p79 y77.1.Processes.length c80]) (cs' := [.int .i64 y77.1.Next, .int .i64 y77.1.NextSession, .slice p79 y77.1.Processes.length c80]) E94 H rfl rfl rfl rfl ti28 rfl rfl rfl rfl rfl rfl fun w97 a95 E96 H' => ?_)
  clear H E94; have H := H'; clear H'
  refine wl_cons (wl_val E96 rfl (rn_assign E96 rfl rfl) rfl fun a98 E99 => ?_)
  clear E96
  refine wl_nil ?_
  refine then_normal (hK72 _ _ ?_)
  refine wp_seq_k fun _ hK100 => ?_
  refine wp_region_lit ?_
  refine wl_cons (wl_val E99 rfl (rn_ldN (i := 1) [.int .i64 y53.1.Next, .int .i64 y53.1.NextSession, .slice p55 y53.1.Processes.length c56] E99 H rfl Try.underlying28 rfl ti28 rfl rfl rfl rfl) rfl fun a101 E102 => ?_)
  clear E99
  obtain ⟨y103, hy104, h⟩ := bs h
  refine wl_cons (wl_fun E102 H rfl (rn_call (args := [.agg #[.int .i64 y53.1.Next, .int .i64 y53.1.NextSession, .slice p55 y53.1.Processes.length c56], .int .i64 2]) E102 rfl rfl rfl Try.func14 nm14 rfl) rfl (by exact fun Z hA => ⟨(argHolds_get hA (k := 2) rfl), trivial⟩) (C14 y53.1 2 p55 c56 _ _ hy104) ?_)
  rintro v_ A_ N_ w110 a108 ⟨p105, c106, rfl, rfl, rfl⟩ E109 H'
  replace H := H'; clear H' E102
  refine wl_cons (wl_val E109 rfl (rn_move E109 rfl rfl) rfl fun a111 E112 => ?_)
  clear E109
  refine wl_cons (wl_val E112 rfl (rn_extract E112 rfl rfl rfl) rfl fun a113 E114 => ?_)
  clear E112
  refine wl_cons (wl_val E114 rfl (rn_extract E114 rfl rfl rfl) rfl fun a115 E116 => ?_)
  clear E114
  refine wl_cons (wl_alloc (cs := [.int .i64 0, .int .i64 0, .int .i64 0, .int .i64 0, .int .i64 0, .int .i64 0, .int .i64 0, .int .i64 0, .int .i64 0, .int .i64 0, .string (⟨#[]⟩ : ByteArray), .string (⟨#[]⟩ : ByteArray), .slice none 0 0, .bool false]) E116 H rfl ti38 rfl rfl fun g117 w118 a119 E120 H' => ?_)
  clear H E116; have H := H'; clear H'
  replace H : St w Nil Z w118 [vw (kSlice 38 k_api_Process) y7.Processes [.slice p9 y7.Processes.length c10], vw (kSlice 38 k_api_Process) y25.1.Processes [.slice p27 y25.1.Processes.length c28], vw (kSlice 38 k_api_Process) y53.1.Processes [.slice p55 y53.1.Processes.length c56]] [[], [blk g15 [.int .i64 y53.1.Next, .int .i64 y53.1.NextSession, .slice p55 y53.1.Processes.length c56] 28], [], [], [row 38 k_api_Process y77.1.Processes (.slice p79 y77.1.Processes.length c80)], [blk g91 [.int .i64 y77.1.Next, .int .i64 y77.1.NextSession, .slice p79 y77.1.Processes.length c80] 28], [row 81 k_api_Descriptor y103.1.Open (.slice p105 y103.1.Open.length c106)], [blk g117 [.int .i64 0, .int .i64 0, .int .i64 0, .int .i64 0, .int .i64 0, .int .i64 0, .int .i64 0, .int .i64 0, .int .i64 0, .int .i64 0, .string (⟨#[]⟩ : ByteArray), .string (⟨#[]⟩ : ByteArray), .slice none 0 0, .bool false] 38]] := H
  refine wl_cons (wl_store (i := 7) (vs := [.int .i64 y103.1.PID, .int .i64 y103.1.PPID, .int .i64 y103.1.UID, .int .i64 y103.1.EUID, .int .i64 y103.1.GID, .int .i64 y103.1.EGID, .int .i64 y103.1.AUID, .int .i64 y103.1.Session, .int .i64 y103.1.Cwd.Dev, .int .i64 y103.1.Cwd.Ino, .string y103.1.Comm, .string y103.1.Exe, .slice p105 y103.1.Open.length c106, .bool y103.1.Audited]) (cs' := [.int .i64 y103.1.PID, .int .i64 y103.1.PPID, .int .i64 y103.1.UID, .int .i64 y103.1.EUID, .int .i64 y103.1.GID, .int .i64 y103.1.EGID, .int .i64 y103.1.AUID, .int .i64 y103.1.Session, .int .i64 y103.1.Cwd.Dev, .int .i64 y103.1.Cwd.Ino, .string y103.1.Comm, .string y103.1.Exe, .slice p105 y103.1.Open.length c106, .bool y103.1.Audited]) E120 H rfl rfl rfl rfl ti38 rfl rfl rfl rfl rfl rfl fun w123 a121 E122 H' => ?_)
  clear H E120; have H := H'; clear H'
  refine wl_cons (wl_val E122 rfl (rn_assign E122 rfl rfl) rfl fun a124 E125 => ?_)
  clear E122
  refine wl_nil ?_
  refine then_normal (hK100 _ _ ?_)
  refine wp_seq_k fun _ hK126 => ?_
  refine wp_region_lit ?_
  refine wl_cons (wl_val E125 rfl (rn_move E125 rfl rfl) rfl fun a127 E128 => ?_)
  clear E125
  refine wl_cons (wl_val E128 rfl (rn_int E128 rfl rfl rfl rfl) rfl fun a129 E130 => ?_)
  clear E128
  refine wl_cons (wl_val E130 rfl (rn_move E130 rfl rfl) rfl fun a131 E132 => ?_)
  clear E130
  rcases Bool.eq_false_or_eq_true (y25.2.2 == 0) with hb133 | hb133
  · replace h := itT hb133 h
    refine wl_cons (wl_val E132 (E132.wantedB rfl rfl rfl hb133) (rn_move E132 rfl rfl) rfl fun a134 E135 => ?_)
    clear E132
    refine wl_cons (wl_val E135 (E135.wantedB rfl rfl rfl hb133) (rn_int E135 rfl rfl rfl rfl) rfl fun a136 E137 => ?_)
    clear E135
    refine wl_cons (wl_val E137 rfl (rn_pickT E137 rfl rfl hb133 rfl) rfl fun a138 E139 => ?_)
    clear E137
    refine wl_cons (wl_val E139 rfl (rn_move E139 rfl rfl) rfl fun a140 E141 => ?_)
    clear E139
    rcases Bool.eq_false_or_eq_true (y53.2 == 0) with hb142 | hb142
    · replace h := itT hb142 h
      refine wl_cons (wl_val E141 (E141.wantedB rfl rfl rfl hb142) (rn_move E141 rfl rfl) rfl fun a143 E144 => ?_)
      clear E141
      refine wl_cons (wl_val E144 (E144.wantedB rfl rfl rfl hb142) (rn_int E144 rfl rfl rfl rfl) rfl fun a145 E146 => ?_)
      clear E144
      refine wl_cons (wl_val E146 rfl (rn_pickT E146 rfl rfl hb142 rfl) rfl fun a147 E148 => ?_)
      clear E146
      refine wl_cons (wl_val E148 rfl (rn_move E148 rfl rfl) rfl fun a149 E150 => ?_)
      clear E148
      rcases Bool.eq_false_or_eq_true (y77.2 == 1) with hb151 | hb151
      · replace h := itT hb151 h
        refine wl_cons (wl_val E150 (E150.wantedB rfl rfl rfl hb151) (rn_move E150 rfl rfl) rfl fun a152 E153 => ?_)
        clear E150
        refine wl_cons (wl_val E153 (E153.wantedB rfl rfl rfl hb151) (rn_int E153 rfl rfl rfl rfl) rfl fun a154 E155 => ?_)
        clear E153
        refine wl_cons (wl_val E155 rfl (rn_pickT E155 rfl rfl hb151 rfl) rfl fun a156 E157 => ?_)
        clear E155
        refine wl_cons (wl_val E157 rfl (rn_move E157 rfl rfl) rfl fun a158 E159 => ?_)
        clear E157
        rcases Bool.eq_false_or_eq_true (y25.2.1 == 2) with hb160 | hb160
        · replace h := itT hb160 h
          refine wl_cons (wl_val E159 (E159.wantedB rfl rfl rfl hb160) (rn_move E159 rfl rfl) rfl fun a161 E162 => ?_)
          clear E159
          refine wl_cons (wl_val E162 rfl (rn_pickT E162 rfl rfl hb160 rfl) rfl fun a163 E164 => ?_)
          clear E162
          refine wl_cons (wl_val E164 rfl (rn_move E164 rfl rfl) rfl fun a165 E166 => ?_)
          clear E164
          rcases Bool.eq_false_or_eq_true y103.2 with hb167 | hb167
          · replace h := itT hb167 h
            refine wl_cons (wl_val E166 (E166.wantedB rfl rfl rfl hb167) (rn_fieldAddr E166 rfl Try.underlying38 rfl ti3 rfl rfl) rfl fun a168 E169 => ?_)
            clear E166
            refine wl_cons (wl_val E169 (E169.wantedB rfl rfl rfl hb167) (rn_ld1 (i := 7) E169 H rfl Try.underlying3 rfl rfl rfl rfl) rfl fun a170 E171 => ?_)
            clear E169
            refine wl_cons (wl_val E171 (E171.wantedB rfl rfl rfl hb167) (rn_int E171 rfl rfl rfl rfl) rfl fun a172 E173 => ?_)
            clear E171
            refine wl_cons (wl_val E173 rfl (rn_pickT E173 rfl rfl hb167 rfl) rfl fun a174 E175 => ?_)
            clear E173
            refine wl_cons (wl_val E175 rfl (rn_move E175 rfl rfl) rfl fun a176 E177 => ?_)
            clear E175
            rcases Bool.eq_false_or_eq_true (y103.1.UID == 5) with hb178 | hb178
            · replace h := itT hb178 h
              refine wl_cons (wl_val E177 (E177.wantedB rfl rfl rfl hb178) (rn_fieldAddr E177 rfl Try.underlying38 rfl ti3 rfl rfl) rfl fun a179 E180 => ?_)
              clear E177
              refine wl_cons (wl_val E180 (E180.wantedB rfl rfl rfl hb178) (rn_ld1 (i := 7) E180 H rfl Try.underlying3 rfl rfl rfl rfl) rfl fun a181 E182 => ?_)
              clear E180
              refine wl_cons (wl_val E182 (E182.wantedB rfl rfl rfl hb178) (rn_int E182 rfl rfl rfl rfl) rfl fun a183 E184 => ?_)
              clear E182
              refine wl_cons (wl_val E184 rfl (rn_pickT E184 rfl rfl hb178 rfl) rfl fun a185 E186 => ?_)
              clear E184
              refine wl_cons (wl_val E186 rfl (rn_assign E186 rfl rfl) rfl fun a187 E188 => ?_)
              clear E186
              refine wl_nil ?_
              refine then_normal (hK126 _ _ ?_)
              refine wp_ret ?_
              refine ?_
              obtain rfl := Option.some.inj h
              refine wb_ret1 E188 rfl (rv_tmp E188 rfl) ?_
              exact ⟨_, rfl, [], [], ⟨rfl, rfl, rfl⟩, H.leave (fun Z hA => trivial) (fun Z S hA hL => trivial)⟩
            · replace h := itF hb178 h
              refine wl_cons (wl_pass E177 (E177.unwanted rfl rfl rfl hb178) rfl fun a189 E190 => ?_)
              clear E177
              refine wl_cons (wl_pass E190 (E190.unwanted rfl rfl rfl hb178) rfl fun a191 E192 => ?_)
              clear E190
              refine wl_cons (wl_pass E192 (E192.unwanted rfl rfl rfl hb178) rfl fun a193 E194 => ?_)
              clear E192
              refine wl_cons (wl_val E194 rfl (rn_pickF E194 rfl rfl hb178 rfl) rfl fun a195 E196 => ?_)
              clear E194
              refine wl_cons (wl_val E196 rfl (rn_assign E196 rfl rfl) rfl fun a197 E198 => ?_)
              clear E196
              refine wl_nil ?_
              refine then_normal (hK126 _ _ ?_)
              refine wp_ret ?_
              refine ?_
              obtain rfl := Option.some.inj h
              refine wb_ret1 E198 rfl (rv_tmp E198 rfl) ?_
              exact ⟨_, rfl, [], [], ⟨rfl, rfl, rfl⟩, H.leave (fun Z hA => trivial) (fun Z S hA hL => trivial)⟩
          · replace h := itF hb167 h
            refine wl_cons (wl_pass E166 (E166.unwanted rfl rfl rfl hb167) rfl fun a199 E200 => ?_)
            clear E166
            refine wl_cons (wl_pass E200 (E200.unwanted rfl rfl rfl hb167) rfl fun a201 E202 => ?_)
            clear E200
            refine wl_cons (wl_pass E202 (E202.unwanted rfl rfl rfl hb167) rfl fun a203 E204 => ?_)
            clear E202
            refine wl_cons (wl_val E204 rfl (rn_pickF E204 rfl rfl hb167 rfl) rfl fun a205 E206 => ?_)
            clear E204
            refine wl_cons (wl_val E206 rfl (rn_move E206 rfl rfl) rfl fun a207 E208 => ?_)
            clear E206
            refine wl_cons (wl_pass E208 (E208.unwanted rfl rfl rfl rfl) rfl fun a209 E210 => ?_)
            clear E208
            refine wl_cons (wl_pass E210 (E210.unwanted rfl rfl rfl rfl) rfl fun a211 E212 => ?_)
            clear E210
            refine wl_cons (wl_pass E212 (E212.unwanted rfl rfl rfl rfl) rfl fun a213 E214 => ?_)
            clear E212
            refine wl_cons (wl_val E214 rfl (rn_pickF E214 rfl rfl rfl rfl) rfl fun a215 E216 => ?_)
            clear E214
            refine wl_cons (wl_val E216 rfl (rn_assign E216 rfl rfl) rfl fun a217 E218 => ?_)
            clear E216
            refine wl_nil ?_
            refine then_normal (hK126 _ _ ?_)
            refine wp_ret ?_
            refine ?_
            obtain rfl := Option.some.inj h
            refine wb_ret1 E218 rfl (rv_tmp E218 rfl) ?_
            exact ⟨_, rfl, [], [], ⟨rfl, rfl, rfl⟩, H.leave (fun Z hA => trivial) (fun Z S hA hL => trivial)⟩
        · replace h := itF hb160 h
          refine wl_cons (wl_pass E159 (E159.unwanted rfl rfl rfl hb160) rfl fun a219 E220 => ?_)
          clear E159
          refine wl_cons (wl_val E220 rfl (rn_pickF E220 rfl rfl hb160 rfl) rfl fun a221 E222 => ?_)
          clear E220
          refine wl_cons (wl_val E222 rfl (rn_move E222 rfl rfl) rfl fun a223 E224 => ?_)
          clear E222
          refine wl_cons (wl_pass E224 (E224.unwanted rfl rfl rfl rfl) rfl fun a225 E226 => ?_)
          clear E224
          refine wl_cons (wl_pass E226 (E226.unwanted rfl rfl rfl rfl) rfl fun a227 E228 => ?_)
          clear E226
          refine wl_cons (wl_pass E228 (E228.unwanted rfl rfl rfl rfl) rfl fun a229 E230 => ?_)
          clear E228
          refine wl_cons (wl_val E230 rfl (rn_pickF E230 rfl rfl rfl rfl) rfl fun a231 E232 => ?_)
          clear E230
          refine wl_cons (wl_val E232 rfl (rn_move E232 rfl rfl) rfl fun a233 E234 => ?_)
          clear E232
          refine wl_cons (wl_pass E234 (E234.unwanted rfl rfl rfl rfl) rfl fun a235 E236 => ?_)
          clear E234
          refine wl_cons (wl_pass E236 (E236.unwanted rfl rfl rfl rfl) rfl fun a237 E238 => ?_)
          clear E236
          refine wl_cons (wl_pass E238 (E238.unwanted rfl rfl rfl rfl) rfl fun a239 E240 => ?_)
          clear E238
          refine wl_cons (wl_val E240 rfl (rn_pickF E240 rfl rfl rfl rfl) rfl fun a241 E242 => ?_)
          clear E240
          refine wl_cons (wl_val E242 rfl (rn_assign E242 rfl rfl) rfl fun a243 E244 => ?_)
          clear E242
          refine wl_nil ?_
          refine then_normal (hK126 _ _ ?_)
          refine wp_ret ?_
          refine ?_
          obtain rfl := Option.some.inj h
          refine wb_ret1 E244 rfl (rv_tmp E244 rfl) ?_
          exact ⟨_, rfl, [], [], ⟨rfl, rfl, rfl⟩, H.leave (fun Z hA => trivial) (fun Z S hA hL => trivial)⟩
      · replace h := itF hb151 h
        refine wl_cons (wl_pass E150 (E150.unwanted rfl rfl rfl hb151) rfl fun a245 E246 => ?_)
        clear E150
        refine wl_cons (wl_pass E246 (E246.unwanted rfl rfl rfl hb151) rfl fun a247 E248 => ?_)
        clear E246
        refine wl_cons (wl_val E248 rfl (rn_pickF E248 rfl rfl hb151 rfl) rfl fun a249 E250 => ?_)
        clear E248
        refine wl_cons (wl_val E250 rfl (rn_move E250 rfl rfl) rfl fun a251 E252 => ?_)
        clear E250
        refine wl_cons (wl_pass E252 (E252.unwanted rfl rfl rfl rfl) rfl fun a253 E254 => ?_)
        clear E252
        refine wl_cons (wl_val E254 rfl (rn_pickF E254 rfl rfl rfl rfl) rfl fun a255 E256 => ?_)
        clear E254
        refine wl_cons (wl_val E256 rfl (rn_move E256 rfl rfl) rfl fun a257 E258 => ?_)
        clear E256
        refine wl_cons (wl_pass E258 (E258.unwanted rfl rfl rfl rfl) rfl fun a259 E260 => ?_)
        clear E258
        refine wl_cons (wl_pass E260 (E260.unwanted rfl rfl rfl rfl) rfl fun a261 E262 => ?_)
        clear E260
        refine wl_cons (wl_pass E262 (E262.unwanted rfl rfl rfl rfl) rfl fun a263 E264 => ?_)
        clear E262
        refine wl_cons (wl_val E264 rfl (rn_pickF E264 rfl rfl rfl rfl) rfl fun a265 E266 => ?_)
        clear E264
        refine wl_cons (wl_val E266 rfl (rn_move E266 rfl rfl) rfl fun a267 E268 => ?_)
        clear E266
        refine wl_cons (wl_pass E268 (E268.unwanted rfl rfl rfl rfl) rfl fun a269 E270 => ?_)
        clear E268
        refine wl_cons (wl_pass E270 (E270.unwanted rfl rfl rfl rfl) rfl fun a271 E272 => ?_)
        clear E270
        refine wl_cons (wl_pass E272 (E272.unwanted rfl rfl rfl rfl) rfl fun a273 E274 => ?_)
        clear E272
        refine wl_cons (wl_val E274 rfl (rn_pickF E274 rfl rfl rfl rfl) rfl fun a275 E276 => ?_)
        clear E274
        refine wl_cons (wl_val E276 rfl (rn_assign E276 rfl rfl) rfl fun a277 E278 => ?_)
        clear E276
        refine wl_nil ?_
        refine then_normal (hK126 _ _ ?_)
        refine wp_ret ?_
        refine ?_
        obtain rfl := Option.some.inj h
        refine wb_ret1 E278 rfl (rv_tmp E278 rfl) ?_
        exact ⟨_, rfl, [], [], ⟨rfl, rfl, rfl⟩, H.leave (fun Z hA => trivial) (fun Z S hA hL => trivial)⟩
    · replace h := itF hb142 h
      refine wl_cons (wl_pass E141 (E141.unwanted rfl rfl rfl hb142) rfl fun a279 E280 => ?_)
      clear E141
      refine wl_cons (wl_pass E280 (E280.unwanted rfl rfl rfl hb142) rfl fun a281 E282 => ?_)
      clear E280
      refine wl_cons (wl_val E282 rfl (rn_pickF E282 rfl rfl hb142 rfl) rfl fun a283 E284 => ?_)
      clear E282
      refine wl_cons (wl_val E284 rfl (rn_move E284 rfl rfl) rfl fun a285 E286 => ?_)
      clear E284
      refine wl_cons (wl_pass E286 (E286.unwanted rfl rfl rfl rfl) rfl fun a287 E288 => ?_)
      clear E286
      refine wl_cons (wl_pass E288 (E288.unwanted rfl rfl rfl rfl) rfl fun a289 E290 => ?_)
      clear E288
      refine wl_cons (wl_val E290 rfl (rn_pickF E290 rfl rfl rfl rfl) rfl fun a291 E292 => ?_)
      clear E290
      refine wl_cons (wl_val E292 rfl (rn_move E292 rfl rfl) rfl fun a293 E294 => ?_)
      clear E292
      refine wl_cons (wl_pass E294 (E294.unwanted rfl rfl rfl rfl) rfl fun a295 E296 => ?_)
      clear E294
      refine wl_cons (wl_val E296 rfl (rn_pickF E296 rfl rfl rfl rfl) rfl fun a297 E298 => ?_)
      clear E296
      refine wl_cons (wl_val E298 rfl (rn_move E298 rfl rfl) rfl fun a299 E300 => ?_)
      clear E298
      refine wl_cons (wl_pass E300 (E300.unwanted rfl rfl rfl rfl) rfl fun a301 E302 => ?_)
      clear E300
      refine wl_cons (wl_pass E302 (E302.unwanted rfl rfl rfl rfl) rfl fun a303 E304 => ?_)
      clear E302
      refine wl_cons (wl_pass E304 (E304.unwanted rfl rfl rfl rfl) rfl fun a305 E306 => ?_)
      clear E304
      refine wl_cons (wl_val E306 rfl (rn_pickF E306 rfl rfl rfl rfl) rfl fun a307 E308 => ?_)
      clear E306
      refine wl_cons (wl_val E308 rfl (rn_move E308 rfl rfl) rfl fun a309 E310 => ?_)
      clear E308
      refine wl_cons (wl_pass E310 (E310.unwanted rfl rfl rfl rfl) rfl fun a311 E312 => ?_)
      clear E310
      refine wl_cons (wl_pass E312 (E312.unwanted rfl rfl rfl rfl) rfl fun a313 E314 => ?_)
      clear E312
      refine wl_cons (wl_pass E314 (E314.unwanted rfl rfl rfl rfl) rfl fun a315 E316 => ?_)
      clear E314
      refine wl_cons (wl_val E316 rfl (rn_pickF E316 rfl rfl rfl rfl) rfl fun a317 E318 => ?_)
      clear E316
      refine wl_cons (wl_val E318 rfl (rn_assign E318 rfl rfl) rfl fun a319 E320 => ?_)
      clear E318
      refine wl_nil ?_
      refine then_normal (hK126 _ _ ?_)
      refine wp_ret ?_
      refine ?_
      obtain rfl := Option.some.inj h
      refine wb_ret1 E320 rfl (rv_tmp E320 rfl) ?_
      exact ⟨_, rfl, [], [], ⟨rfl, rfl, rfl⟩, H.leave (fun Z hA => trivial) (fun Z S hA hL => trivial)⟩
  · replace h := itF hb133 h
    refine wl_cons (wl_pass E132 (E132.unwanted rfl rfl rfl hb133) rfl fun a321 E322 => ?_)
    clear E132
    refine wl_cons (wl_pass E322 (E322.unwanted rfl rfl rfl hb133) rfl fun a323 E324 => ?_)
    clear E322
    refine wl_cons (wl_val E324 rfl (rn_pickF E324 rfl rfl hb133 rfl) rfl fun a325 E326 => ?_)
    clear E324
    refine wl_cons (wl_val E326 rfl (rn_move E326 rfl rfl) rfl fun a327 E328 => ?_)
    clear E326
    refine wl_cons (wl_pass E328 (E328.unwanted rfl rfl rfl rfl) rfl fun a329 E330 => ?_)
    clear E328
    refine wl_cons (wl_pass E330 (E330.unwanted rfl rfl rfl rfl) rfl fun a331 E332 => ?_)
    clear E330
    refine wl_cons (wl_val E332 rfl (rn_pickF E332 rfl rfl rfl rfl) rfl fun a333 E334 => ?_)
    clear E332
    refine wl_cons (wl_val E334 rfl (rn_move E334 rfl rfl) rfl fun a335 E336 => ?_)
    clear E334
    refine wl_cons (wl_pass E336 (E336.unwanted rfl rfl rfl rfl) rfl fun a337 E338 => ?_)
    clear E336
    refine wl_cons (wl_pass E338 (E338.unwanted rfl rfl rfl rfl) rfl fun a339 E340 => ?_)
    clear E338
    refine wl_cons (wl_val E340 rfl (rn_pickF E340 rfl rfl rfl rfl) rfl fun a341 E342 => ?_)
    clear E340
    refine wl_cons (wl_val E342 rfl (rn_move E342 rfl rfl) rfl fun a343 E344 => ?_)
    clear E342
    refine wl_cons (wl_pass E344 (E344.unwanted rfl rfl rfl rfl) rfl fun a345 E346 => ?_)
    clear E344
    refine wl_cons (wl_val E346 rfl (rn_pickF E346 rfl rfl rfl rfl) rfl fun a347 E348 => ?_)
    clear E346
    refine wl_cons (wl_val E348 rfl (rn_move E348 rfl rfl) rfl fun a349 E350 => ?_)
    clear E348
    refine wl_cons (wl_pass E350 (E350.unwanted rfl rfl rfl rfl) rfl fun a351 E352 => ?_)
    clear E350
    refine wl_cons (wl_pass E352 (E352.unwanted rfl rfl rfl rfl) rfl fun a353 E354 => ?_)
    clear E352
    refine wl_cons (wl_pass E354 (E354.unwanted rfl rfl rfl rfl) rfl fun a355 E356 => ?_)
    clear E354
    refine wl_cons (wl_val E356 rfl (rn_pickF E356 rfl rfl rfl rfl) rfl fun a357 E358 => ?_)
    clear E356
    refine wl_cons (wl_val E358 rfl (rn_move E358 rfl rfl) rfl fun a359 E360 => ?_)
    clear E358
    refine wl_cons (wl_pass E360 (E360.unwanted rfl rfl rfl rfl) rfl fun a361 E362 => ?_)
    clear E360
    refine wl_cons (wl_pass E362 (E362.unwanted rfl rfl rfl rfl) rfl fun a363 E364 => ?_)
    clear E362
    refine wl_cons (wl_pass E364 (E364.unwanted rfl rfl rfl rfl) rfl fun a365 E366 => ?_)
    clear E364
    refine wl_cons (wl_val E366 rfl (rn_pickF E366 rfl rfl rfl rfl) rfl fun a367 E368 => ?_)
    clear E366
    refine wl_cons (wl_val E368 rfl (rn_assign E368 rfl rfl) rfl fun a369 E370 => ?_)
    clear E368
    refine wl_nil ?_
    refine then_normal (hK126 _ _ ?_)
    refine wp_ret ?_
    refine ?_
    obtain rfl := Option.some.inj h
    refine wb_ret1 E370 rfl (rv_tmp E370 rfl) ?_
    exact ⟨_, rfl, [], [], ⟨rfl, rfl, rfl⟩, H.leave (fun Z hA => trivial) (fun Z S hA hL => trivial)⟩
theorem C15_flat {r : Bool} : ∀ v_ A_ N_, (fun (v_ : Value) (A_ : List VP) (N_ : List (List SP)) => v_ = .bool r ∧ A_ = [] ∧ N_ = []) v_ A_ N_ → A_ = [] ∧ Flat N_ := by
  rintro v_ A_ N_ ⟨rfl, rfl, rfl⟩
  exact ⟨rfl, flat_nil⟩
end Go.Proofs.Ytanimjbmkhpnaaa.Gx
