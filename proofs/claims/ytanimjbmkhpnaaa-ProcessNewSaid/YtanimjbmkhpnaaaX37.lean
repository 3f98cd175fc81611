/- Function 37, kaudit/process.place: what it answers as a plain function, and that the Go code comes to exactly that (where the plain function gives an answer). -/
import Derived.Test.YtanimjbmkhpnaaaXT
import Derived.Test.YtanimjbmkhpnaaaX59
set_option linter.unusedVariables false
set_option linter.unusedSimpArgs false
namespace Go.Proofs.Ytanimjbmkhpnaaa.Gx
open Go.Gx Go.RowKit
/-! ### kaudit/process.place: function 37 -/
def f_process_place_l1 (a0 : api_Table) (a1 : Int) : Nat → Int → Int → Option (Int)
  | 0, _, _ => none
  | k_ + 1, x172, x173 => if (decide (x172 < x173)) = true then ((at_ a0.Processes (IntKind.wrap .i64 (((IntKind.wrap .u64 (IntKind.wrap .i64 (x172 + x173))) : Int).fdiv (2 ^ (min (1 : Int).toNat (IntKind.bits .u64)))))).bind fun u212 => (f_process_place_1 u212 a1).bind fun y226 => if (decide (y226 < 0)) = true then (f_process_place_l1 a0 a1 k_ (IntKind.wrap .i64 ((IntKind.wrap .i64 (((IntKind.wrap .u64 (IntKind.wrap .i64 (x172 + x173))) : Int).fdiv (2 ^ (min (1 : Int).toNat (IntKind.bits .u64))))) + 1)) x173) else (f_process_place_l1 a0 a1 k_ x172 (IntKind.wrap .i64 (((IntKind.wrap .u64 (IntKind.wrap .i64 (x172 + x173))) : Int).fdiv (2 ^ (min (1 : Int).toNat (IntKind.bits .u64))))))) else (some (x172))
def f_process_place (a0 : api_Table) (a1 : Int) : Option (Int × Bool) := (f_process_place_l1 a0 a1 (((((a0.Processes.length : Int) : Int) - (0)).toNat + 1)) 0 (a0.Processes.length : Int)).bind fun x172 => if (decide (x172 < (a0.Processes.length : Int))) = true then ((at_ a0.Processes x172).bind fun u262 => (f_process_place_1 u262 a1).bind fun y276 => some ((x172, (y276 == 0)))) else (some ((x172, false)))
set_option maxHeartbeats 4000000 in
set_option maxRecDepth 100000 in
theorem C37 (a0 : api_Table) (a1 : Int) (p3 : Option Addr) (c4 : Nat) (r : Int × Bool) (w : World) (h : f_process_place a0 a1 = some r) : Fun Try.prog 37 #[.agg #[.int .i64 a0.Next, .int .i64 a0.NextSession, .slice p3 a0.Processes.length c4], .int .i64 a1] w [vw (kSlice 38 k_api_Process) a0.Processes [.slice p3 a0.Processes.length c4]] (fun (v_ : Value) (A_ : List VP) (N_ : List (List SP)) => v_ = .tuple #[.int .i64 r.1, .bool r.2] ∧ A_ = [] ∧ N_ = []) := by
  unfold f_process_place at h
  refine fun_begin (args := [.agg #[.int .i64 a0.Next, .int .i64 a0.NextSession, .slice p3 a0.Processes.length c4], .int .i64 a1]) Try.func37 rfl Try.ntmps37 rfl fun Z a E H => ?_
  refine wp_seq_k fun _ hK5 => ?_
  refine wp_region_lit ?_
  refine wl_cons (wl_box (T := 28) (cs := [.int .i64 a0.Next, .int .i64 a0.NextSession, .slice p3 a0.Processes.length c4]) E H rfl rfl rfl rfl fun g6 w7 a8 E9 H' => ?_)
  clear H E; have H := H'; clear H'
  refine wl_cons (wl_val E9 rfl (rn_assign E9 rfl rfl) rfl fun a10 E11 => ?_)
  clear E9
  refine wl_cons (wl_val E11 rfl (rn_assign E11 rfl rfl) rfl fun a12 E13 => ?_)
  clear E11
  refine wl_nil ?_
  refine then_normal (hK5 _ _ ?_)
  refine wp_seq_k fun _ hK14 => ?_
  refine wp_region_lit ?_
  refine wl_cons (wl_val E13 rfl (rn_fieldAddr E13 rfl Try.underlying28 rfl ti26 rfl rfl) rfl fun a15 E16 => ?_)
  clear E13
  refine wl_cons (wl_val E16 rfl (rn_ld1 (i := 0) E16 H rfl Try.underlying26 rfl rfl rfl rfl) rfl fun a17 E18 => ?_)
  clear E16
  refine wl_cons (wl_val E18 rfl (rn_move E18 rfl rfl) rfl fun a19 E20 => ?_)
  clear E18
  refine wl_cons (wl_in rfl (rn_callC (args := [.slice p3 a0.Processes.length c4, .int .i64 a1, .func (.func 59) #[] #[]]) (cap := []) (all := [.slice p3 a0.Processes.length c4, .int .i64 a1, .func (.func 59) #[] #[]]) E20 rfl rfl rfl Try.func58 nm58 rfl rfl) Try.func58 rfl fun a21 he22 => ?_)
  have E23 : Env 49 a21 (enumA 0 [.slice p3 a0.Processes.length c4, .int .i64 a1, .func (.func 59) #[] #[]]) := he22 ▸ Env.init Try.ntmps58 rfl
  clear he22
  refine wp_seq_k fun _ hK24 => ?_
  refine wp_region_lit ?_
  refine wl_cons (wl_val E23 rfl (rn_assign E23 rfl rfl) rfl fun a25 E26 => ?_)
  clear E23
  refine wl_cons (wl_val E26 rfl (rn_assign E26 rfl rfl) rfl fun a27 E28 => ?_)
  clear E26
  refine wl_nil ?_
  refine then_normal (hK24 _ _ ?_)
  refine wp_seq_k fun _ hK29 => ?_
  refine wp_region_lit ?_
  refine wl_cons (wl_val E28 rfl (rn_move E28 rfl rfl) rfl fun a30 E31 => ?_)
  clear E28
  refine wl_cons (wl_val E31 rfl (rn_len E31 rfl Try.underlying26 rfl) rfl fun a32 E33 => ?_)
  clear E31
  refine wl_cons (wl_val E33 rfl (rn_assign E33 rfl rfl) rfl fun a34 E35 => ?_)
  clear E33
  refine wl_nil ?_
  refine then_normal (hK29 _ _ ?_)
  refine wp_seq_k fun _ hK36 => ?_
  refine wp_region_lit ?_
  refine wl_cons (wl_val E35 rfl (rn_move E35 rfl rfl) rfl fun a37 E38 => ?_)
  clear E35
  refine wl_cons (wl_val E38 rfl (rn_assign E38 rfl rfl) rfl fun a39 E40 => ?_)
  clear E38
  refine wl_cons (wl_val E40 rfl (rn_assign E40 rfl rfl) rfl fun a41 E42 => ?_)
  clear E40
  refine wl_nil ?_
  refine then_normal (hK36 _ _ ?_)
  refine wp_seq_k fun _ hK43 => ?_
  refine wp_block ?_
  obtain ⟨o174, ho175, h⟩ := bs h
  refine wc_loop (fun k_ a_ w_ => ∃ (x172 : Int) (x173 : Int), Env 49 a_ [(0, .slice p3 a0.Processes.length c4), (1, .int .i64 a1), (2, .func (.func 59) #[] #[]), (6, .int .i64 0), (7, .bool false), (8, .int .i64 (a0.Processes.length : Int)), (9, .int .i64 x172), (10, .int .i64 x173), (12, .slice p3 a0.Processes.length c4), (13, .int .i64 (a0.Processes.length : Int)), (14, .int .i64 (a0.Processes.length : Int))] ∧ St w Nil Z w_ [vw (kSlice 38 k_api_Process) a0.Processes [.slice p3 a0.Processes.length c4]] [[blk g6 [.int .i64 a0.Next, .int .i64 a0.NextSession, .slice p3 a0.Processes.length c4] 28]] ∧ f_process_place_l1 a0 a1 k_ x172 x173 = some o174) (((((a0.Processes.length : Int) : Int) - (0)).toNat + 1)) ?_ ?_ ?_
  · exact ⟨0, (a0.Processes.length : Int), E42.pick ⟨rfl, rfl, rfl, rfl, rfl, rfl, rfl, rfl, rfl, rfl, rfl, trivial⟩, H, ho175⟩
  · rintro _ _ ⟨_, _, _, _, h_⟩
    rw [f_process_place_l1] at h_; cases h_
  · rintro k176 a177 w178 ⟨x172, x173, E179, H', h180⟩
    rw [f_process_place_l1] at h180
    clear H; have H := H'; clear H'
    refine wp_seq_k fun _ hK181 => ?_
    refine wp_seq_k fun _ hK182 => ?_
    refine wp_region_lit ?_
    refine wl_cons (wl_val E179 rfl (rn_move E179 rfl rfl) rfl fun a183 E184 => ?_)
    clear E179
    refine wl_cons (wl_val E184 rfl (rn_move E184 rfl rfl) rfl fun a185 E186 => ?_)
    clear E184
    refine wl_cons (wl_val E186 rfl (rn_int E186 rfl rfl rfl rfl) rfl fun a187 E188 => ?_)
    clear E186
    refine wl_nil ?_
    refine then_normal (hK182 _ _ ?_)
    rcases Bool.eq_false_or_eq_true (decide (x172 < x173)) with hb189 | hb189
    · replace h180 := itT hb189 h180
      refine wc_T E188 rfl hb189 ?_
      refine wp_skip ?_
      refine then_normal (hK181 _ _ ?_)
      refine wp_block ?_
      refine wp_seq_k fun _ hK190 => ?_
      refine wp_region_lit ?_
      refine wl_cons (wl_val E188 rfl (rn_move E188 rfl rfl) rfl fun a191 E192 => ?_)
      clear E188
      refine wl_cons (wl_val E192 rfl (rn_move E192 rfl rfl) rfl fun a193 E194 => ?_)
      clear E192
      refine wl_cons (wl_val E194 rfl (rn_int E194 rfl rfl rfl rfl) rfl fun a195 E196 => ?_)
      clear E194
      refine wl_cons (wl_val E196 rfl (rn_convInt E196 rfl Try.underlying3 Try.underlying100 rfl) rfl fun a197 E198 => ?_)
      clear E196
      refine wl_cons (wl_val E198 rfl (rn_shr E198 rfl rfl rfl (by omega)) rfl fun a199 E200 => ?_)
      clear E198
      refine wl_cons (wl_val E200 rfl (rn_convInt E200 rfl Try.underlying100 Try.underlying3 rfl) rfl fun a201 E202 => ?_)
      clear E200
      refine wl_cons (wl_val E202 rfl (rn_assign E202 rfl rfl) rfl fun a203 E204 => ?_)
      clear E202
      refine wl_nil ?_
      refine then_normal (hK190 _ _ ?_)
      refine wp_seq_k fun _ hK205 => ?_
      refine wp_region_lit ?_
      refine wl_cons (wl_val E204 rfl (rn_move E204 rfl rfl) rfl fun a206 E207 => ?_)
      clear E204
      refine wl_cons (wl_val E207 rfl (rn_move E207 rfl rfl) rfl fun a208 E209 => ?_)
      clear E207
      refine wl_cons (wl_val E209 rfl (rn_move E209 rfl rfl) rfl fun a210 E211 => ?_)
      clear E209
      obtain ⟨u212, hy213, h180⟩ := bs h180
      obtain ⟨q214, hq215, hr216⟩ := rn_idx (K := k_api_Process) (P := Try.prog) (o := ⟨some 27, .indexAddr 26 (.tmp 25) (.tmp 26), 0, "", #[], none⟩) E211 rfl Try.underlying26 ti38 rfl rfl (H.readA (k := 0) rfl) hy213
      refine wl_cons (wl_val E211 rfl ((hr216 _)) rfl fun a217 E218 => ?_)
      clear E211
      obtain ⟨⟨p220, c221⟩, H', hc219⟩ := St.openA k_api_Process_opens H (k := 0) rfl hy213
      replace H := H'; clear H'
      refine wl_cons (wl_val E218 rfl (rn_loadIN (vs := [.int .i64 u212.PID, .int .i64 u212.PPID, .int .i64 u212.UID, .int .i64 u212.EUID, .int .i64 u212.GID, .int .i64 u212.EGID, .int .i64 u212.AUID, .int .i64 u212.Session, .int .i64 u212.Cwd.Dev, .int .i64 u212.Cwd.Ino, .string u212.Comm, .string u212.Exe, .slice p220 u212.Open.length c221, .bool u212.Audited]) E218 rfl Try.underlying38 rfl ti38 rfl hq215 hc219 rfl rfl) rfl fun a222 E223 => ?_)
      clear E218
      refine wl_cons (wl_val E223 rfl (rn_move E223 rfl rfl) rfl fun a224 E225 => ?_)
      clear E223
      obtain ⟨y226, hy227, h180⟩ := bs h180
      refine wl_cons (wl_fun E225 H rfl (rn_call (args := [.agg #[.int .i64 u212.PID, .int .i64 u212.PPID, .int .i64 u212.UID, .int .i64 u212.EUID, .int .i64 u212.GID, .int .i64 u212.EGID, .int .i64 u212.AUID, .int .i64 u212.Session, .int .i64 u212.Cwd.Dev, .int .i64 u212.Cwd.Ino, .string u212.Comm, .string u212.Exe, .slice p220 u212.Open.length c221, .bool u212.Audited], .int .i64 a1]) E225 rfl rfl rfl Try.func59 nm59 rfl) rfl (by exact fun Z hA => ⟨(argHolds_get hA (k := 1) rfl), trivial⟩) (C59 u212 a1 p220 c221 _ _ hy227) ?_)
      rintro v_ A_ N_ w230 a228 ⟨rfl, rfl, rfl⟩ E229 H'
      replace H := H'; clear H' E225
      replace H : St w Nil Z w230 [vw (kSlice 38 k_api_Process) a0.Processes [.slice p3 a0.Processes.length c4], vw (kSlice 81 k_api_Descriptor) u212.Open [.slice p220 u212.Open.length c221]] [[blk g6 [.int .i64 a0.Next, .int .i64 a0.NextSession, .slice p3 a0.Processes.length c4] 28]] := H
      refine wl_cons (wl_val E229 rfl (rn_int E229 rfl rfl rfl rfl) rfl fun a231 E232 => ?_)
      clear E229
      refine wl_nil ?_
      refine then_normal (hK205 _ _ ?_)
      rcases Bool.eq_false_or_eq_true (decide (y226 < 0)) with hb233 | hb233
      · replace h180 := itT hb233 h180
        refine wc_T E232 rfl hb233 ?_
        refine wp_region_lit ?_
        refine wl_cons (wl_val E232 rfl (rn_move E232 rfl rfl) rfl fun a234 E235 => ?_)
        clear E232
        refine wl_cons (wl_val E235 rfl (rn_int E235 rfl rfl rfl rfl) rfl fun a236 E237 => ?_)
        clear E235
        refine wl_cons (wl_val E237 rfl (rn_assign E237 rfl rfl) rfl fun a238 E239 => ?_)
        clear E237
        refine wl_nil ?_
        refine block_normal ?_
        replace H : St w Nil Z w230 [vw (kSlice 38 k_api_Process) a0.Processes [.slice p3 a0.Processes.length c4], vw (kSlice 81 k_api_Descriptor) u212.Open [.slice p220 u212.Open.length c221]] ([[blk g6 [.int .i64 a0.Next, .int .i64 a0.NextSession, .slice p3 a0.Processes.length c4] 28]] ++ []) := H
        exact ⟨(IntKind.wrap .i64 ((IntKind.wrap .i64 (((IntKind.wrap .u64 (IntKind.wrap .i64 (x172 + x173))) : Int).fdiv (2 ^ (min (1 : Int).toNat (IntKind.bits .u64))))) + 1)), x173, E239.pick ⟨rfl, rfl, rfl, rfl, rfl, rfl, rfl, rfl, rfl, rfl, rfl, trivial⟩, H.front.sel (fun Z hA => ⟨(argHolds_get hA (k := 0) rfl), trivial⟩), h180⟩
      · replace h180 := itF hb233 h180
        refine wc_F E232 rfl hb233 ?_
        refine wp_region_lit ?_
        refine wl_cons (wl_val E232 rfl (rn_move E232 rfl rfl) rfl fun a240 E241 => ?_)
        clear E232
        refine wl_cons (wl_val E241 rfl (rn_assign E241 rfl rfl) rfl fun a242 E243 => ?_)
        clear E241
        refine wl_nil ?_
        refine block_normal ?_
        replace H : St w Nil Z w230 [vw (kSlice 38 k_api_Process) a0.Processes [.slice p3 a0.Processes.length c4], vw (kSlice 81 k_api_Descriptor) u212.Open [.slice p220 u212.Open.length c221]] ([[blk g6 [.int .i64 a0.Next, .int .i64 a0.NextSession, .slice p3 a0.Processes.length c4] 28]] ++ []) := H
        exact ⟨x172, (IntKind.wrap .i64 (((IntKind.wrap .u64 (IntKind.wrap .i64 (x172 + x173))) : Int).fdiv (2 ^ (min (1 : Int).toNat (IntKind.bits .u64))))), E243.pick ⟨rfl, rfl, rfl, rfl, rfl, rfl, rfl, rfl, rfl, rfl, rfl, trivial⟩, H.front.sel (fun Z hA => ⟨(argHolds_get hA (k := 0) rfl), trivial⟩), h180⟩
    · replace h180 := itF hb189 h180
      refine wc_F E188 rfl hb189 ?_
      refine wp_exit ?_
      obtain rfl := Option.some.inj h180
      try dsimp only at h
      refine then_exit (then_exit (block_exit (?_)))
      refine then_normal (hK43 _ _ ?_)
      refine wp_seq_k fun _ hK244 => ?_
      refine wp_region_lit ?_
      refine wl_cons (wl_val E188 rfl (rn_move E188 rfl rfl) rfl fun a245 E246 => ?_)
      clear E188
      refine wl_cons (wl_val E246 rfl (rn_move E246 rfl rfl) rfl fun a247 E248 => ?_)
      clear E246
      refine wl_cons (wl_val E248 rfl (rn_move E248 rfl rfl) rfl fun a249 E250 => ?_)
      clear E248
      refine wl_cons (wl_val E250 rfl (rn_int E250 rfl rfl rfl rfl) rfl fun a251 E252 => ?_)
      clear E250
      refine wl_cons (wl_val E252 rfl (rn_move E252 rfl rfl) rfl fun a253 E254 => ?_)
      clear E252
      rcases Bool.eq_false_or_eq_true (decide (x172 < (a0.Processes.length : Int))) with hb255 | hb255
      · replace h := itT hb255 h
        refine wl_cons (wl_val E254 (E254.wantedB rfl rfl rfl hb255) (rn_move E254 rfl rfl) rfl fun a256 E257 => ?_)
        clear E254
        refine wl_cons (wl_val E257 (E257.wantedB rfl rfl rfl hb255) (rn_move E257 rfl rfl) rfl fun a258 E259 => ?_)
        clear E257
        refine wl_cons (wl_val E259 (E259.wantedB rfl rfl rfl hb255) (rn_move E259 rfl rfl) rfl fun a260 E261 => ?_)
        clear E259
        obtain ⟨u262, hy263, h⟩ := bs h
        obtain ⟨q264, hq265, hr266⟩ := rn_idx (K := k_api_Process) (P := Try.prog) (o := ⟨some 43, .indexAddr 26 (.tmp 41) (.tmp 42), 0, "", #[], none⟩) E261 rfl Try.underlying26 ti38 rfl rfl (H.readA (k := 0) rfl) hy263
        refine wl_cons (wl_val E261 (E261.wantedB rfl rfl rfl hb255) ((hr266 _)) rfl fun a267 E268 => ?_)
        clear E261
        obtain ⟨⟨p270, c271⟩, H', hc269⟩ := St.openA k_api_Process_opens H (k := 0) rfl hy263
        replace H := H'; clear H'
        refine wl_cons (wl_val E268 (E268.wantedB rfl rfl rfl hb255) (rn_loadIN (vs := [.int .i64 u262.PID, .int .i64 u262.PPID, .int .i64 u262.UID, .int .i64 u262.EUID, .int .i64 u262.GID, .int .i64 u262.EGID, .int .i64 u262.AUID, .int .i64 u262.Session, .int .i64 u262.Cwd.Dev, .int .i64 u262.Cwd.Ino, .string u262.Comm, .string u262.Exe, .slice p270 u262.Open.length c271, .bool u262.Audited]) E268 rfl Try.underlying38 rfl ti38 rfl hq265 hc269 rfl rfl) rfl fun a272 E273 => ?_)
        clear E268
        refine wl_cons (wl_val E273 (E273.wantedB rfl rfl rfl hb255) (rn_move E273 rfl rfl) rfl fun a274 E275 => ?_)
        clear E273
        obtain ⟨y276, hy277, h⟩ := bs h
        refine wl_cons (wl_fun E275 H (E275.wantedB rfl rfl rfl hb255) (rn_call (args := [.agg #[.int .i64 u262.PID, .int .i64 u262.PPID, .int .i64 u262.UID, .int .i64 u262.EUID, .int .i64 u262.GID, .int .i64 u262.EGID, .int .i64 u262.AUID, .int .i64 u262.Session, .int .i64 u262.Cwd.Dev, .int .i64 u262.Cwd.Ino, .string u262.Comm, .string u262.Exe, .slice p270 u262.Open.length c271, .bool u262.Audited], .int .i64 a1]) E275 rfl rfl rfl Try.func59 nm59 rfl) rfl (by exact fun Z hA => ⟨(argHolds_get hA (k := 1) rfl), trivial⟩) (C59 u262 a1 p270 c271 _ _ hy277) ?_)
        rintro v_ A_ N_ w280 a278 ⟨rfl, rfl, rfl⟩ E279 H'
        replace H := H'; clear H' E275
        replace H : St w Nil Z w280 [vw (kSlice 38 k_api_Process) a0.Processes [.slice p3 a0.Processes.length c4], vw (kSlice 81 k_api_Descriptor) u262.Open [.slice p270 u262.Open.length c271]] [[blk g6 [.int .i64 a0.Next, .int .i64 a0.NextSession, .slice p3 a0.Processes.length c4] 28]] := H
        refine wl_cons (wl_val E279 (E279.wantedB rfl rfl rfl hb255) (rn_int E279 rfl rfl rfl rfl) rfl fun a281 E282 => ?_)
        clear E279
        refine wl_cons (wl_val E282 rfl (rn_pickT E282 rfl rfl hb255 rfl) rfl fun a283 E284 => ?_)
        clear E282
        refine wl_cons (wl_val E284 rfl (rn_assign E284 rfl rfl) rfl fun a285 E286 => ?_)
        clear E284
        refine wl_cons (wl_val E286 rfl (rn_assign E286 rfl rfl) rfl fun a287 E288 => ?_)
        clear E286
        refine wl_nil ?_
        refine then_normal (hK244 _ _ ?_)
        refine wp_ret ?_
        refine ?_
        refine wb_ret2 E288 rfl (rv_tmp E288 rfl) (rv_tmp E288 rfl) ⟨_, rfl, ?_⟩
        have E289 := Env.put E20 (d := 9) rfl (.tuple #[.int .i64 x172, .bool (y276 == 0)])
        generalize hae : Act.put _ (some 9) _ = a290 at E289 ⊢; clear hae
        refine wl_cons (wl_val E289 rfl (rn_extract E289 rfl rfl rfl) rfl fun a291 E292 => ?_)
        clear E289
        refine wl_cons (wl_val E292 rfl (rn_extract E292 rfl rfl rfl) rfl fun a293 E294 => ?_)
        clear E292
        refine wl_cons (wl_val E294 rfl (rn_assign E294 rfl rfl) rfl fun a295 E296 => ?_)
        clear E294
        refine wl_cons (wl_val E296 rfl (rn_assign E296 rfl rfl) rfl fun a297 E298 => ?_)
        clear E296
        refine wl_nil ?_
        refine then_normal (hK14 _ _ ?_)
        refine wp_ret ?_
        refine ?_
        obtain rfl := Option.some.inj h
        refine wb_ret2 E298 rfl (rv_tmp E298 rfl) (rv_tmp E298 rfl) ?_
        exact ⟨_, rfl, [], [], ⟨rfl, rfl, rfl⟩, H.leave (fun Z hA => trivial) (fun Z S hA hL => trivial)⟩
      · replace h := itF hb255 h
        refine wl_cons (wl_pass E254 (E254.unwanted rfl rfl rfl hb255) rfl fun a299 E300 => ?_)
        clear E254
        refine wl_cons (wl_pass E300 (E300.unwanted rfl rfl rfl hb255) rfl fun a301 E302 => ?_)
        clear E300
        refine wl_cons (wl_pass E302 (E302.unwanted rfl rfl rfl hb255) rfl fun a303 E304 => ?_)
        clear E302
        refine wl_cons (wl_pass E304 (E304.unwanted rfl rfl rfl hb255) rfl fun a305 E306 => ?_)
        clear E304
        refine wl_cons (wl_pass E306 (E306.unwanted rfl rfl rfl hb255) rfl fun a307 E308 => ?_)
        clear E306
        refine wl_cons (wl_pass E308 (E308.unwanted rfl rfl rfl hb255) rfl fun a309 E310 => ?_)
        clear E308
        refine wl_cons (wl_pass E310 (E310.unwanted rfl rfl rfl hb255) rfl fun a311 E312 => ?_)
        clear E310
        refine wl_cons (wl_pass E312 (E312.unwanted rfl rfl rfl hb255) rfl fun a313 E314 => ?_)
        clear E312
        refine wl_cons (wl_val E314 rfl (rn_pickF E314 rfl rfl hb255 rfl) rfl fun a315 E316 => ?_)
        clear E314
        refine wl_cons (wl_val E316 rfl (rn_assign E316 rfl rfl) rfl fun a317 E318 => ?_)
        clear E316
        refine wl_cons (wl_val E318 rfl (rn_assign E318 rfl rfl) rfl fun a319 E320 => ?_)
        clear E318
        refine wl_nil ?_
        refine then_normal (hK244 _ _ ?_)
        refine wp_ret ?_
        refine ?_
        refine wb_ret2 E320 rfl (rv_tmp E320 rfl) (rv_tmp E320 rfl) ⟨_, rfl, ?_⟩
        have E321 := Env.put E20 (d := 9) rfl (.tuple #[.int .i64 x172, .bool false])
        generalize hae : Act.put _ (some 9) _ = a322 at E321 ⊢; clear hae
        refine wl_cons (wl_val E321 rfl (rn_extract E321 rfl rfl rfl) rfl fun a323 E324 => ?_)
        clear E321
        refine wl_cons (wl_val E324 rfl (rn_extract E324 rfl rfl rfl) rfl fun a325 E326 => ?_)
        clear E324
        refine wl_cons (wl_val E326 rfl (rn_assign E326 rfl rfl) rfl fun a327 E328 => ?_)
        clear E326
        refine wl_cons (wl_val E328 rfl (rn_assign E328 rfl rfl) rfl fun a329 E330 => ?_)
        clear E328
        refine wl_nil ?_
        refine then_normal (hK14 _ _ ?_)
        refine wp_ret ?_
        refine ?_
        obtain rfl := Option.some.inj h
        refine wb_ret2 E330 rfl (rv_tmp E330 rfl) (rv_tmp E330 rfl) ?_
        exact ⟨_, rfl, [], [], ⟨rfl, rfl, rfl⟩, H.leave (fun Z hA => trivial) (fun Z S hA hL => trivial)⟩
theorem C37_flat {r : Int × Bool} : ∀ v_ A_ N_, (fun (v_ : Value) (A_ : List VP) (N_ : List (List SP)) => v_ = .tuple #[.int .i64 r.1, .bool r.2] ∧ A_ = [] ∧ N_ = []) v_ A_ N_ → A_ = [] ∧ Flat N_ := by
  rintro v_ A_ N_ ⟨rfl, rfl, rfl⟩
  exact ⟨rfl, flat_nil⟩
end Go.Proofs.Ytanimjbmkhpnaaa.Gx
