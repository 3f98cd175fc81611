/- Function 17, (*kaudit/kauditmake.Src).N: what it answers as a plain function, and that the Go code comes to exactly that (where the plain function gives an answer). -/
import Derived.Test.YtanimjbmkhpnaaaXT
set_option linter.unusedVariables false
set_option linter.unusedSimpArgs false
namespace Go.Proofs.Ytanimjbmkhpnaaa.Gx
open Go.Gx Go.RowKit
/-! ### (*kaudit/kauditmake.Src).N: function 17 -/
def f_kauditmake_Src_N (a0 : kauditmake_Src) (a1 : Int) : Option (Int × Int) := if (decide (a1 < 1)) = true then (some ((0, a0.at_))) else (if (decide ((IntKind.wrap .i64 (a0.at_ + 1)) ≤ (a0.l.length : Int))) = true then ((at_ a0.l (IntKind.wrap .i64 ((IntKind.wrap .i64 (a0.at_ + 1)) - 1))).bind fun u261 => ck (a1 ≠ 0) (if (decide (((u261 : Int).tmod a1) < 0)) = true then (some (((IntKind.wrap .i64 (((u261 : Int).tmod a1) + a1)), (IntKind.wrap .i64 (a0.at_ + 1))))) else (some ((((u261 : Int).tmod a1), (IntKind.wrap .i64 (a0.at_ + 1))))))) else (ck (a1 ≠ 0) (if (decide ((((IntKind.wrap .i64 ((IntKind.wrap .i64 (a0.at_ + 1)) * 7)) : Int).tmod a1) < 0)) = true then (some (((IntKind.wrap .i64 ((((IntKind.wrap .i64 ((IntKind.wrap .i64 (a0.at_ + 1)) * 7)) : Int).tmod a1) + a1)), (IntKind.wrap .i64 (a0.at_ + 1))))) else (some (((((IntKind.wrap .i64 ((IntKind.wrap .i64 (a0.at_ + 1)) * 7)) : Int).tmod a1), (IntKind.wrap .i64 (a0.at_ + 1))))))))
set_option maxHeartbeats 4000000 in
set_option maxRecDepth 100000 in
theorem C17 (a0 : kauditmake_Src) (a1 : Int) (g_ : Nat) (p172 : Option Addr) (c173 : Nat) (r : Int × Int) (w : World) (h : f_kauditmake_Src_N a0 a1 = some r) : FunM Try.prog 17 #[.pointer (some ⟨g_, 0, none⟩), .int .i64 a1] w g_ [.slice p172 a0.l.length c173, .int .i64 a0.at_] 59 [vw (kSlice 3 (kInt .i64)) a0.l [.slice p172 a0.l.length c173]] (fun (v_ : Value) (A_ : List VP) (I_ : List SP) (N_ : List (List SP)) => v_ = .int .i64 r.1 ∧ A_ = [] ∧ I_ = [blk g_ [.slice p172 a0.l.length c173, .int .i64 (r.2)] 59] ∧ N_ = []) := by
  unfold f_kauditmake_Src_N at h
  refine funM_begin (args := [.pointer (some ⟨g_, 0, none⟩), .int .i64 a1]) Try.func17 rfl Try.ntmps17 rfl fun Z a E H => ?_
  refine wp_seq_k fun _ hK174 => ?_
  refine wp_region_lit ?_
  refine wl_cons (wl_val E rfl (rn_assign E rfl rfl) rfl fun a175 E176 => ?_)
  clear E
  refine wl_nil ?_
  refine then_normal (hK174 _ _ ?_)
  refine wp_seq_k fun _ hK177 => ?_
  refine wp_seq_k fun _ hK178 => ?_
  refine wp_region_lit ?_
  refine wl_cons (wl_val E176 rfl (rn_move E176 rfl rfl) rfl fun a179 E180 => ?_)
  clear E176
  refine wl_cons (wl_val E180 rfl (rn_int E180 rfl rfl rfl rfl) rfl fun a181 E182 => ?_)
  clear E180
  refine wl_nil ?_
  refine then_normal (hK178 _ _ ?_)
  rcases Bool.eq_false_or_eq_true (decide (a1 < 1)) with hb183 | hb183
  · replace h := itT hb183 h
    refine wc_T E182 rfl hb183 ?_
    refine wp_seq_k fun _ hK184 => ?_
    refine wp_region_lit ?_
    refine wl_cons (wl_val E182 rfl (rn_assign E182 rfl rfl) rfl fun a185 E186 => ?_)
    clear E182
    refine wl_nil ?_
    refine then_normal (hK184 _ _ ?_)
    refine wp_ret ?_
    refine then_ret (?_)
    obtain rfl := Option.some.inj h
    replace H : St w (fun b => b = g_) Z w [vw (kSlice 3 (kInt .i64)) a0.l [.slice p172 a0.l.length c173]] [[blk g_ [.slice p172 a0.l.length c173, .int .i64 a0.at_] 59]] := H
    refine wb_ret1 E186 rfl (rv_tmp E186 rfl) ?_
    exact ⟨_, rfl, [], [blk g_ [.slice p172 a0.l.length c173, .int .i64 a0.at_] 59], [], ⟨rfl, rfl, rfl, rfl⟩, H.leave (fun Z hA => trivial) (fun Z S hA hL => Holds_sub (.cons_cons _ .slnil) hL)⟩
  · replace h := itF hb183 h
    refine wc_F E182 rfl hb183 ?_
    refine wp_skip ?_
    refine then_normal (hK177 _ _ ?_)
    refine wp_seq_k fun _ hK187 => ?_
    refine wp_region_lit ?_
    refine wl_cons (wl_val E182 rfl (rn_move E182 rfl rfl) rfl fun a188 E189 => ?_)
    clear E182
    refine wl_cons (wl_val E189 rfl (rn_nilCheck E189 rfl rfl) rfl fun a190 E191 => ?_)
    clear E189
    refine wl_cons (wl_val E191 rfl (rn_fieldAddr E191 rfl Try.underlying59 rfl ti3 rfl rfl) rfl fun a192 E193 => ?_)
    clear E191
    refine wl_cons (wl_val E193 rfl (rn_ld1 (i := 0) E193 H rfl Try.underlying3 rfl rfl rfl rfl) rfl fun a194 E195 => ?_)
    clear E193
    refine wl_cons (wl_val E195 rfl (rn_int E195 rfl rfl rfl rfl) rfl fun a196 E197 => ?_)
    clear E195
    refine wl_cons (wl_val E197 rfl (rn_nilCheck E197 rfl rfl) rfl fun a198 E199 => ?_)
    clear E197
    refine wl_cons (wl_val E199 rfl (rn_fieldAddr E199 rfl Try.underlying59 rfl ti3 rfl rfl) rfl fun a200 E201 => ?_)
    clear E199
    refine wl_cons (wl_store (i := 0) (vs := [.int .i64 (IntKind.wrap .i64 (a0.at_ + 1))]) (cs' := [.slice p172 a0.l.length c173, .int .i64 (IntKind.wrap .i64 (a0.at_ + 1))]) E201 H rfl rfl rfl rfl ti3 rfl rfl rfl rfl rfl rfl fun w204 a202 E203 H' => ?_)
    clear H E201; have H := H'; clear H'
    refine wl_nil ?_
    refine then_normal (hK187 _ _ ?_)
    refine wp_seq_k fun _ hK205 => ?_
    refine wp_region_lit ?_
    refine wl_cons (wl_val E203 rfl (rn_move E203 rfl rfl) rfl fun a206 E207 => ?_)
    clear E203
    refine wl_cons (wl_val E207 rfl (rn_nilCheck E207 rfl rfl) rfl fun a208 E209 => ?_)
    clear E207
    refine wl_cons (wl_val E209 rfl (rn_fieldAddr E209 rfl Try.underlying59 rfl ti3 rfl rfl) rfl fun a210 E211 => ?_)
    clear E209
    refine wl_cons (wl_val E211 rfl (rn_ld1 (i := 0) E211 H rfl Try.underlying3 rfl rfl rfl rfl) rfl fun a212 E213 => ?_)
    clear E211
    refine wl_cons (wl_val E213 rfl (rn_int E213 rfl rfl rfl rfl) rfl fun a214 E215 => ?_)
    clear E213
    refine wl_cons (wl_val E215 rfl (rn_assign E215 rfl rfl) rfl fun a216 E217 => ?_)
    clear E215
    refine wl_nil ?_
    refine then_normal (hK205 _ _ ?_)
    refine wp_seq_k fun _ hK218 => ?_
    refine wp_seq_k fun _ hK219 => ?_
    refine wa_begin mixed (fun w_ => True) [] [] H rfl fun w220 H' => ?_
    clear H; have H := H'; clear H'
    refine wa_take (i := 0) E217 rfl (by kernel_rfl) (panic_then (panic_then panic_body)) rfl (fun w_ => rn_move E217 rfl rfl) rfl fun a221 E222 => ?_
    clear E217
    refine wa_take (i := 1) E222 rfl (by kernel_rfl) (panic_then (panic_then panic_body)) rfl (fun w_ => rn_nilCheck E222 rfl rfl) rfl fun a223 E224 => ?_
    clear E222
    refine wa_take (i := 2) E224 rfl (by kernel_rfl) (panic_then (panic_then panic_body)) rfl (fun w_ => rn_fieldAddr E224 rfl Try.underlying59 rfl ti3 rfl rfl) rfl fun a225 E226 => ?_
    clear E224
    refine wa_takeU (i := 3) E226 rfl (by kernel_rfl) (by kernel_rfl) (panic_then (panic_then panic_body)) rfl (rn_ld1 (i := 0) E226 H rfl Try.underlying3 rfl rfl rfl rfl) rfl fun a227 E228 => ?_
    clear E226
    refine wa_take (i := 4) E228 rfl (by kernel_rfl) (panic_then (panic_then panic_body)) rfl (fun w_ => rn_move E228 rfl rfl) rfl fun a229 E230 => ?_
    clear E228
    refine wa_take (i := 5) E230 rfl (by kernel_rfl) (panic_then (panic_then panic_body)) rfl (fun w_ => rn_nilCheck E230 rfl rfl) rfl fun a231 E232 => ?_
    clear E230
    refine wa_take (i := 6) E232 rfl (by kernel_rfl) (panic_then (panic_then panic_body)) rfl (fun w_ => rn_fieldAddr E232 rfl Try.underlying59 rfl ti22 rfl rfl) rfl fun a233 E234 => ?_
    clear E232
    refine wa_takeU (i := 7) E234 rfl (by kernel_rfl) (by kernel_rfl) (panic_then (panic_then panic_body)) rfl (rn_ld1 (i := 0) E234 H rfl Try.underlying22 rfl rfl rfl rfl) rfl fun a235 E236 => ?_
    clear E234
    refine wa_take (i := 8) E236 rfl (by kernel_rfl) (panic_then (panic_then panic_body)) rfl (fun w_ => rn_len E236 rfl Try.underlying22 rfl) rfl fun a237 E238 => ?_
    clear E236
    refine wa_take (i := 9) E238 rfl (by kernel_rfl) (panic_then (panic_then panic_body)) rfl (fun w_ => rn_int E238 rfl rfl rfl rfl) rfl fun a239 E240 => ?_
    clear E238
    refine wa_done (by kernel_rfl) ?_
    refine then_normal (hK219 _ _ ?_)
    rcases Bool.eq_false_or_eq_true (decide ((IntKind.wrap .i64 (a0.at_ + 1)) ≤ (a0.l.length : Int))) with hb241 | hb241
    · replace h := itT hb241 h
      refine wc_T E240 rfl hb241 ?_
      refine wa_begin mixed (fun w_ => True) [] [] H rfl fun w242 H' => ?_
      clear H; have H := H'; clear H'
      refine wa_take (i := 0) E240 rfl (by kernel_rfl) (panic_then panic_body) rfl (fun w_ => rn_move E240 rfl rfl) rfl fun a243 E244 => ?_
      clear E240
      replace H : St w (fun b => b = g_) Z w242 [vw (kSlice 3 (kInt .i64)) a0.l [.slice p172 a0.l.length c173]] [[blk g_ [.slice p172 a0.l.length c173, .int .i64 (IntKind.wrap .i64 (a0.at_ + 1))] 59]] := H
      refine wa_take (i := 1) E244 rfl (by kernel_rfl) (panic_then panic_body) rfl (fun w_ => rn_nilCheck E244 rfl rfl) rfl fun a245 E246 => ?_
      clear E244
      refine wa_take (i := 2) E246 rfl (by kernel_rfl) (panic_then panic_body) rfl (fun w_ => rn_fieldAddr E246 rfl Try.underlying59 rfl ti22 rfl rfl) rfl fun a247 E248 => ?_
      clear E246
      refine wa_takeU (i := 3) E248 rfl (by kernel_rfl) (by kernel_rfl) (panic_then panic_body) rfl (rn_ld1 (i := 0) E248 H rfl Try.underlying22 rfl rfl rfl rfl) rfl fun a249 E250 => ?_
      clear E248
      refine wa_take (i := 4) E250 rfl (by kernel_rfl) (panic_then panic_body) rfl (fun w_ => rn_move E250 rfl rfl) rfl fun a251 E252 => ?_
      clear E250
      refine wa_take (i := 5) E252 rfl (by kernel_rfl) (panic_then panic_body) rfl (fun w_ => rn_nilCheck E252 rfl rfl) rfl fun a253 E254 => ?_
      clear E252
      refine wa_take (i := 6) E254 rfl (by kernel_rfl) (panic_then panic_body) rfl (fun w_ => rn_fieldAddr E254 rfl Try.underlying59 rfl ti3 rfl rfl) rfl fun a255 E256 => ?_
      clear E254
      refine wa_takeU (i := 7) E256 rfl (by kernel_rfl) (by kernel_rfl) (panic_then panic_body) rfl (rn_ld1 (i := 0) E256 H rfl Try.underlying3 rfl rfl rfl rfl) rfl fun a257 E258 => ?_
      clear E256
      refine wa_take (i := 8) E258 rfl (by kernel_rfl) (panic_then panic_body) rfl (fun w_ => rn_int E258 rfl rfl rfl rfl) rfl fun a259 E260 => ?_
      clear E258
      obtain ⟨u261, hy262, h⟩ := bs h
      obtain ⟨q263, hq264, hr265⟩ := rn_idx (K := (kInt .i64)) (P := Try.prog) (o := ⟨some 39, .indexAddr 22 (.tmp 33) (.tmp 38), 0, "", #[], none⟩) E260 rfl Try.underlying22 ti3 rfl rfl (H.readA (k := 0) rfl) hy262
      refine wa_take (i := 9) E260 rfl (by kernel_rfl) (panic_then panic_body) rfl (fun w_ => (hr265 _)) rfl fun a266 E267 => ?_
      clear E260
      obtain ⟨_, H', hc268⟩ := St.openA (opens_int .i64) H (k := 0) rfl hy262
      replace H := H'; clear H'
      refine wa_takeU (i := 10) E267 rfl (by kernel_rfl) (by kernel_rfl) (panic_then panic_body) rfl (rn_loadI1 E267 rfl Try.underlying3 rfl rfl hq264 hc268 rfl) rfl fun a269 E270 => ?_
      clear E267
      refine wa_take (i := 11) E270 rfl (by kernel_rfl) (panic_then panic_body) rfl (fun w_ => rn_assign E270 rfl rfl) rfl fun a271 E272 => ?_
      clear E270
      refine wa_done (by kernel_rfl) ?_
      refine then_normal (hK218 _ _ ?_)
      refine wp_seq_k fun _ hK273 => ?_
      refine wp_region_lit ?_
      refine wl_cons (wl_val E272 rfl (rn_move E272 rfl rfl) rfl fun a274 E275 => ?_)
      clear E272
      refine wl_cons (wl_val E275 rfl (rn_move E275 rfl rfl) rfl fun a276 E277 => ?_)
      clear E275
      obtain ⟨hc278, h⟩ := ck_out h
      refine wl_cons (wl_val E277 rfl (rn_rem E277 rfl rfl rfl hc278) rfl fun a279 E280 => ?_)
      clear E277
      refine wl_cons (wl_val E280 rfl (rn_assign E280 rfl rfl) rfl fun a281 E282 => ?_)
      clear E280
      refine wl_nil ?_
      refine then_normal (hK273 _ _ ?_)
      refine wp_seq_k fun _ hK283 => ?_
      refine wp_seq_k fun _ hK284 => ?_
      refine wp_region_lit ?_
      refine wl_cons (wl_val E282 rfl (rn_move E282 rfl rfl) rfl fun a285 E286 => ?_)
      clear E282
      refine wl_cons (wl_val E286 rfl (rn_int E286 rfl rfl rfl rfl) rfl fun a287 E288 => ?_)
      clear E286
      refine wl_nil ?_
      refine then_normal (hK284 _ _ ?_)
      rcases Bool.eq_false_or_eq_true (decide (((u261 : Int).tmod a1) < 0)) with hb289 | hb289
      · replace h := itT hb289 h
        refine wc_T E288 rfl hb289 ?_
        refine wp_region_lit ?_
        refine wl_cons (wl_val E288 rfl (rn_move E288 rfl rfl) rfl fun a290 E291 => ?_)
        clear E288
        refine wl_cons (wl_val E291 rfl (rn_move E291 rfl rfl) rfl fun a292 E293 => ?_)
        clear E291
        refine wl_cons (wl_val E293 rfl (rn_int E293 rfl rfl rfl rfl) rfl fun a294 E295 => ?_)
        clear E293
        refine wl_cons (wl_val E295 rfl (rn_assign E295 rfl rfl) rfl fun a296 E297 => ?_)
        clear E295
        refine wl_nil ?_
        refine then_normal (hK283 _ _ ?_)
        refine wp_seq_k fun _ hK298 => ?_
        refine wp_region_lit ?_
        refine wl_cons (wl_val E297 rfl (rn_move E297 rfl rfl) rfl fun a299 E300 => ?_)
        clear E297
        refine wl_cons (wl_val E300 rfl (rn_assign E300 rfl rfl) rfl fun a301 E302 => ?_)
        clear E300
        refine wl_nil ?_
        refine then_normal (hK298 _ _ ?_)
        refine wp_ret ?_
        refine ?_
        obtain rfl := Option.some.inj h
        replace H : St w (fun b => b = g_) Z w242 [vw (kSlice 3 (kInt .i64)) a0.l [.slice p172 a0.l.length c173]] [[blk g_ [.slice p172 a0.l.length c173, .int .i64 (IntKind.wrap .i64 (a0.at_ + 1))] 59]] := H
        refine wb_ret1 E302 rfl (rv_tmp E302 rfl) ?_
        exact ⟨_, rfl, [], [blk g_ [.slice p172 a0.l.length c173, .int .i64 (IntKind.wrap .i64 (a0.at_ + 1))] 59], [], ⟨rfl, rfl, rfl, rfl⟩, H.leave (fun Z hA => trivial) (fun Z S hA hL => Holds_sub (.cons_cons _ .slnil) hL)⟩
      · replace h := itF hb289 h
        refine wc_F E288 rfl hb289 ?_
        refine wp_skip ?_
        refine then_normal (hK283 _ _ ?_)
        refine wp_seq_k fun _ hK303 => ?_
        refine wp_region_lit ?_
        refine wl_cons (wl_val E288 rfl (rn_move E288 rfl rfl) rfl fun a304 E305 => ?_)
        clear E288
        refine wl_cons (wl_val E305 rfl (rn_assign E305 rfl rfl) rfl fun a306 E307 => ?_)
        clear E305
        refine wl_nil ?_
        refine then_normal (hK303 _ _ ?_)
        refine wp_ret ?_
        refine ?_
        obtain rfl := Option.some.inj h
        replace H : St w (fun b => b = g_) Z w242 [vw (kSlice 3 (kInt .i64)) a0.l [.slice p172 a0.l.length c173]] [[blk g_ [.slice p172 a0.l.length c173, .int .i64 (IntKind.wrap .i64 (a0.at_ + 1))] 59]] := H
        refine wb_ret1 E307 rfl (rv_tmp E307 rfl) ?_
        exact ⟨_, rfl, [], [blk g_ [.slice p172 a0.l.length c173, .int .i64 (IntKind.wrap .i64 (a0.at_ + 1))] 59], [], ⟨rfl, rfl, rfl, rfl⟩, H.leave (fun Z hA => trivial) (fun Z S hA hL => Holds_sub (.cons_cons _ .slnil) hL)⟩
    · replace h := itF hb241 h
      refine wc_F E240 rfl hb241 ?_
      refine wp_skip ?_
      refine then_normal (hK218 _ _ ?_)
      refine wp_seq_k fun _ hK308 => ?_
      refine wp_region_lit ?_
      refine wl_cons (wl_val E240 rfl (rn_move E240 rfl rfl) rfl fun a309 E310 => ?_)
      clear E240
      refine wl_cons (wl_val E310 rfl (rn_move E310 rfl rfl) rfl fun a311 E312 => ?_)
      clear E310
      obtain ⟨hc313, h⟩ := ck_out h
      refine wl_cons (wl_val E312 rfl (rn_rem E312 rfl rfl rfl hc313) rfl fun a314 E315 => ?_)
      clear E312
      refine wl_cons (wl_val E315 rfl (rn_assign E315 rfl rfl) rfl fun a316 E317 => ?_)
      clear E315
      refine wl_nil ?_
      refine then_normal (hK308 _ _ ?_)
      refine wp_seq_k fun _ hK318 => ?_
      refine wp_seq_k fun _ hK319 => ?_
      refine wp_region_lit ?_
      refine wl_cons (wl_val E317 rfl (rn_move E317 rfl rfl) rfl fun a320 E321 => ?_)
      clear E317
      refine wl_cons (wl_val E321 rfl (rn_int E321 rfl rfl rfl rfl) rfl fun a322 E323 => ?_)
      clear E321
      refine wl_nil ?_
      refine then_normal (hK319 _ _ ?_)
      rcases Bool.eq_false_or_eq_true (decide ((((IntKind.wrap .i64 ((IntKind.wrap .i64 (a0.at_ + 1)) * 7)) : Int).tmod a1) < 0)) with hb324 | hb324
      · replace h := itT hb324 h
        refine wc_T E323 rfl hb324 ?_
        refine wp_region_lit ?_
        refine wl_cons (wl_val E323 rfl (rn_move E323 rfl rfl) rfl fun a325 E326 => ?_)
        clear E323
        refine wl_cons (wl_val E326 rfl (rn_move E326 rfl rfl) rfl fun a327 E328 => ?_)
        clear E326
        refine wl_cons (wl_val E328 rfl (rn_int E328 rfl rfl rfl rfl) rfl fun a329 E330 => ?_)
        clear E328
        refine wl_cons (wl_val E330 rfl (rn_assign E330 rfl rfl) rfl fun a331 E332 => ?_)
        clear E330
        refine wl_nil ?_
        refine then_normal (hK318 _ _ ?_)
        refine wp_seq_k fun _ hK333 => ?_
        refine wp_region_lit ?_
        refine wl_cons (wl_val E332 rfl (rn_move E332 rfl rfl) rfl fun a334 E335 => ?_)
        clear E332
        refine wl_cons (wl_val E335 rfl (rn_assign E335 rfl rfl) rfl fun a336 E337 => ?_)
        clear E335
        refine wl_nil ?_
        refine then_normal (hK333 _ _ ?_)
        refine wp_ret ?_
        refine ?_
        obtain rfl := Option.some.inj h
        replace H : St w (fun b => b = g_) Z w220 [vw (kSlice 3 (kInt .i64)) a0.l [.slice p172 a0.l.length c173]] [[blk g_ [.slice p172 a0.l.length c173, .int .i64 (IntKind.wrap .i64 (a0.at_ + 1))] 59]] := H
        refine wb_ret1 E337 rfl (rv_tmp E337 rfl) ?_
        exact ⟨_, rfl, [], [blk g_ [.slice p172 a0.l.length c173, .int .i64 (IntKind.wrap .i64 (a0.at_ + 1))] 59], [], ⟨rfl, rfl, rfl, rfl⟩, H.leave (fun Z hA => trivial) (fun Z S hA hL => Holds_sub (.cons_cons _ .slnil) hL)⟩
      · replace h := itF hb324 h
        refine wc_F E323 rfl hb324 ?_
        refine wp_skip ?_
        refine then_normal (hK318 _ _ ?_)
        refine wp_seq_k fun _ hK338 => ?_
        refine wp_region_lit ?_
        refine wl_cons (wl_val E323 rfl (rn_move E323 rfl rfl) rfl fun a339 E340 => ?_)
        clear E323
        refine wl_cons (wl_val E340 rfl (rn_assign E340 rfl rfl) rfl fun a341 E342 => ?_)
        clear E340
        refine wl_nil ?_
        refine then_normal (hK338 _ _ ?_)
        refine wp_ret ?_
        refine ?_
        obtain rfl := Option.some.inj h
        replace H : St w (fun b => b = g_) Z w220 [vw (kSlice 3 (kInt .i64)) a0.l [.slice p172 a0.l.length c173]] [[blk g_ [.slice p172 a0.l.length c173, .int .i64 (IntKind.wrap .i64 (a0.at_ + 1))] 59]] := H
        refine wb_ret1 E342 rfl (rv_tmp E342 rfl) ?_
        exact ⟨_, rfl, [], [blk g_ [.slice p172 a0.l.length c173, .int .i64 (IntKind.wrap .i64 (a0.at_ + 1))] 59], [], ⟨rfl, rfl, rfl, rfl⟩, H.leave (fun Z hA => trivial) (fun Z S hA hL => Holds_sub (.cons_cons _ .slnil) hL)⟩
end Go.Proofs.Ytanimjbmkhpnaaa.Gx
