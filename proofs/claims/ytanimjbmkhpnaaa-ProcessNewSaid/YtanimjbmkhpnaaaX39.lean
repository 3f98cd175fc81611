/- Function 39, kaudit/process.between: what it answers as a plain function, and that the Go code comes to exactly that (where the plain function gives an answer). -/
import Derived.Test.YtanimjbmkhpnaaaXT
set_option linter.unusedVariables false
set_option linter.unusedSimpArgs false
namespace Go.Proofs.Ytanimjbmkhpnaaa.Gx
open Go.Gx Go.RowKit
/-! ### kaudit/process.between: function 39 -/
def f_process_between_l1 (a0 : Int) (a1 : (List Int)) : Nat → Int → Option (Sum (Unit) (Bool))
  | 0, _ => none
  | k_ + 1, x205 => if (decide (x205 < (a1.length : Int))) = true then ((at_ a1 x205).bind fun u231 => if (decide (u231 < 0)) = true then (some (Sum.inr ((!(decide (x205 ≥ 0)))))) else (if (decide (u231 > a0)) = true then (some (Sum.inr ((!(decide (x205 ≥ 0)))))) else (f_process_between_l1 a0 a1 k_ (IntKind.wrap .i64 (x205 + 1))))) else (some (Sum.inl ()))
def f_process_between (a0 : Int) (a1 : (List Int)) : Option (Bool) := (f_process_between_l1 a0 a1 (((((a1.length : Int) : Int) - (0)).toNat + 1)) 0).bind fun o_ => match o_ with | Sum.inl _ => some ((!(decide ((-1) ≥ 0)))) | Sum.inr r_ => some (r_)
set_option maxHeartbeats 4000000 in
set_option maxRecDepth 100000 in
theorem C39 (a0 : Int) (a1 : (List Int)) (p3 : Option Addr) (c4 : Nat) (r : Bool) (w : World) (h : f_process_between a0 a1 = some r) : Fun Try.prog 39 #[.int .i64 a0, .slice p3 a1.length c4] w [vw (kSlice 3 (kInt .i64)) a1 [.slice p3 a1.length c4]] (fun (v_ : Value) (A_ : List VP) (N_ : List (List SP)) => v_ = .bool r ∧ A_ = [] ∧ N_ = []) := by
  unfold f_process_between at h
  refine fun_begin (args := [.int .i64 a0, .slice p3 a1.length c4]) Try.func39 rfl Try.ntmps39 rfl fun Z a E H => ?_
  refine wp_seq_k fun _ hK5 => ?_
  refine wp_region_lit ?_
  refine wl_cons (wl_box (T := 3) (cs := [.int .i64 a0]) E H rfl rfl rfl rfl fun g6 w7 a8 E9 H' => ?_)
  clear H E; have H := H'; clear H'
  refine wl_cons (wl_val E9 rfl (rn_assign E9 rfl rfl) rfl fun a10 E11 => ?_)
  clear E9
  refine wl_nil ?_
  refine then_normal (hK5 _ _ ?_)
  refine wp_seq_k fun _ hK12 => ?_
  refine wp_region_lit ?_
  refine wl_cons (wl_val E11 rfl (rn_move E11 rfl rfl) rfl fun a13 E14 => ?_)
  clear E11
  refine wl_cons (wl_val E14 rfl (rn_makeFunc (vs := [.pointer (some ⟨g6, 0, none⟩)]) E14 rfl rfl) rfl fun a15 E16 => ?_)
  clear E14
  refine wl_cons (wl_in rfl (rn_callC (args := [.slice p3 a1.length c4, .func (.func 62) #[] #[.pointer (some ⟨g6, 0, none⟩)]]) (cap := []) (all := [.slice p3 a1.length c4, .func (.func 62) #[] #[.pointer (some ⟨g6, 0, none⟩)]]) E16 rfl rfl rfl Try.func61 nm61 rfl rfl) Try.func61 rfl fun a17 he18 => ?_)
  have E19 : Env 9 a17 (enumA 0 [.slice p3 a1.length c4, .func (.func 62) #[] #[.pointer (some ⟨g6, 0, none⟩)]]) := he18 ▸ Env.init Try.ntmps61 rfl
  clear he18
  refine wp_seq_k fun _ hK20 => ?_
  refine wp_region_lit ?_
  refine wl_cons (wl_val E19 rfl (rn_assign E19 rfl rfl) rfl fun a21 E22 => ?_)
  clear E19
  refine wl_nil ?_
  refine then_normal (hK20 _ _ ?_)
  refine wp_seq_k fun _ hK23 => ?_
  refine wp_region_lit ?_
  refine wl_cons (wl_val E22 rfl (rn_move E22 rfl rfl) rfl fun a24 E25 => ?_)
  clear E22
  refine wl_cons (wl_val E25 rfl (rn_move E25 rfl rfl) rfl fun a26 E27 => ?_)
  clear E25
  refine wl_cons (wl_in rfl (rn_callC (args := [.slice p3 a1.length c4, .func (.func 62) #[] #[.pointer (some ⟨g6, 0, none⟩)]]) (cap := []) (all := [.slice p3 a1.length c4, .func (.func 62) #[] #[.pointer (some ⟨g6, 0, none⟩)]]) E27 rfl rfl rfl Try.func72 nm72 rfl rfl) Try.func72 rfl fun a28 he29 => ?_)
  have E30 : Env 19 a28 (enumA 0 [.slice p3 a1.length c4, .func (.func 62) #[] #[.pointer (some ⟨g6, 0, none⟩)]]) := he29 ▸ Env.init Try.ntmps72 rfl
  clear he29
  refine wp_seq_k fun _ hK31 => ?_
  refine wp_region_lit ?_
  refine wl_cons (wl_val E30 rfl (rn_assign E30 rfl rfl) rfl fun a32 E33 => ?_)
  clear E30
  refine wl_nil ?_
  refine then_normal (hK31 _ _ ?_)
  refine wp_seq_k fun _ hK34 => ?_
  refine wp_seq_k fun _ hK35 => ?_
  refine wp_region_lit ?_
  refine wl_cons (wl_val E33 rfl (rn_move E33 rfl rfl) rfl fun a36 E37 => ?_)
  clear E33
  refine wl_cons (wl_val E37 rfl (rn_len E37 rfl Try.underlying22 rfl) rfl fun a38 E39 => ?_)
  clear E37
  refine wl_cons (wl_val E39 rfl (rn_move E39 rfl rfl) rfl fun a40 E41 => ?_)
  clear E39
  refine wl_nil ?_
  refine then_normal (hK35 _ _ ?_)
  refine wp_block ?_
  obtain ⟨o206, ho207, h⟩ := bs h
  refine wc_loop (fun k_ a_ w_ => ∃ (x205 : Int), Env 19 a_ [(0, .slice p3 a1.length c4), (1, .func (.func 62) #[] #[.pointer (some ⟨g6, 0, none⟩)]), (4, .int .i64 0), (6, .slice p3 a1.length c4), (7, .int .i64 (a1.length : Int)), (8, .int .i64 x205)] ∧ St w Nil Z w_ [vw (kSlice 3 (kInt .i64)) a1 [.slice p3 a1.length c4]] [[blk g6 [.int .i64 a0] 3]] ∧ f_process_between_l1 a0 a1 k_ x205 = some o206) (((((a1.length : Int) : Int) - (0)).toNat + 1)) ?_ ?_ ?_
  · exact ⟨0, E41.pick ⟨rfl, rfl, rfl, rfl, rfl, rfl, trivial⟩, H, ho207⟩
  · rintro _ _ ⟨_, _, _, h_⟩
    rw [f_process_between_l1] at h_; cases h_
  · rintro k208 a209 w210 ⟨x205, E211, H', h212⟩
    rw [f_process_between_l1] at h212
    clear H; have H := H'; clear H'
    refine wp_seq_k fun _ hK213 => ?_
    refine wp_region_lit ?_
    refine wl_cons (wl_val E211 rfl (rn_int E211 rfl rfl rfl rfl) rfl fun a214 E215 => ?_)
    clear E211
    refine wl_nil ?_
    refine then_normal (hK213 _ _ ?_)
    refine wp_seq_k fun _ hK216 => ?_
    rcases Bool.eq_false_or_eq_true (decide (x205 < (a1.length : Int))) with hb217 | hb217
    · replace h212 := itT hb217 h212
      refine wc_T E215 rfl hb217 ?_
      refine wp_skip ?_
      refine then_normal (hK216 _ _ ?_)
      refine wp_seq_k fun _ hK218 => ?_
      refine wp_block ?_
      refine wp_seq_k fun _ hK219 => ?_
      refine wp_region_lit ?_
      refine wl_cons (wl_val E215 rfl (rn_move E215 rfl rfl) rfl fun a220 E221 => ?_)
      clear E215
      refine wl_cons (wl_val E221 rfl (rn_assign E221 rfl rfl) rfl fun a222 E223 => ?_)
      clear E221
      refine wl_nil ?_
      refine then_normal (hK219 _ _ ?_)
      refine wp_seq_k fun _ hK224 => ?_
      refine wp_region_lit ?_
      refine wl_cons (wl_val E223 rfl (rn_move E223 rfl rfl) rfl fun a225 E226 => ?_)
      clear E223
      refine wl_cons (wl_val E226 rfl (rn_move E226 rfl rfl) rfl fun a227 E228 => ?_)
      clear E226
      refine wl_cons (wl_val E228 rfl (rn_move E228 rfl rfl) rfl fun a229 E230 => ?_)
      clear E228
      obtain ⟨u231, hy232, h212⟩ := bs h212
      obtain ⟨q233, hq234, hr235⟩ := rn_idx (K := (kInt .i64)) (P := Try.prog) (o := ⟨some 14, .indexAddr 22 (.tmp 12) (.tmp 13), 0, "", #[], none⟩) E230 rfl Try.underlying22 ti3 rfl rfl (H.readA (k := 0) rfl) hy232
      refine wl_cons (wl_val E230 rfl ((hr235 _)) rfl fun a236 E237 => ?_)
      clear E230
      obtain ⟨_, H', hc238⟩ := St.openA (opens_int .i64) H (k := 0) rfl hy232
      replace H := H'; clear H'
      refine wl_cons (wl_val E237 rfl (rn_loadI1 E237 rfl Try.underlying3 rfl rfl hq234 hc238 rfl) rfl fun a239 E240 => ?_)
      clear E237
      refine wl_cons (wl_in rfl (rn_callC (args := [.int .i64 u231]) (cap := [.pointer (some ⟨g6, 0, none⟩)]) (all := [.int .i64 u231, .pointer (some ⟨g6, 0, none⟩)]) E240 rfl rfl rfl Try.func62 nm62 rfl rfl) Try.func62 rfl fun a241 he242 => ?_)
      have E243 : Env 11 a241 (enumA 0 [.int .i64 u231, .pointer (some ⟨g6, 0, none⟩)]) := he242 ▸ Env.init Try.ntmps62 rfl
      clear he242
      refine wp_seq_k fun _ hK244 => ?_
      refine wp_region_lit ?_
      refine wl_cons (wl_val E243 rfl (rn_assign E243 rfl rfl) rfl fun a245 E246 => ?_)
      clear E243
      refine wl_nil ?_
      refine then_normal (hK244 _ _ ?_)
      refine wp_seq_k fun _ hK247 => ?_
      refine wp_region_lit ?_
      refine wl_cons (wl_val E246 rfl (rn_move E246 rfl rfl) rfl fun a248 E249 => ?_)
      clear E246
      refine wl_cons (wl_val E249 rfl (rn_int E249 rfl rfl rfl rfl) rfl fun a250 E251 => ?_)
      clear E249
      refine wl_cons (wl_val E251 rfl (rn_move E251 rfl rfl) rfl fun a252 E253 => ?_)
      clear E251
      rcases Bool.eq_false_or_eq_true (decide (u231 < 0)) with hb254 | hb254
      · replace h212 := itT hb254 h212
        refine wl_cons (wl_pass E253 (E253.unwanted rfl rfl rfl hb254) rfl fun a255 E256 => ?_)
        clear E253
        refine wl_cons (wl_pass E256 (E256.unwanted rfl rfl rfl hb254) rfl fun a257 E258 => ?_)
        clear E256
        refine wl_cons (wl_pass E258 (E258.unwanted rfl rfl rfl hb254) rfl fun a259 E260 => ?_)
        clear E258
        refine wl_cons (wl_val E260 rfl (rn_pickT E260 rfl rfl hb254 rfl) rfl fun a261 E262 => ?_)
        clear E260
        refine wl_cons (wl_val E262 rfl (rn_assign E262 rfl rfl) rfl fun a263 E264 => ?_)
        clear E262
        refine wl_nil ?_
        refine then_normal (hK247 _ _ ?_)
        refine wp_ret ?_
        refine ?_
        refine wb_ret1 E264 rfl (rv_tmp E264 rfl) ⟨_, rfl, ?_⟩
        have E265 := Env.put E240 (d := 16) rfl (.bool true)
        generalize hae : Act.put _ (some 16) _ = a266 at E265 ⊢; clear hae
        refine wl_nil ?_
        refine then_normal (hK224 _ _ ?_)
        refine wc_T E265 rfl rfl ?_
        refine wp_seq_k fun _ hK267 => ?_
        refine wp_region_lit ?_
        refine wl_cons (wl_val E265 rfl (rn_move E265 rfl rfl) rfl fun a268 E269 => ?_)
        clear E265
        refine wl_cons (wl_val E269 rfl (rn_assign E269 rfl rfl) rfl fun a270 E271 => ?_)
        clear E269
        refine wl_nil ?_
        refine then_normal (hK267 _ _ ?_)
        refine wp_ret ?_
        obtain rfl := Option.some.inj h212
        try dsimp only at h
        refine block_ret (then_ret (then_ret (block_ret (then_ret (?_)))))
        refine wb_ret1 E271 rfl (rv_tmp E271 rfl) ⟨_, rfl, ?_⟩
        have E272 := Env.put E27 (d := 7) rfl (.int .i64 x205)
        generalize hae : Act.put _ (some 7) _ = a273 at E272 ⊢; clear hae
        refine wl_cons (wl_val E272 rfl (rn_int E272 rfl rfl rfl rfl) rfl fun a274 E275 => ?_)
        clear E272
        refine wl_cons (wl_val E275 rfl (rn_assign E275 rfl rfl) rfl fun a276 E277 => ?_)
        clear E275
        refine wl_nil ?_
        refine then_normal (hK23 _ _ ?_)
        refine wp_ret ?_
        refine ?_
        refine wb_ret1 E277 rfl (rv_tmp E277 rfl) ⟨_, rfl, ?_⟩
        have E278 := Env.put E16 (d := 7) rfl (.bool (decide (x205 ≥ 0)))
        generalize hae : Act.put _ (some 7) _ = a279 at E278 ⊢; clear hae
        refine wl_cons (wl_val E278 rfl (rn_not E278 rfl rfl) rfl fun a280 E281 => ?_)
        clear E278
        refine wl_cons (wl_val E281 rfl (rn_assign E281 rfl rfl) rfl fun a282 E283 => ?_)
        clear E281
        refine wl_nil ?_
        refine then_normal (hK12 _ _ ?_)
        refine wp_ret ?_
        refine ?_
        obtain rfl := Option.some.inj h
        refine wb_ret1 E283 rfl (rv_tmp E283 rfl) ?_
        exact ⟨_, rfl, [], [], ⟨rfl, rfl, rfl⟩, H.leave (fun Z hA => trivial) (fun Z S hA hL => trivial)⟩
      · replace h212 := itF hb254 h212
        refine wl_cons (wl_val E253 (E253.wantedB rfl rfl rfl hb254) (rn_move E253 rfl rfl) rfl fun a284 E285 => ?_)
        clear E253
        refine wl_cons (wl_val E285 (E285.wantedB rfl rfl rfl hb254) (rn_ld1 (i := 0) E285 H rfl Try.underlying3 rfl rfl rfl rfl) rfl fun a286 E287 => ?_)
        clear E285
        refine wl_cons (wl_val E287 (E287.wantedB rfl rfl rfl hb254) (rn_int E287 rfl rfl rfl rfl) rfl fun a288 E289 => ?_)
        clear E287
        refine wl_cons (wl_val E289 rfl (rn_pickF E289 rfl rfl hb254 rfl) rfl fun a290 E291 => ?_)
        clear E289
        refine wl_cons (wl_val E291 rfl (rn_assign E291 rfl rfl) rfl fun a292 E293 => ?_)
        clear E291
        refine wl_nil ?_
        refine then_normal (hK247 _ _ ?_)
        refine wp_ret ?_
        refine ?_
        refine wb_ret1 E293 rfl (rv_tmp E293 rfl) ⟨_, rfl, ?_⟩
        have E294 := Env.put E240 (d := 16) rfl (.bool (decide (u231 > a0)))
        generalize hae : Act.put _ (some 16) _ = a295 at E294 ⊢; clear hae
        refine wl_nil ?_
        refine then_normal (hK224 _ _ ?_)
        rcases Bool.eq_false_or_eq_true (decide (u231 > a0)) with hb296 | hb296
        · replace h212 := itT hb296 h212
          refine wc_T E294 rfl hb296 ?_
          refine wp_seq_k fun _ hK297 => ?_
          refine wp_region_lit ?_
          refine wl_cons (wl_val E294 rfl (rn_move E294 rfl rfl) rfl fun a298 E299 => ?_)
          clear E294
          refine wl_cons (wl_val E299 rfl (rn_assign E299 rfl rfl) rfl fun a300 E301 => ?_)
          clear E299
          refine wl_nil ?_
          refine then_normal (hK297 _ _ ?_)
          refine wp_ret ?_
          obtain rfl := Option.some.inj h212
          try dsimp only at h
          refine block_ret (then_ret (then_ret (block_ret (then_ret (?_)))))
          refine wb_ret1 E301 rfl (rv_tmp E301 rfl) ⟨_, rfl, ?_⟩
          have E302 := Env.put E27 (d := 7) rfl (.int .i64 x205)
          generalize hae : Act.put _ (some 7) _ = a303 at E302 ⊢; clear hae
          refine wl_cons (wl_val E302 rfl (rn_int E302 rfl rfl rfl rfl) rfl fun a304 E305 => ?_)
          clear E302
          refine wl_cons (wl_val E305 rfl (rn_assign E305 rfl rfl) rfl fun a306 E307 => ?_)
          clear E305
          refine wl_nil ?_
          refine then_normal (hK23 _ _ ?_)
          refine wp_ret ?_
          refine ?_
          refine wb_ret1 E307 rfl (rv_tmp E307 rfl) ⟨_, rfl, ?_⟩
          have E308 := Env.put E16 (d := 7) rfl (.bool (decide (x205 ≥ 0)))
          generalize hae : Act.put _ (some 7) _ = a309 at E308 ⊢; clear hae
          refine wl_cons (wl_val E308 rfl (rn_not E308 rfl rfl) rfl fun a310 E311 => ?_)
          clear E308
          refine wl_cons (wl_val E311 rfl (rn_assign E311 rfl rfl) rfl fun a312 E313 => ?_)
          clear E311
          refine wl_nil ?_
          refine then_normal (hK12 _ _ ?_)
          refine wp_ret ?_
          refine ?_
          obtain rfl := Option.some.inj h
          refine wb_ret1 E313 rfl (rv_tmp E313 rfl) ?_
          exact ⟨_, rfl, [], [], ⟨rfl, rfl, rfl⟩, H.leave (fun Z hA => trivial) (fun Z S hA hL => trivial)⟩
        · replace h212 := itF hb296 h212
          refine wc_F E294 rfl hb296 ?_
          refine wp_skip ?_
          refine block_normal ?_
          refine then_normal (hK218 _ _ ?_)
          refine wp_region_lit ?_
          refine wl_cons (wl_val E294 rfl (rn_int E294 rfl rfl rfl rfl) rfl fun a314 E315 => ?_)
          clear E294
          refine wl_cons (wl_val E315 rfl (rn_move E315 rfl rfl) rfl fun a316 E317 => ?_)
          clear E315
          refine wl_nil ?_
          replace H : St w Nil Z w210 [vw (kSlice 3 (kInt .i64)) a1 [.slice p3 a1.length c4]] ([[blk g6 [.int .i64 a0] 3]] ++ []) := H
          exact ⟨(IntKind.wrap .i64 (x205 + 1)), E317.pick ⟨rfl, rfl, rfl, rfl, rfl, rfl, trivial⟩, H.front.sel (fun Z hA => ⟨(argHolds_get hA (k := 0) rfl), trivial⟩), h212⟩
    · replace h212 := itF hb217 h212
      refine wc_F E215 rfl hb217 ?_
      refine wp_exit ?_
      obtain rfl := Option.some.inj h212
      try dsimp only at h
      refine then_exit (then_exit (block_exit (?_)))
      refine then_normal (hK34 _ _ ?_)
      refine wp_seq_k fun _ hK318 => ?_
      refine wp_region_lit ?_
      refine wl_cons (wl_val E215 rfl (rn_assign E215 rfl rfl) rfl fun a319 E320 => ?_)
      clear E215
      refine wl_nil ?_
      refine then_normal (hK318 _ _ ?_)
      refine wp_ret ?_
      refine ?_
      refine wb_ret1 E320 rfl (rv_tmp E320 rfl) ⟨_, rfl, ?_⟩
      have E321 := Env.put E27 (d := 7) rfl (.int .i64 (-1))
      generalize hae : Act.put _ (some 7) _ = a322 at E321 ⊢; clear hae
      refine wl_cons (wl_val E321 rfl (rn_int E321 rfl rfl rfl rfl) rfl fun a323 E324 => ?_)
      clear E321
      refine wl_cons (wl_val E324 rfl (rn_assign E324 rfl rfl) rfl fun a325 E326 => ?_)
      clear E324
      refine wl_nil ?_
      refine then_normal (hK23 _ _ ?_)
      refine wp_ret ?_
      refine ?_
      refine wb_ret1 E326 rfl (rv_tmp E326 rfl) ⟨_, rfl, ?_⟩
      have E327 := Env.put E16 (d := 7) rfl (.bool (decide ((-1) ≥ 0)))
      generalize hae : Act.put _ (some 7) _ = a328 at E327 ⊢; clear hae
      refine wl_cons (wl_val E327 rfl (rn_not E327 rfl rfl) rfl fun a329 E330 => ?_)
      clear E327
      refine wl_cons (wl_val E330 rfl (rn_assign E330 rfl rfl) rfl fun a331 E332 => ?_)
      clear E330
      refine wl_nil ?_
      refine then_normal (hK12 _ _ ?_)
      refine wp_ret ?_
      refine ?_
      obtain rfl := Option.some.inj h
      refine wb_ret1 E332 rfl (rv_tmp E332 rfl) ?_
      exact ⟨_, rfl, [], [], ⟨rfl, rfl, rfl⟩, H.leave (fun Z hA => trivial) (fun Z S hA hL => trivial)⟩
theorem C39_flat {r : Bool} : ∀ v_ A_ N_, (fun (v_ : Value) (A_ : List VP) (N_ : List (List SP)) => v_ = .bool r ∧ A_ = [] ∧ N_ = []) v_ A_ N_ → A_ = [] ∧ Flat N_ := by
  rintro v_ A_ N_ ⟨rfl, rfl, rfl⟩
  exact ⟨rfl, flat_nil⟩
end Go.Proofs.Ytanimjbmkhpnaaa.Gx
