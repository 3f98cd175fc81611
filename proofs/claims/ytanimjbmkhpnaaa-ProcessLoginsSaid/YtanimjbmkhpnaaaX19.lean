/- Function 19, kaudit/process.Exec: what it answers as a plain function, and that the Go code comes to exactly that (where the plain function gives an answer). -/
import Derived.Test.YtanimjbmkhpnaaaXT
import Derived.Test.YtanimjbmkhpnaaaX37
import Derived.Test.YtanimjbmkhpnaaaX54
set_option linter.unusedVariables false
set_option linter.unusedSimpArgs false
namespace Go.Proofs.Ytanimjbmkhpnaaa.Gx
open Go.Gx Go.RowKit
/-! ### kaudit/process.Exec: function 19 -/
def f_process_Exec (a0 : api_Table) (a1 : Int) (a2 : ByteArray) (a3 : ByteArray) : Option (api_Table × Int) := (f_process_place a0 a1).bind fun y394 => if y394.2 = true then ((f_own_Table a0).bind fun y419 => (at_ y419.Processes y394.1).bind fun u439 => (at_ (y419.Processes.set y394.1.toNat (⟨u439.PID, u439.PPID, u439.UID, u439.EUID, u439.GID, u439.EGID, u439.AUID, u439.Session, u439.Cwd, u439.Comm, a2, u439.Open, u439.Audited⟩ : api_Process)) y394.1).bind fun u496 => some (((⟨y419.Next, y419.NextSession, ((y419.Processes.set y394.1.toNat (⟨u439.PID, u439.PPID, u439.UID, u439.EUID, u439.GID, u439.EGID, u439.AUID, u439.Session, u439.Cwd, u439.Comm, a2, u439.Open, u439.Audited⟩ : api_Process)).set y394.1.toNat (⟨u496.PID, u496.PPID, u496.UID, u496.EUID, u496.GID, u496.EGID, u496.AUID, u496.Session, u496.Cwd, a3, u496.Exe, u496.Open, u496.Audited⟩ : api_Process))⟩ : api_Table), 0))) else (some (((⟨0, 0, ([] : List api_Process)⟩ : api_Table), 3)))
set_option maxHeartbeats 4000000 in
set_option maxRecDepth 100000 in
theorem C19 (a0 : api_Table) (a1 : Int) (a2 : ByteArray) (a3 : ByteArray) (p315 : Option Addr) (c316 : Nat) (r : api_Table × Int) (w : World) (h : f_process_Exec a0 a1 a2 a3 = some r) : Fun Try.prog 19 #[.agg #[.int .i64 a0.Next, .int .i64 a0.NextSession, .slice p315 a0.Processes.length c316], .int .i64 a1, .string a2, .string a3] w [vw (kSlice 38 k_api_Process) a0.Processes [.slice p315 a0.Processes.length c316]] (fun (v_ : Value) (A_ : List VP) (N_ : List (List SP)) => ∃ (p317 : Option Addr) (c318 : Nat), v_ = .tuple #[.agg #[.int .i64 r.1.Next, .int .i64 r.1.NextSession, .slice p317 r.1.Processes.length c318], .int .i64 r.2] ∧ A_ = [] ∧ N_ = [[row 38 k_api_Process r.1.Processes (.slice p317 r.1.Processes.length c318)]]) := by
  unfold f_process_Exec at h
  refine fun_begin (args := [.agg #[.int .i64 a0.Next, .int .i64 a0.NextSession, .slice p315 a0.Processes.length c316], .int .i64 a1, .string a2, .string a3]) Try.func19 rfl Try.ntmps19 rfl fun Z a E H => ?_
  refine wp_seq_k fun _ hK319 => ?_
  refine wp_region_lit ?_
  refine wl_cons (wl_box (T := 28) (cs := [.int .i64 a0.Next, .int .i64 a0.NextSession, .slice p315 a0.Processes.length c316]) E H rfl rfl rfl rfl fun g320 w321 a322 E323 H' => ?_)
  clear H E; have H := H'; clear H'
  refine wl_cons (wl_box (T := 9) (cs := [.string a2]) E323 H rfl rfl rfl rfl fun g324 w325 a326 E327 H' => ?_)
  clear H E323; have H := H'; clear H'
  refine wl_cons (wl_box (T := 9) (cs := [.string a3]) E327 H rfl rfl rfl rfl fun g328 w329 a330 E331 H' => ?_)
  clear H E327; have H := H'; clear H'
  replace H : St w Nil Z w329 [vw (kSlice 38 k_api_Process) a0.Processes [.slice p315 a0.Processes.length c316]] [[blk g320 [.int .i64 a0.Next, .int .i64 a0.NextSession, .slice p315 a0.Processes.length c316] 28], [blk g324 [.string a2] 9], [blk g328 [.string a3] 9]] := H
  refine wl_cons (wl_alloc (cs := [.int .i64 0, .int .i64 0, .slice none 0 0]) E331 H rfl ti28 rfl rfl fun g332 w333 a334 E335 H' => ?_)
  clear H E331; have H := H'; clear H'
  refine wl_cons (wl_val E335 rfl (rn_assign E335 rfl rfl) rfl fun a336 E337 => ?_)
  clear E335
  refine wl_nil ?_
  refine then_normal (hK319 _ _ ?_)
  refine wp_seq_k fun _ hK338 => ?_
  refine wp_region_lit ?_
  refine wl_cons (wl_val E337 rfl (rn_ldN (i := 0) [.int .i64 a0.Next, .int .i64 a0.NextSession, .slice p315 a0.Processes.length c316] E337 H rfl Try.underlying28 rfl ti28 rfl rfl rfl rfl) rfl fun a339 E340 => ?_)
  clear E337
  refine wl_cons (wl_val E340 rfl (rn_move E340 rfl rfl) rfl fun a341 E342 => ?_)
  clear E340
  refine wl_cons (wl_val E342 rfl (rn_makeFunc (vs := [.pointer (some ⟨g324, 0, none⟩), .pointer (some ⟨g328, 0, none⟩)]) E342 rfl rfl) rfl fun a343 E344 => ?_)
  clear E342
  refine wl_cons (wl_in rfl (rn_callC (args := [.agg #[.int .i64 a0.Next, .int .i64 a0.NextSession, .slice p315 a0.Processes.length c316], .int .i64 a1, .func (.func 41) #[] #[.pointer (some ⟨g324, 0, none⟩), .pointer (some ⟨g328, 0, none⟩)]]) (cap := []) (all := [.agg #[.int .i64 a0.Next, .int .i64 a0.NextSession, .slice p315 a0.Processes.length c316], .int .i64 a1, .func (.func 41) #[] #[.pointer (some ⟨g324, 0, none⟩), .pointer (some ⟨g328, 0, none⟩)]]) E344 rfl rfl rfl Try.func34 nm34 rfl rfl) Try.func34 rfl fun a345 he346 => ?_)
  have E347 : Env 20 a345 (enumA 0 [.agg #[.int .i64 a0.Next, .int .i64 a0.NextSession, .slice p315 a0.Processes.length c316], .int .i64 a1, .func (.func 41) #[] #[.pointer (some ⟨g324, 0, none⟩), .pointer (some ⟨g328, 0, none⟩)]]) := he346 ▸ Env.init Try.ntmps34 rfl
  clear he346
  refine wp_seq_k fun _ hK348 => ?_
  refine wp_region_lit ?_
  refine wl_cons (wl_box (T := 28) (cs := [.int .i64 a0.Next, .int .i64 a0.NextSession, .slice p315 a0.Processes.length c316]) E347 H rfl rfl rfl rfl fun g349 w350 a351 E352 H' => ?_)
  clear H E347; have H := H'; clear H'
  refine wl_cons (wl_box (T := 68) (cs := [.func (.func 41) #[] #[.pointer (some ⟨g324, 0, none⟩), .pointer (some ⟨g328, 0, none⟩)]]) E352 H rfl rfl rfl rfl fun g353 w354 a355 E356 H' => ?_)
  clear H E352; have H := H'; clear H'
  replace H : St w Nil Z w354 [vw (kSlice 38 k_api_Process) a0.Processes [.slice p315 a0.Processes.length c316]] [[blk g320 [.int .i64 a0.Next, .int .i64 a0.NextSession, .slice p315 a0.Processes.length c316] 28], [blk g324 [.string a2] 9], [blk g328 [.string a3] 9], [blk g332 [.int .i64 0, .int .i64 0, .slice none 0 0] 28], [blk g349 [.int .i64 a0.Next, .int .i64 a0.NextSession, .slice p315 a0.Processes.length c316] 28], [blk g353 [.func (.func 41) #[] #[.pointer (some ⟨g324, 0, none⟩), .pointer (some ⟨g328, 0, none⟩)]] 68]] := H
  refine wl_cons (wl_alloc (cs := [.int .i64 0, .int .i64 0, .slice none 0 0]) E356 H rfl ti28 rfl rfl fun g357 w358 a359 E360 H' => ?_)
  clear H E356; have H := H'; clear H'
  refine wl_cons (wl_val E360 rfl (rn_assign E360 rfl rfl) rfl fun a361 E362 => ?_)
  clear E360
  refine wl_nil ?_
  refine then_normal (hK348 _ _ ?_)
  refine wp_seq_k fun _ hK363 => ?_
  refine wp_region_lit ?_
  refine wl_cons (wl_val E362 rfl (rn_ldN (i := 4) [.int .i64 a0.Next, .int .i64 a0.NextSession, .slice p315 a0.Processes.length c316] E362 H rfl Try.underlying28 rfl ti28 rfl rfl rfl rfl) rfl fun a364 E365 => ?_)
  clear E362
  refine wl_cons (wl_val E365 rfl (rn_move E365 rfl rfl) rfl fun a366 E367 => ?_)
  clear E365
  refine wl_cons (wl_val E367 rfl (rn_makeFunc (vs := [.pointer (some ⟨g353, 0, none⟩)]) E367 rfl rfl) rfl fun a368 E369 => ?_)
  clear E367
  refine wl_cons (wl_in rfl (rn_callC (args := [.agg #[.int .i64 a0.Next, .int .i64 a0.NextSession, .slice p315 a0.Processes.length c316], .int .i64 a1, .func (.func 57) #[] #[.pointer (some ⟨g353, 0, none⟩)]]) (cap := []) (all := [.agg #[.int .i64 a0.Next, .int .i64 a0.NextSession, .slice p315 a0.Processes.length c316], .int .i64 a1, .func (.func 57) #[] #[.pointer (some ⟨g353, 0, none⟩)]]) E369 rfl rfl rfl Try.func56 nm56 rfl rfl) Try.func56 rfl fun a370 he371 => ?_)
  have E372 : Env 42 a370 (enumA 0 [.agg #[.int .i64 a0.Next, .int .i64 a0.NextSession, .slice p315 a0.Processes.length c316], .int .i64 a1, .func (.func 57) #[] #[.pointer (some ⟨g353, 0, none⟩)]]) := he371 ▸ Env.init Try.ntmps56 rfl
  clear he371
  refine wp_seq_k fun _ hK373 => ?_
  refine wp_region_lit ?_
  refine wl_cons (wl_box (T := 28) (cs := [.int .i64 a0.Next, .int .i64 a0.NextSession, .slice p315 a0.Processes.length c316]) E372 H rfl rfl rfl rfl fun g374 w375 a376 E377 H' => ?_)
  clear H E372; have H := H'; clear H'
  refine wl_cons (wl_alloc (cs := [.int .i64 0, .int .i64 0, .slice none 0 0]) E377 H rfl ti28 rfl rfl fun g378 w379 a380 E381 H' => ?_)
  clear H E377; have H := H'; clear H'
  replace H : St w Nil Z w379 [vw (kSlice 38 k_api_Process) a0.Processes [.slice p315 a0.Processes.length c316]] [[blk g320 [.int .i64 a0.Next, .int .i64 a0.NextSession, .slice p315 a0.Processes.length c316] 28], [blk g324 [.string a2] 9], [blk g328 [.string a3] 9], [blk g332 [.int .i64 0, .int .i64 0, .slice none 0 0] 28], [blk g349 [.int .i64 a0.Next, .int .i64 a0.NextSession, .slice p315 a0.Processes.length c316] 28], [blk g353 [.func (.func 41) #[] #[.pointer (some ⟨g324, 0, none⟩), .pointer (some ⟨g328, 0, none⟩)]] 68], [blk g357 [.int .i64 0, .int .i64 0, .slice none 0 0] 28], [blk g374 [.int .i64 a0.Next, .int .i64 a0.NextSession, .slice p315 a0.Processes.length c316] 28], [blk g378 [.int .i64 0, .int .i64 0, .slice none 0 0] 28]] := H
  refine wl_cons (wl_val E381 rfl (rn_assign E381 rfl rfl) rfl fun a382 E383 => ?_)
  clear E381
  refine wl_cons (wl_val E383 rfl (rn_assign E383 rfl rfl) rfl fun a384 E385 => ?_)
  clear E383
  refine wl_nil ?_
  refine then_normal (hK373 _ _ ?_)
  refine wp_seq_k fun _ hK386 => ?_
  refine wp_region_lit ?_
  refine wl_cons (wl_val E385 rfl (rn_assign E385 rfl rfl) rfl fun a387 E388 => ?_)
  clear E385
  refine wl_nil ?_
  refine then_normal (hK386 _ _ ?_)
  refine wp_seq_k fun _ hK389 => ?_
  refine wp_region_lit ?_
  refine wl_cons (wl_val E388 rfl (rn_ldN (i := 7) [.int .i64 a0.Next, .int .i64 a0.NextSession, .slice p315 a0.Processes.length c316] E388 H rfl Try.underlying28 rfl ti28 rfl rfl rfl rfl) rfl fun a390 E391 => ?_)
  clear E388
  refine wl_cons (wl_val E391 rfl (rn_move E391 rfl rfl) rfl fun a392 E393 => ?_)
  clear E391
  obtain ⟨y394, hy395, h⟩ := bs h
  refine wl_cons (wl_fun E393 H rfl (rn_call (args := [.agg #[.int .i64 a0.Next, .int .i64 a0.NextSession, .slice p315 a0.Processes.length c316], .int .i64 a1]) E393 rfl rfl rfl Try.func37 nm37 rfl) rfl (by exact fun Z hA => ⟨(argHolds_get hA (k := 0) rfl), trivial⟩) (C37 a0 a1 p315 c316 _ _ hy395) ?_)
  rintro v_ A_ N_ w398 a396 ⟨rfl, rfl, rfl⟩ E397 H'
  replace H := H'; clear H' E393
  refine wl_cons (wl_val E397 rfl (rn_move E397 rfl rfl) rfl fun a399 E400 => ?_)
  clear E397
  refine wl_cons (wl_val E400 rfl (rn_extract E400 rfl rfl rfl) rfl fun a401 E402 => ?_)
  clear E400
  refine wl_cons (wl_val E402 rfl (rn_extract E402 rfl rfl rfl) rfl fun a403 E404 => ?_)
  clear E402
  refine wl_cons (wl_val E404 rfl (rn_assign E404 rfl rfl) rfl fun a405 E406 => ?_)
  clear E404
  refine wl_cons (wl_val E406 rfl (rn_assign E406 rfl rfl) rfl fun a407 E408 => ?_)
  clear E406
  refine wl_nil ?_
  refine then_normal (hK389 _ _ ?_)
  refine wp_seq_k fun _ hK409 => ?_
  refine wp_seq_k fun _ hK410 => ?_
  refine wp_region_lit ?_
  refine wl_cons (wl_val E408 rfl (rn_move E408 rfl rfl) rfl fun a411 E412 => ?_)
  clear E408
  refine wl_cons (wl_val E412 rfl (rn_not E412 rfl rfl) rfl fun a413 E414 => ?_)
  clear E412
  refine wl_nil ?_
  refine then_normal (hK410 _ _ ?_)
  rcases Bool.eq_false_or_eq_true y394.2 with hb415 | hb415
  · replace h := itT hb415 h
    refine wc_F E414 rfl (congrArg Bool.not hb415) ?_
    refine wp_skip ?_
    refine then_normal (hK409 _ _ ?_)
    refine wp_seq_k fun _ hK416 => ?_
    refine wp_region_lit ?_
    refine wl_cons (wl_val E414 rfl (rn_ldN (i := 7) [.int .i64 a0.Next, .int .i64 a0.NextSession, .slice p315 a0.Processes.length c316] E414 H rfl Try.underlying28 rfl ti28 rfl rfl rfl rfl) rfl fun a417 E418 => ?_)
    clear E414
    obtain ⟨y419, hy420, h⟩ := bs h
    refine wl_cons (wl_fun E418 H rfl (rn_call (args := [.agg #[.int .i64 a0.Next, .int .i64 a0.NextSession, .slice p315 a0.Processes.length c316]]) E418 rfl rfl rfl Try.func54 nm54 rfl) rfl (by exact fun Z hA => ⟨(argHolds_get hA (k := 0) rfl), trivial⟩) (C54 a0 p315 c316 _ _ hy420) ?_)
    rintro v_ A_ N_ w426 a424 ⟨p421, c422, rfl, rfl, rfl⟩ E425 H'
    replace H := H'; clear H' E418
    refine wl_cons (wl_store (i := 7) (vs := [.int .i64 y419.Next, .int .i64 y419.NextSession, .slice p421 y419.Processes.length c422]) (cs' := [.int .i64 y419.Next, .int .i64 y419.NextSession, .slice p421 y419.Processes.length c422]) E425 H rfl rfl rfl rfl ti28 rfl rfl rfl rfl rfl rfl fun w429 a427 E428 H' => ?_)
    clear H E425; have H := H'; clear H'
    replace H : St w Nil Z w429 [vw (kSlice 38 k_api_Process) a0.Processes [.slice p315 a0.Processes.length c316]] [[blk g320 [.int .i64 a0.Next, .int .i64 a0.NextSession, .slice p315 a0.Processes.length c316] 28], [blk g324 [.string a2] 9], [blk g328 [.string a3] 9], [blk g332 [.int .i64 0, .int .i64 0, .slice none 0 0] 28], [blk g349 [.int .i64 a0.Next, .int .i64 a0.NextSession, .slice p315 a0.Processes.length c316] 28], [blk g353 [.func (.func 41) #[] #[.pointer (some ⟨g324, 0, none⟩), .pointer (some ⟨g328, 0, none⟩)]] 68], [blk g357 [.int .i64 0, .int .i64 0, .slice none 0 0] 28], [blk g374 [.int .i64 y419.Next, .int .i64 y419.NextSession, .slice p421 y419.Processes.length c422] 28], [blk g378 [.int .i64 0, .int .i64 0, .slice none 0 0] 28], [row 38 k_api_Process y419.Processes (.slice p421 y419.Processes.length c422)]] := H
    refine wl_nil ?_
    refine then_normal (hK416 _ _ ?_)
    refine wp_seq_k fun _ hK430 => ?_
    refine wp_region_lit ?_
    refine wl_cons (wl_val E428 rfl (rn_move E428 rfl rfl) rfl fun a431 E432 => ?_)
    clear E428
    refine wl_cons (wl_val E432 rfl (rn_fieldAddr E432 rfl Try.underlying28 rfl ti26 rfl rfl) rfl fun a433 E434 => ?_)
    clear E432
    refine wl_cons (wl_val E434 rfl (rn_ld1 (i := 7) E434 H rfl Try.underlying26 rfl rfl rfl rfl) rfl fun a435 E436 => ?_)
    clear E434
    refine wl_cons (wl_val E436 rfl (rn_move E436 rfl rfl) rfl fun a437 E438 => ?_)
    clear E436
    obtain ⟨u439, hy440, h⟩ := bs h
    obtain ⟨q441, hq442, hr443⟩ := rn_idx (K := k_api_Process) (P := Try.prog) (o := ⟨some 31, .indexAddr 26 (.tmp 29) (.tmp 30), 0, "", #[], none⟩) E438 rfl Try.underlying26 ti38 rfl rfl (H.readL (i := 9) rfl) hy440
    refine wl_cons (wl_val E438 rfl ((hr443 _)) rfl fun a444 E445 => ?_)
    clear E438
    refine wl_cons (wl_in rfl (rn_callC (args := [.pointer (some ⟨g374, 0, none⟩), .pointer (some q441)]) (cap := [.pointer (some ⟨g353, 0, none⟩)]) (all := [.pointer (some ⟨g374, 0, none⟩), .pointer (some q441), .pointer (some ⟨g353, 0, none⟩)]) E445 rfl rfl rfl Try.func57 nm57 rfl rfl) Try.func57 rfl fun a446 he447 => ?_)
    have E448 : Env 11 a446 (enumA 0 [.pointer (some ⟨g374, 0, none⟩), .pointer (some q441), .pointer (some ⟨g353, 0, none⟩)]) := he447 ▸ Env.init Try.ntmps57 rfl
    clear he447
    refine wp_seq_k fun _ hK449 => ?_
    refine wp_region_lit ?_
    refine wl_cons (wl_val E448 rfl (rn_assign E448 rfl rfl) rfl fun a450 E451 => ?_)
    clear E448
    refine wl_cons (wl_val E451 rfl (rn_assign E451 rfl rfl) rfl fun a452 E453 => ?_)
    clear E451
    refine wl_nil ?_
    refine then_normal (hK449 _ _ ?_)
    refine wp_seq_k fun _ hK454 => ?_
    refine wp_region_lit ?_
    refine wl_cons (wl_val E453 rfl (rn_ld1 (i := 5) E453 H rfl Try.underlying68 rfl rfl rfl rfl) rfl fun a455 E456 => ?_)
    clear E453
    refine wl_cons (wl_val E456 rfl (rn_move E456 rfl rfl) rfl fun a457 E458 => ?_)
    clear E456
    refine wl_cons (wl_val E458 rfl (rn_move E458 rfl rfl) rfl fun a459 E460 => ?_)
    clear E458
    refine wl_cons (wl_in rfl (rn_callC (args := [.pointer (some ⟨g374, 0, none⟩), .pointer (some q441)]) (cap := [.pointer (some ⟨g324, 0, none⟩), .pointer (some ⟨g328, 0, none⟩)]) (all := [.pointer (some ⟨g374, 0, none⟩), .pointer (some q441), .pointer (some ⟨g324, 0, none⟩), .pointer (some ⟨g328, 0, none⟩)]) E460 rfl rfl rfl Try.func41 nm41 rfl rfl) Try.func41 rfl fun a461 he462 => ?_)
    have E463 : Env 15 a461 (enumA 0 [.pointer (some ⟨g374, 0, none⟩), .pointer (some q441), .pointer (some ⟨g324, 0, none⟩), .pointer (some ⟨g328, 0, none⟩)]) := he462 ▸ Env.init Try.ntmps41 rfl
    clear he462
    refine wp_seq_k fun _ hK464 => ?_
    refine wp_region_lit ?_
    refine wl_cons (wl_val E463 rfl (rn_assign E463 rfl rfl) rfl fun a465 E466 => ?_)
    clear E463
    refine wl_nil ?_
    refine then_normal (hK464 _ _ ?_)
    refine wp_seq_k fun _ hK467 => ?_
    refine wa_begin mixed (fun w_ => (∃ Z S, (blk g328 [.string a3] 9).holds w_ Z S) ∧ True) [3] [6, 9] H rfl fun w468 H' => ?_
    clear H; have H := H'; clear H'
    refine wa_take (i := 0) E466 rfl (by kernel_rfl) (panic_then panic_body) rfl (fun w_ => rn_move E466 rfl rfl) rfl fun a469 E470 => ?_
    clear E466
    refine wa_take (i := 1) E470 rfl (by kernel_rfl) (panic_then panic_body) rfl (fun w_ => rn_move E470 rfl rfl) rfl fun a471 E472 => ?_
    clear E470
    refine wa_takeU (i := 2) E472 rfl (by kernel_rfl) (by kernel_rfl) (panic_then panic_body) rfl (rn_ld1 (i := 1) E472 H rfl Try.underlying9 rfl rfl rfl rfl) rfl fun a473 E474 => ?_
    clear E472
    refine wa_takeS (i := 3) E474 rfl (by kernel_rfl) (by kernel_rfl) (panic_then panic_body) rfl (fun w_ hS => rn_load1 E474 rfl Try.underlying9 rfl rfl hS.1 rfl) ⟨H.get (i := 2) (k := 0) rfl rfl, trivial⟩ rfl fun a475 E476 => ?_
    clear E474
    refine wa_take (i := 4) E476 rfl (by kernel_rfl) (panic_then panic_body) rfl (fun w_ => rn_nilCheck E476 rfl rfl) rfl fun a477 E478 => ?_
    clear E476
    obtain ⟨q479, hq480, hr481⟩ := rn_fieldAddrI (P := Try.prog) (o := ⟨some 12, .fieldAddr 38 (.tmp 11) 10, 0, "", #[], none⟩) E478 rfl Try.underlying38 rfl ti9 rfl hq442 (off' := 11) rfl
    refine wa_take (i := 5) E478 rfl (by kernel_rfl) (panic_then panic_body) rfl (fun w_ => (hr481 _)) rfl fun a482 E483 => ?_
    clear E478
    refine wa_only (i := 6) rfl (by kernel_rfl) (by kernel_rfl) (wl_storeI (k := 9) (vs := [.string a2]) (u' := (⟨u439.PID, u439.PPID, u439.UID, u439.EUID, u439.GID, u439.EGID, u439.AUID, u439.Session, u439.Cwd, u439.Comm, a2, u439.Open, u439.Audited⟩ : api_Process)) E483 H rfl rfl rfl rfl hq480 hy440 ti9 rfl rfl rfl (by decide) (fun Z cs hA hR => by obtain ⟨⟨p484, c485⟩, rfl, hB⟩ := k_api_Process_opens hR; exact k_api_Process_shuts (x := (⟨u439.PID, u439.PPID, u439.UID, u439.EUID, u439.GID, u439.EGID, u439.AUID, u439.Session, u439.Cwd, u439.Comm, a2, u439.Open, u439.Audited⟩ : api_Process)) (t := (p484, c485)) ⟨(argHolds_get hB (k := 0) rfl), trivial⟩) rfl fun w488 a486 E487 H' => ?_)
    clear H E483; have H := H'; clear H'
    refine ⟨fun _ => ⟨H.get (i := 2) (k := 0) rfl rfl, trivial⟩, ?_⟩
    refine wa_take (i := 7) E487 rfl (by kernel_rfl) (panic_then panic_body) rfl (fun w_ => rn_nilCheck E487 rfl rfl) rfl fun a489 E490 => ?_
    clear E487
    obtain ⟨q491, hq492, hr493⟩ := rn_fieldAddrI (P := Try.prog) (o := ⟨some 14, .fieldAddr 38 (.tmp 13) 9, 0, "", #[], none⟩) E490 rfl Try.underlying38 rfl ti9 rfl hq442 (off' := 10) rfl
    refine wa_take (i := 8) E490 rfl (by kernel_rfl) (panic_then panic_body) rfl (fun w_ => (hr493 _)) rfl fun a494 E495 => ?_
    clear E490
    obtain ⟨u496, hy497, h⟩ := bs h
    refine wa_only (i := 9) rfl (by kernel_rfl) (by kernel_rfl) (wl_storeI (k := 9) (vs := [.string a3]) (u' := (⟨u496.PID, u496.PPID, u496.UID, u496.EUID, u496.GID, u496.EGID, u496.AUID, u496.Session, u496.Cwd, a3, u496.Exe, u496.Open, u496.Audited⟩ : api_Process)) E495 H rfl rfl rfl rfl hq492 hy497 ti9 rfl rfl rfl (by decide) (fun Z cs hA hR => by obtain ⟨⟨p498, c499⟩, rfl, hB⟩ := k_api_Process_opens hR; exact k_api_Process_shuts (x := (⟨u496.PID, u496.PPID, u496.UID, u496.EUID, u496.GID, u496.EGID, u496.AUID, u496.Session, u496.Cwd, a3, u496.Exe, u496.Open, u496.Audited⟩ : api_Process)) (t := (p498, c499)) ⟨(argHolds_get hB (k := 0) rfl), trivial⟩) rfl fun w502 a500 E501 H' => ?_)
    clear H E495; have H := H'; clear H'
    replace H : St w Nil Z w502 [vw (kSlice 38 k_api_Process) a0.Processes [.slice p315 a0.Processes.length c316]] [[blk g320 [.int .i64 a0.Next, .int .i64 a0.NextSession, .slice p315 a0.Processes.length c316] 28], [blk g324 [.string a2] 9], [blk g328 [.string a3] 9], [blk g332 [.int .i64 0, .int .i64 0, .slice none 0 0] 28], [blk g349 [.int .i64 a0.Next, .int .i64 a0.NextSession, .slice p315 a0.Processes.length c316] 28], [blk g353 [.func (.func 41) #[] #[.pointer (some ⟨g324, 0, none⟩), .pointer (some ⟨g328, 0, none⟩)]] 68], [blk g357 [.int .i64 0, .int .i64 0, .slice none 0 0] 28], [blk g374 [.int .i64 y419.Next, .int .i64 y419.NextSession, .slice p421 y419.Processes.length c422] 28], [blk g378 [.int .i64 0, .int .i64 0, .slice none 0 0] 28], [row 38 k_api_Process ((y419.Processes.set y394.1.toNat (⟨u439.PID, u439.PPID, u439.UID, u439.EUID, u439.GID, u439.EGID, u439.AUID, u439.Session, u439.Cwd, u439.Comm, a2, u439.Open, u439.Audited⟩ : api_Process)).set y394.1.toNat (⟨u496.PID, u496.PPID, u496.UID, u496.EUID, u496.GID, u496.EGID, u496.AUID, u496.Session, u496.Cwd, a3, u496.Exe, u496.Open, u496.Audited⟩ : api_Process)) (.slice p421 y419.Processes.length c422)]] := H
    refine ⟨fun h_ => (needs_no (by kernel_rfl) h_).elim, ?_⟩
    refine wa_done (by kernel_rfl) ?_
    have hl503 : ((y419.Processes.set y394.1.toNat (⟨u439.PID, u439.PPID, u439.UID, u439.EUID, u439.GID, u439.EGID, u439.AUID, u439.Session, u439.Cwd, u439.Comm, a2, u439.Open, u439.Audited⟩ : api_Process)).set y394.1.toNat (⟨u496.PID, u496.PPID, u496.UID, u496.EUID, u496.GID, u496.EGID, u496.AUID, u496.Session, u496.Cwd, a3, u496.Exe, u496.Open, u496.Audited⟩ : api_Process)).length = y419.Processes.length := by first | exact List.length_set | (simp only [List.length_set])
    replace H : St w Nil Z w502 [vw (kSlice 38 k_api_Process) a0.Processes [.slice p315 a0.Processes.length c316]] [[blk g320 [.int .i64 a0.Next, .int .i64 a0.NextSession, .slice p315 a0.Processes.length c316] 28], [blk g324 [.string a2] 9], [blk g328 [.string a3] 9], [blk g332 [.int .i64 0, .int .i64 0, .slice none 0 0] 28], [blk g349 [.int .i64 a0.Next, .int .i64 a0.NextSession, .slice p315 a0.Processes.length c316] 28], [blk g353 [.func (.func 41) #[] #[.pointer (some ⟨g324, 0, none⟩), .pointer (some ⟨g328, 0, none⟩)]] 68], [blk g357 [.int .i64 0, .int .i64 0, .slice none 0 0] 28], [blk g374 [.int .i64 y419.Next, .int .i64 y419.NextSession, .slice p421 (((y419.Processes.set y394.1.toNat (⟨u439.PID, u439.PPID, u439.UID, u439.EUID, u439.GID, u439.EGID, u439.AUID, u439.Session, u439.Cwd, u439.Comm, a2, u439.Open, u439.Audited⟩ : api_Process)).set y394.1.toNat (⟨u496.PID, u496.PPID, u496.UID, u496.EUID, u496.GID, u496.EGID, u496.AUID, u496.Session, u496.Cwd, a3, u496.Exe, u496.Open, u496.Audited⟩ : api_Process)).length) c422] 28], [blk g378 [.int .i64 0, .int .i64 0, .slice none 0 0] 28], [row 38 k_api_Process ((y419.Processes.set y394.1.toNat (⟨u439.PID, u439.PPID, u439.UID, u439.EUID, u439.GID, u439.EGID, u439.AUID, u439.Session, u439.Cwd, u439.Comm, a2, u439.Open, u439.Audited⟩ : api_Process)).set y394.1.toNat (⟨u496.PID, u496.PPID, u496.UID, u496.EUID, u496.GID, u496.EGID, u496.AUID, u496.Session, u496.Cwd, a3, u496.Exe, u496.Open, u496.Audited⟩ : api_Process)) (.slice p421 (((y419.Processes.set y394.1.toNat (⟨u439.PID, u439.PPID, u439.UID, u439.EUID, u439.GID, u439.EGID, u439.AUID, u439.Session, u439.Cwd, u439.Comm, a2, u439.Open, u439.Audited⟩ : api_Process)).set y394.1.toNat (⟨u496.PID, u496.PPID, u496.UID, u496.EUID, u496.GID, u496.EGID, u496.AUID, u496.Session, u496.Cwd, a3, u496.Exe, u496.Open, u496.Audited⟩ : api_Process)).length) c422)]] := by rw [hl503]; exact H
    replace E445 : Env 42 a444 [(0, .agg #[.int .i64 a0.Next, .int .i64 a0.NextSession, .slice p315 a0.Processes.length c316]), (1, .int .i64 a1), (2, .func (.func 57) #[] #[.pointer (some ⟨g353, 0, none⟩)]), (3, .pointer (some ⟨g374, 0, none⟩)), (6, .pointer (some ⟨g378, 0, none⟩)), (7, .bool false), (8, .int .i64 0), (9, .bool false), (15, .agg #[.int .i64 a0.Next, .int .i64 a0.NextSession, .slice p315 a0.Processes.length c316]), (16, .int .i64 a1), (17, .tuple #[.int .i64 y394.1, .bool y394.2]), (14, .tuple #[.int .i64 y394.1, .bool y394.2]), (18, .int .i64 y394.1), (19, .bool y394.2), (10, .int .i64 y394.1), (11, .bool y394.2), (20, .bool y394.2), (21, .bool (!y394.2)), (24, .agg #[.int .i64 a0.Next, .int .i64 a0.NextSession, .slice p315 a0.Processes.length c316]), (25, .agg #[.int .i64 y419.Next, .int .i64 y419.NextSession, .slice p421 (((y419.Processes.set y394.1.toNat (⟨u439.PID, u439.PPID, u439.UID, u439.EUID, u439.GID, u439.EGID, u439.AUID, u439.Session, u439.Cwd, u439.Comm, a2, u439.Open, u439.Audited⟩ : api_Process)).set y394.1.toNat (⟨u496.PID, u496.PPID, u496.UID, u496.EUID, u496.GID, u496.EGID, u496.AUID, u496.Session, u496.Cwd, a3, u496.Exe, u496.Open, u496.Audited⟩ : api_Process)).length) c422]), (27, .func (.func 57) #[] #[.pointer (some ⟨g353, 0, none⟩)]), (28, .pointer (some ⟨g374, 2, none⟩)), (29, .slice p421 (((y419.Processes.set y394.1.toNat (⟨u439.PID, u439.PPID, u439.UID, u439.EUID, u439.GID, u439.EGID, u439.AUID, u439.Session, u439.Cwd, u439.Comm, a2, u439.Open, u439.Audited⟩ : api_Process)).set y394.1.toNat (⟨u496.PID, u496.PPID, u496.UID, u496.EUID, u496.GID, u496.EGID, u496.AUID, u496.Session, u496.Cwd, a3, u496.Exe, u496.Open, u496.Audited⟩ : api_Process)).length) c422), (30, .int .i64 y394.1), (31, .pointer (some q441))] := by rw [hl503]; exact E445.pick ⟨rfl, rfl, rfl, rfl, rfl, rfl, rfl, rfl, rfl, rfl, rfl, rfl, rfl, rfl, rfl, rfl, rfl, rfl, rfl, rfl, rfl, rfl, rfl, rfl, rfl, trivial⟩
    clear hl503
    refine then_normal (hK467 _ _ ?_)
    refine wp_seq_k fun _ hK504 => ?_
    refine wp_region_lit ?_
    refine wl_cons (wl_val E501 rfl (rn_assign E501 rfl rfl) rfl fun a505 E506 => ?_)
    clear E501
    refine wl_nil ?_
    refine then_normal (hK504 _ _ ?_)
    refine wp_ret ?_
    refine ?_
    refine wb_ret1 E506 rfl (rv_tmp E506 rfl) ⟨_, rfl, ?_⟩
    have E507 := Env.put E460 (d := 10) rfl (.int .i64 0)
    generalize hae : Act.put _ (some 10) _ = a508 at E507 ⊢; clear hae
    refine wl_cons (wl_val E507 rfl (rn_assign E507 rfl rfl) rfl fun a509 E510 => ?_)
    clear E507
    refine wl_cons (wl_val E510 rfl (rn_assign E510 rfl rfl) rfl fun a511 E512 => ?_)
    clear E510
    refine wl_nil ?_
    refine then_normal (hK454 _ _ ?_)
    refine wp_ret ?_
    refine ?_
    refine wb_ret2 E512 rfl (rv_tmp E512 rfl) (rv_tmp E512 rfl) ⟨_, rfl, ?_⟩
    have E513 := Env.put E445 (d := 32) rfl (.tuple #[.bool true, .int .i64 0])
    generalize hae : Act.put _ (some 32) _ = a514 at E513 ⊢; clear hae
    refine wl_cons (wl_val E513 rfl (rn_move E513 rfl rfl) rfl fun a515 E516 => ?_)
    clear E513
    refine wl_cons (wl_val E516 rfl (rn_extract E516 rfl rfl rfl) rfl fun a517 E518 => ?_)
    clear E516
    refine wl_cons (wl_val E518 rfl (rn_extract E518 rfl rfl rfl) rfl fun a519 E520 => ?_)
    clear E518
    refine wl_cons (wl_val E520 rfl (rn_assign E520 rfl rfl) rfl fun a521 E522 => ?_)
    clear E520
    refine wl_cons (wl_val E522 rfl (rn_assign E522 rfl rfl) rfl fun a523 E524 => ?_)
    clear E522
    refine wl_nil ?_
    refine then_normal (hK430 _ _ ?_)
    refine wp_seq_k fun _ hK525 => ?_
    refine wp_seq_k fun _ hK526 => ?_
    refine wp_region_lit ?_
    refine wl_cons (wl_val E524 rfl (rn_move E524 rfl rfl) rfl fun a527 E528 => ?_)
    clear E524
    refine wl_cons (wl_val E528 rfl (rn_int E528 rfl rfl rfl rfl) rfl fun a529 E530 => ?_)
    clear E528
    refine wl_nil ?_
    refine then_normal (hK526 _ _ ?_)
    refine wc_F E530 rfl rfl ?_
    refine wp_skip ?_
    refine then_normal (hK525 _ _ ?_)
    refine wp_seq_k fun _ hK531 => ?_
    refine wp_region_lit ?_
    refine wl_cons (wl_val E530 rfl (rn_ldN (i := 7) [.int .i64 y419.Next, .int .i64 y419.NextSession, .slice p421 (((y419.Processes.set y394.1.toNat (⟨u439.PID, u439.PPID, u439.UID, u439.EUID, u439.GID, u439.EGID, u439.AUID, u439.Session, u439.Cwd, u439.Comm, a2, u439.Open, u439.Audited⟩ : api_Process)).set y394.1.toNat (⟨u496.PID, u496.PPID, u496.UID, u496.EUID, u496.GID, u496.EGID, u496.AUID, u496.Session, u496.Cwd, a3, u496.Exe, u496.Open, u496.Audited⟩ : api_Process)).length) c422] E530 H rfl Try.underlying28 rfl ti28 rfl rfl rfl rfl) rfl fun a532 E533 => ?_)
    clear E530
    refine wl_cons (wl_val E533 rfl (rn_move E533 rfl rfl) rfl fun a534 E535 => ?_)
    clear E533
    refine wl_cons (wl_store (i := 8) (vs := [.int .i64 y419.Next, .int .i64 y419.NextSession, .slice p421 (((y419.Processes.set y394.1.toNat (⟨u439.PID, u439.PPID, u439.UID, u439.EUID, u439.GID, u439.EGID, u439.AUID, u439.Session, u439.Cwd, u439.Comm, a2, u439.Open, u439.Audited⟩ : api_Process)).set y394.1.toNat (⟨u496.PID, u496.PPID, u496.UID, u496.EUID, u496.GID, u496.EGID, u496.AUID, u496.Session, u496.Cwd, a3, u496.Exe, u496.Open, u496.Audited⟩ : api_Process)).length) c422]) (cs' := [.int .i64 y419.Next, .int .i64 y419.NextSession, .slice p421 (((y419.Processes.set y394.1.toNat (⟨u439.PID, u439.PPID, u439.UID, u439.EUID, u439.GID, u439.EGID, u439.AUID, u439.Session, u439.Cwd, u439.Comm, a2, u439.Open, u439.Audited⟩ : api_Process)).set y394.1.toNat (⟨u496.PID, u496.PPID, u496.UID, u496.EUID, u496.GID, u496.EGID, u496.AUID, u496.Session, u496.Cwd, a3, u496.Exe, u496.Open, u496.Audited⟩ : api_Process)).length) c422]) E535 H rfl rfl rfl rfl ti28 rfl rfl rfl rfl rfl rfl fun w538 a536 E537 H' => ?_)
    clear H E535; have H := H'; clear H'
    refine wl_cons (wl_val E537 rfl (rn_assign E537 rfl rfl) rfl fun a539 E540 => ?_)
    clear E537
    refine wl_cons (wl_val E540 rfl (rn_assign E540 rfl rfl) rfl fun a541 E542 => ?_)
    clear E540
    refine wl_nil ?_
    refine then_normal (hK531 _ _ ?_)
    refine wp_ret ?_
    refine ?_
    refine wb_ret3 E542 rfl (rv_cellN (cs := [.int .i64 y419.Next, .int .i64 y419.NextSession, .slice p421 (((y419.Processes.set y394.1.toNat (⟨u439.PID, u439.PPID, u439.UID, u439.EUID, u439.GID, u439.EGID, u439.AUID, u439.Session, u439.Cwd, u439.Comm, a2, u439.Open, u439.Audited⟩ : api_Process)).set y394.1.toNat (⟨u496.PID, u496.PPID, u496.UID, u496.EUID, u496.GID, u496.EGID, u496.AUID, u496.Session, u496.Cwd, a3, u496.Exe, u496.Open, u496.Audited⟩ : api_Process)).length) c422]) E542 rfl Try.underlying28 rfl ti28 (H.get (i := 8) (k := 0) rfl rfl) rfl) (rv_tmp E542 rfl) (rv_tmp E542 rfl) ⟨_, rfl, ?_⟩
    have E543 := Env.put E369 (d := 14) rfl (.tuple #[.agg #[.int .i64 y419.Next, .int .i64 y419.NextSession, .slice p421 (((y419.Processes.set y394.1.toNat (⟨u439.PID, u439.PPID, u439.UID, u439.EUID, u439.GID, u439.EGID, u439.AUID, u439.Session, u439.Cwd, u439.Comm, a2, u439.Open, u439.Audited⟩ : api_Process)).set y394.1.toNat (⟨u496.PID, u496.PPID, u496.UID, u496.EUID, u496.GID, u496.EGID, u496.AUID, u496.Session, u496.Cwd, a3, u496.Exe, u496.Open, u496.Audited⟩ : api_Process)).length) c422], .bool true, .int .i64 0])
    generalize hae : Act.put _ (some 14) _ = a544 at E543 ⊢; clear hae
    refine wl_cons (wl_val E543 rfl (rn_move E543 rfl rfl) rfl fun a545 E546 => ?_)
    clear E543
    refine wl_cons (wl_val E546 rfl (rn_extract E546 rfl rfl rfl) rfl fun a547 E548 => ?_)
    clear E546
    refine wl_cons (wl_val E548 rfl (rn_extract E548 rfl rfl rfl) rfl fun a549 E550 => ?_)
    clear E548
    refine wl_cons (wl_val E550 rfl (rn_extract E550 rfl rfl rfl) rfl fun a551 E552 => ?_)
    clear E550
    refine wl_cons (wl_store (i := 4) (vs := [.int .i64 y419.Next, .int .i64 y419.NextSession, .slice p421 (((y419.Processes.set y394.1.toNat (⟨u439.PID, u439.PPID, u439.UID, u439.EUID, u439.GID, u439.EGID, u439.AUID, u439.Session, u439.Cwd, u439.Comm, a2, u439.Open, u439.Audited⟩ : api_Process)).set y394.1.toNat (⟨u496.PID, u496.PPID, u496.UID, u496.EUID, u496.GID, u496.EGID, u496.AUID, u496.Session, u496.Cwd, a3, u496.Exe, u496.Open, u496.Audited⟩ : api_Process)).length) c422]) (cs' := [.int .i64 y419.Next, .int .i64 y419.NextSession, .slice p421 (((y419.Processes.set y394.1.toNat (⟨u439.PID, u439.PPID, u439.UID, u439.EUID, u439.GID, u439.EGID, u439.AUID, u439.Session, u439.Cwd, u439.Comm, a2, u439.Open, u439.Audited⟩ : api_Process)).set y394.1.toNat (⟨u496.PID, u496.PPID, u496.UID, u496.EUID, u496.GID, u496.EGID, u496.AUID, u496.Session, u496.Cwd, a3, u496.Exe, u496.Open, u496.Audited⟩ : api_Process)).length) c422]) E552 H rfl rfl rfl rfl ti28 rfl rfl rfl rfl rfl rfl fun w555 a553 E554 H' => ?_)
    clear H E552; have H := H'; clear H'
    refine wl_cons (wl_val E554 rfl (rn_assign E554 rfl rfl) rfl fun a556 E557 => ?_)
    clear E554
    refine wl_cons (wl_val E557 rfl (rn_assign E557 rfl rfl) rfl fun a558 E559 => ?_)
    clear E557
    refine wl_nil ?_
    refine then_normal (hK363 _ _ ?_)
    refine wp_seq_k fun _ hK560 => ?_
    refine wp_region_lit ?_
    refine wl_cons (wl_val E559 rfl (rn_ldN (i := 4) [.int .i64 y419.Next, .int .i64 y419.NextSession, .slice p421 (((y419.Processes.set y394.1.toNat (⟨u439.PID, u439.PPID, u439.UID, u439.EUID, u439.GID, u439.EGID, u439.AUID, u439.Session, u439.Cwd, u439.Comm, a2, u439.Open, u439.Audited⟩ : api_Process)).set y394.1.toNat (⟨u496.PID, u496.PPID, u496.UID, u496.EUID, u496.GID, u496.EGID, u496.AUID, u496.Session, u496.Cwd, a3, u496.Exe, u496.Open, u496.Audited⟩ : api_Process)).length) c422] E559 H rfl Try.underlying28 rfl ti28 rfl rfl rfl rfl) rfl fun a561 E562 => ?_)
    clear E559
    refine wl_cons (wl_val E562 rfl (rn_move E562 rfl rfl) rfl fun a563 E564 => ?_)
    clear E562
    refine wl_cons (wl_store (i := 6) (vs := [.int .i64 y419.Next, .int .i64 y419.NextSession, .slice p421 (((y419.Processes.set y394.1.toNat (⟨u439.PID, u439.PPID, u439.UID, u439.EUID, u439.GID, u439.EGID, u439.AUID, u439.Session, u439.Cwd, u439.Comm, a2, u439.Open, u439.Audited⟩ : api_Process)).set y394.1.toNat (⟨u496.PID, u496.PPID, u496.UID, u496.EUID, u496.GID, u496.EGID, u496.AUID, u496.Session, u496.Cwd, a3, u496.Exe, u496.Open, u496.Audited⟩ : api_Process)).length) c422]) (cs' := [.int .i64 y419.Next, .int .i64 y419.NextSession, .slice p421 (((y419.Processes.set y394.1.toNat (⟨u439.PID, u439.PPID, u439.UID, u439.EUID, u439.GID, u439.EGID, u439.AUID, u439.Session, u439.Cwd, u439.Comm, a2, u439.Open, u439.Audited⟩ : api_Process)).set y394.1.toNat (⟨u496.PID, u496.PPID, u496.UID, u496.EUID, u496.GID, u496.EGID, u496.AUID, u496.Session, u496.Cwd, a3, u496.Exe, u496.Open, u496.Audited⟩ : api_Process)).length) c422]) E564 H rfl rfl rfl rfl ti28 rfl rfl rfl rfl rfl rfl fun w567 a565 E566 H' => ?_)
    clear H E564; have H := H'; clear H'
    replace H : St w Nil Z w567 [vw (kSlice 38 k_api_Process) a0.Processes [.slice p315 a0.Processes.length c316]] [[blk g320 [.int .i64 a0.Next, .int .i64 a0.NextSession, .slice p315 a0.Processes.length c316] 28], [blk g324 [.string a2] 9], [blk g328 [.string a3] 9], [blk g332 [.int .i64 0, .int .i64 0, .slice none 0 0] 28], [blk g349 [.int .i64 y419.Next, .int .i64 y419.NextSession, .slice p421 (((y419.Processes.set y394.1.toNat (⟨u439.PID, u439.PPID, u439.UID, u439.EUID, u439.GID, u439.EGID, u439.AUID, u439.Session, u439.Cwd, u439.Comm, a2, u439.Open, u439.Audited⟩ : api_Process)).set y394.1.toNat (⟨u496.PID, u496.PPID, u496.UID, u496.EUID, u496.GID, u496.EGID, u496.AUID, u496.Session, u496.Cwd, a3, u496.Exe, u496.Open, u496.Audited⟩ : api_Process)).length) c422] 28], [blk g353 [.func (.func 41) #[] #[.pointer (some ⟨g324, 0, none⟩), .pointer (some ⟨g328, 0, none⟩)]] 68], [blk g357 [.int .i64 y419.Next, .int .i64 y419.NextSession, .slice p421 (((y419.Processes.set y394.1.toNat (⟨u439.PID, u439.PPID, u439.UID, u439.EUID, u439.GID, u439.EGID, u439.AUID, u439.Session, u439.Cwd, u439.Comm, a2, u439.Open, u439.Audited⟩ : api_Process)).set y394.1.toNat (⟨u496.PID, u496.PPID, u496.UID, u496.EUID, u496.GID, u496.EGID, u496.AUID, u496.Session, u496.Cwd, a3, u496.Exe, u496.Open, u496.Audited⟩ : api_Process)).length) c422] 28], [blk g374 [.int .i64 y419.Next, .int .i64 y419.NextSession, .slice p421 (((y419.Processes.set y394.1.toNat (⟨u439.PID, u439.PPID, u439.UID, u439.EUID, u439.GID, u439.EGID, u439.AUID, u439.Session, u439.Cwd, u439.Comm, a2, u439.Open, u439.Audited⟩ : api_Process)).set y394.1.toNat (⟨u496.PID, u496.PPID, u496.UID, u496.EUID, u496.GID, u496.EGID, u496.AUID, u496.Session, u496.Cwd, a3, u496.Exe, u496.Open, u496.Audited⟩ : api_Process)).length) c422] 28], [blk g378 [.int .i64 y419.Next, .int .i64 y419.NextSession, .slice p421 (((y419.Processes.set y394.1.toNat (⟨u439.PID, u439.PPID, u439.UID, u439.EUID, u439.GID, u439.EGID, u439.AUID, u439.Session, u439.Cwd, u439.Comm, a2, u439.Open, u439.Audited⟩ : api_Process)).set y394.1.toNat (⟨u496.PID, u496.PPID, u496.UID, u496.EUID, u496.GID, u496.EGID, u496.AUID, u496.Session, u496.Cwd, a3, u496.Exe, u496.Open, u496.Audited⟩ : api_Process)).length) c422] 28], [row 38 k_api_Process ((y419.Processes.set y394.1.toNat (⟨u439.PID, u439.PPID, u439.UID, u439.EUID, u439.GID, u439.EGID, u439.AUID, u439.Session, u439.Cwd, u439.Comm, a2, u439.Open, u439.Audited⟩ : api_Process)).set y394.1.toNat (⟨u496.PID, u496.PPID, u496.UID, u496.EUID, u496.GID, u496.EGID, u496.AUID, u496.Session, u496.Cwd, a3, u496.Exe, u496.Open, u496.Audited⟩ : api_Process)) (.slice p421 (((y419.Processes.set y394.1.toNat (⟨u439.PID, u439.PPID, u439.UID, u439.EUID, u439.GID, u439.EGID, u439.AUID, u439.Session, u439.Cwd, u439.Comm, a2, u439.Open, u439.Audited⟩ : api_Process)).set y394.1.toNat (⟨u496.PID, u496.PPID, u496.UID, u496.EUID, u496.GID, u496.EGID, u496.AUID, u496.Session, u496.Cwd, a3, u496.Exe, u496.Open, u496.Audited⟩ : api_Process)).length) c422)]] := H
    refine wl_cons (wl_val E566 rfl (rn_assign E566 rfl rfl) rfl fun a568 E569 => ?_)
    clear E566
    refine wl_nil ?_
    refine then_normal (hK560 _ _ ?_)
    refine wp_ret ?_
    refine ?_
    refine wb_ret2 E569 rfl (rv_cellN (cs := [.int .i64 y419.Next, .int .i64 y419.NextSession, .slice p421 (((y419.Processes.set y394.1.toNat (⟨u439.PID, u439.PPID, u439.UID, u439.EUID, u439.GID, u439.EGID, u439.AUID, u439.Session, u439.Cwd, u439.Comm, a2, u439.Open, u439.Audited⟩ : api_Process)).set y394.1.toNat (⟨u496.PID, u496.PPID, u496.UID, u496.EUID, u496.GID, u496.EGID, u496.AUID, u496.Session, u496.Cwd, a3, u496.Exe, u496.Open, u496.Audited⟩ : api_Process)).length) c422]) E569 rfl Try.underlying28 rfl ti28 (H.get (i := 6) (k := 0) rfl rfl) rfl) (rv_tmp E569 rfl) ⟨_, rfl, ?_⟩
    have E570 := Env.put E344 (d := 13) rfl (.tuple #[.agg #[.int .i64 y419.Next, .int .i64 y419.NextSession, .slice p421 (((y419.Processes.set y394.1.toNat (⟨u439.PID, u439.PPID, u439.UID, u439.EUID, u439.GID, u439.EGID, u439.AUID, u439.Session, u439.Cwd, u439.Comm, a2, u439.Open, u439.Audited⟩ : api_Process)).set y394.1.toNat (⟨u496.PID, u496.PPID, u496.UID, u496.EUID, u496.GID, u496.EGID, u496.AUID, u496.Session, u496.Cwd, a3, u496.Exe, u496.Open, u496.Audited⟩ : api_Process)).length) c422], .int .i64 0])
    generalize hae : Act.put _ (some 13) _ = a571 at E570 ⊢; clear hae
    refine wl_cons (wl_val E570 rfl (rn_extract E570 rfl rfl rfl) rfl fun a572 E573 => ?_)
    clear E570
    refine wl_cons (wl_val E573 rfl (rn_extract E573 rfl rfl rfl) rfl fun a574 E575 => ?_)
    clear E573
    refine wl_cons (wl_store (i := 3) (vs := [.int .i64 y419.Next, .int .i64 y419.NextSession, .slice p421 (((y419.Processes.set y394.1.toNat (⟨u439.PID, u439.PPID, u439.UID, u439.EUID, u439.GID, u439.EGID, u439.AUID, u439.Session, u439.Cwd, u439.Comm, a2, u439.Open, u439.Audited⟩ : api_Process)).set y394.1.toNat (⟨u496.PID, u496.PPID, u496.UID, u496.EUID, u496.GID, u496.EGID, u496.AUID, u496.Session, u496.Cwd, a3, u496.Exe, u496.Open, u496.Audited⟩ : api_Process)).length) c422]) (cs' := [.int .i64 y419.Next, .int .i64 y419.NextSession, .slice p421 (((y419.Processes.set y394.1.toNat (⟨u439.PID, u439.PPID, u439.UID, u439.EUID, u439.GID, u439.EGID, u439.AUID, u439.Session, u439.Cwd, u439.Comm, a2, u439.Open, u439.Audited⟩ : api_Process)).set y394.1.toNat (⟨u496.PID, u496.PPID, u496.UID, u496.EUID, u496.GID, u496.EGID, u496.AUID, u496.Session, u496.Cwd, a3, u496.Exe, u496.Open, u496.Audited⟩ : api_Process)).length) c422]) E575 H rfl rfl rfl rfl ti28 rfl rfl rfl rfl rfl rfl fun w578 a576 E577 H' => ?_)
    clear H E575; have H := H'; clear H'
    refine wl_cons (wl_val E577 rfl (rn_assign E577 rfl rfl) rfl fun a579 E580 => ?_)
    clear E577
    refine wl_nil ?_
    refine then_normal (hK338 _ _ ?_)
    refine wp_ret ?_
    refine ?_
    obtain rfl := Option.some.inj h
    replace H : St w Nil Z w578 [vw (kSlice 38 k_api_Process) a0.Processes [.slice p315 a0.Processes.length c316]] [[blk g320 [.int .i64 a0.Next, .int .i64 a0.NextSession, .slice p315 a0.Processes.length c316] 28], [blk g324 [.string a2] 9], [blk g328 [.string a3] 9], [blk g332 [.int .i64 y419.Next, .int .i64 y419.NextSession, .slice p421 (((y419.Processes.set y394.1.toNat (⟨u439.PID, u439.PPID, u439.UID, u439.EUID, u439.GID, u439.EGID, u439.AUID, u439.Session, u439.Cwd, u439.Comm, a2, u439.Open, u439.Audited⟩ : api_Process)).set y394.1.toNat (⟨u496.PID, u496.PPID, u496.UID, u496.EUID, u496.GID, u496.EGID, u496.AUID, u496.Session, u496.Cwd, a3, u496.Exe, u496.Open, u496.Audited⟩ : api_Process)).length) c422] 28], [blk g349 [.int .i64 y419.Next, .int .i64 y419.NextSession, .slice p421 (((y419.Processes.set y394.1.toNat (⟨u439.PID, u439.PPID, u439.UID, u439.EUID, u439.GID, u439.EGID, u439.AUID, u439.Session, u439.Cwd, u439.Comm, a2, u439.Open, u439.Audited⟩ : api_Process)).set y394.1.toNat (⟨u496.PID, u496.PPID, u496.UID, u496.EUID, u496.GID, u496.EGID, u496.AUID, u496.Session, u496.Cwd, a3, u496.Exe, u496.Open, u496.Audited⟩ : api_Process)).length) c422] 28], [blk g353 [.func (.func 41) #[] #[.pointer (some ⟨g324, 0, none⟩), .pointer (some ⟨g328, 0, none⟩)]] 68], [blk g357 [.int .i64 y419.Next, .int .i64 y419.NextSession, .slice p421 (((y419.Processes.set y394.1.toNat (⟨u439.PID, u439.PPID, u439.UID, u439.EUID, u439.GID, u439.EGID, u439.AUID, u439.Session, u439.Cwd, u439.Comm, a2, u439.Open, u439.Audited⟩ : api_Process)).set y394.1.toNat (⟨u496.PID, u496.PPID, u496.UID, u496.EUID, u496.GID, u496.EGID, u496.AUID, u496.Session, u496.Cwd, a3, u496.Exe, u496.Open, u496.Audited⟩ : api_Process)).length) c422] 28], [blk g374 [.int .i64 y419.Next, .int .i64 y419.NextSession, .slice p421 (((y419.Processes.set y394.1.toNat (⟨u439.PID, u439.PPID, u439.UID, u439.EUID, u439.GID, u439.EGID, u439.AUID, u439.Session, u439.Cwd, u439.Comm, a2, u439.Open, u439.Audited⟩ : api_Process)).set y394.1.toNat (⟨u496.PID, u496.PPID, u496.UID, u496.EUID, u496.GID, u496.EGID, u496.AUID, u496.Session, u496.Cwd, a3, u496.Exe, u496.Open, u496.Audited⟩ : api_Process)).length) c422] 28], [blk g378 [.int .i64 y419.Next, .int .i64 y419.NextSession, .slice p421 (((y419.Processes.set y394.1.toNat (⟨u439.PID, u439.PPID, u439.UID, u439.EUID, u439.GID, u439.EGID, u439.AUID, u439.Session, u439.Cwd, u439.Comm, a2, u439.Open, u439.Audited⟩ : api_Process)).set y394.1.toNat (⟨u496.PID, u496.PPID, u496.UID, u496.EUID, u496.GID, u496.EGID, u496.AUID, u496.Session, u496.Cwd, a3, u496.Exe, u496.Open, u496.Audited⟩ : api_Process)).length) c422] 28], [row 38 k_api_Process ((y419.Processes.set y394.1.toNat (⟨u439.PID, u439.PPID, u439.UID, u439.EUID, u439.GID, u439.EGID, u439.AUID, u439.Session, u439.Cwd, u439.Comm, a2, u439.Open, u439.Audited⟩ : api_Process)).set y394.1.toNat (⟨u496.PID, u496.PPID, u496.UID, u496.EUID, u496.GID, u496.EGID, u496.AUID, u496.Session, u496.Cwd, a3, u496.Exe, u496.Open, u496.Audited⟩ : api_Process)) (.slice p421 (((y419.Processes.set y394.1.toNat (⟨u439.PID, u439.PPID, u439.UID, u439.EUID, u439.GID, u439.EGID, u439.AUID, u439.Session, u439.Cwd, u439.Comm, a2, u439.Open, u439.Audited⟩ : api_Process)).set y394.1.toNat (⟨u496.PID, u496.PPID, u496.UID, u496.EUID, u496.GID, u496.EGID, u496.AUID, u496.Session, u496.Cwd, a3, u496.Exe, u496.Open, u496.Audited⟩ : api_Process)).length) c422)]] := H
    refine wb_ret2 E580 rfl (rv_cellN (cs := [.int .i64 y419.Next, .int .i64 y419.NextSession, .slice p421 (((y419.Processes.set y394.1.toNat (⟨u439.PID, u439.PPID, u439.UID, u439.EUID, u439.GID, u439.EGID, u439.AUID, u439.Session, u439.Cwd, u439.Comm, a2, u439.Open, u439.Audited⟩ : api_Process)).set y394.1.toNat (⟨u496.PID, u496.PPID, u496.UID, u496.EUID, u496.GID, u496.EGID, u496.AUID, u496.Session, u496.Cwd, a3, u496.Exe, u496.Open, u496.Audited⟩ : api_Process)).length) c422]) E580 rfl Try.underlying28 rfl ti28 (H.get (i := 3) (k := 0) rfl rfl) rfl) (rv_tmp E580 rfl) ?_
    exact ⟨_, rfl, [], [[row 38 k_api_Process ((y419.Processes.set y394.1.toNat (⟨u439.PID, u439.PPID, u439.UID, u439.EUID, u439.GID, u439.EGID, u439.AUID, u439.Session, u439.Cwd, u439.Comm, a2, u439.Open, u439.Audited⟩ : api_Process)).set y394.1.toNat (⟨u496.PID, u496.PPID, u496.UID, u496.EUID, u496.GID, u496.EGID, u496.AUID, u496.Session, u496.Cwd, a3, u496.Exe, u496.Open, u496.Audited⟩ : api_Process)) (.slice p421 (((y419.Processes.set y394.1.toNat (⟨u439.PID, u439.PPID, u439.UID, u439.EUID, u439.GID, u439.EGID, u439.AUID, u439.Session, u439.Cwd, u439.Comm, a2, u439.Open, u439.Audited⟩ : api_Process)).set y394.1.toNat (⟨u496.PID, u496.PPID, u496.UID, u496.EUID, u496.GID, u496.EGID, u496.AUID, u496.Session, u496.Cwd, a3, u496.Exe, u496.Open, u496.Audited⟩ : api_Process)).length) c422)]], ⟨_, _, rfl, rfl, rfl⟩, H.leave (fun Z hA => trivial) (fun Z S hA hL => Holds_sub (.cons _ (.cons _ (.cons _ (.cons _ (.cons _ (.cons _ (.cons _ (.cons _ (.cons _ (.cons_cons _ .slnil)))))))))) hL)⟩
  · replace h := itF hb415 h
    refine wc_T E414 rfl (congrArg Bool.not hb415) ?_
    refine wp_seq_k fun _ hK581 => ?_
    refine wp_region_lit ?_
    refine wl_cons (wl_val E414 rfl (rn_build (ps := []) (cs := [.int .i64 0, .int .i64 0, .slice none 0 0]) E414 rfl rfl (by kernel_rfl)) rfl fun a582 E583 => ?_)
    clear E414
    refine wl_cons (wl_val E583 rfl (rn_move E583 rfl rfl) rfl fun a584 E585 => ?_)
    clear E583
    refine wl_cons (wl_store (i := 8) (vs := [.int .i64 0, .int .i64 0, .slice none 0 0]) (cs' := [.int .i64 0, .int .i64 0, .slice none 0 0]) E585 H rfl rfl rfl rfl ti28 rfl rfl rfl rfl rfl rfl fun w588 a586 E587 H' => ?_)
    clear H E585; have H := H'; clear H'
    refine wl_cons (wl_val E587 rfl (rn_assign E587 rfl rfl) rfl fun a589 E590 => ?_)
    clear E587
    refine wl_cons (wl_val E590 rfl (rn_assign E590 rfl rfl) rfl fun a591 E592 => ?_)
    clear E590
    refine wl_nil ?_
    refine then_normal (hK581 _ _ ?_)
    refine wp_ret ?_
    refine then_ret (?_)
    refine wb_ret3 E592 rfl (rv_cellN (cs := [.int .i64 0, .int .i64 0, .slice none 0 0]) E592 rfl Try.underlying28 rfl ti28 (H.get (i := 8) (k := 0) rfl rfl) rfl) (rv_tmp E592 rfl) (rv_tmp E592 rfl) ⟨_, rfl, ?_⟩
    have E593 := Env.put E369 (d := 14) rfl (.tuple #[.agg #[.int .i64 0, .int .i64 0, .slice none 0 0], .bool false, .int .i64 3])
    generalize hae : Act.put _ (some 14) _ = a594 at E593 ⊢; clear hae
    refine wl_cons (wl_val E593 rfl (rn_move E593 rfl rfl) rfl fun a595 E596 => ?_)
    clear E593
    refine wl_cons (wl_val E596 rfl (rn_extract E596 rfl rfl rfl) rfl fun a597 E598 => ?_)
    clear E596
    refine wl_cons (wl_val E598 rfl (rn_extract E598 rfl rfl rfl) rfl fun a599 E600 => ?_)
    clear E598
    refine wl_cons (wl_val E600 rfl (rn_extract E600 rfl rfl rfl) rfl fun a601 E602 => ?_)
    clear E600
    refine wl_cons (wl_store (i := 4) (vs := [.int .i64 0, .int .i64 0, .slice none 0 0]) (cs' := [.int .i64 0, .int .i64 0, .slice none 0 0]) E602 H rfl rfl rfl rfl ti28 rfl rfl rfl rfl rfl rfl fun w605 a603 E604 H' => ?_)
    clear H E602; have H := H'; clear H'
    replace H : St w Nil Z w605 [vw (kSlice 38 k_api_Process) a0.Processes [.slice p315 a0.Processes.length c316]] [[blk g320 [.int .i64 a0.Next, .int .i64 a0.NextSession, .slice p315 a0.Processes.length c316] 28], [blk g324 [.string a2] 9], [blk g328 [.string a3] 9], [blk g332 [.int .i64 0, .int .i64 0, .slice none 0 0] 28], [blk g349 [.int .i64 0, .int .i64 0, .slice none 0 0] 28], [blk g353 [.func (.func 41) #[] #[.pointer (some ⟨g324, 0, none⟩), .pointer (some ⟨g328, 0, none⟩)]] 68], [blk g357 [.int .i64 0, .int .i64 0, .slice none 0 0] 28], [blk g374 [.int .i64 a0.Next, .int .i64 a0.NextSession, .slice p315 a0.Processes.length c316] 28], [blk g378 [.int .i64 0, .int .i64 0, .slice none 0 0] 28]] := H
    refine wl_cons (wl_val E604 rfl (rn_assign E604 rfl rfl) rfl fun a606 E607 => ?_)
    clear E604
    refine wl_cons (wl_val E607 rfl (rn_assign E607 rfl rfl) rfl fun a608 E609 => ?_)
    clear E607
    refine wl_nil ?_
    refine then_normal (hK363 _ _ ?_)
    refine wp_seq_k fun _ hK610 => ?_
    refine wp_region_lit ?_
    refine wl_cons (wl_val E609 rfl (rn_ldN (i := 4) [.int .i64 0, .int .i64 0, .slice none 0 0] E609 H rfl Try.underlying28 rfl ti28 rfl rfl rfl rfl) rfl fun a611 E612 => ?_)
    clear E609
    refine wl_cons (wl_val E612 rfl (rn_move E612 rfl rfl) rfl fun a613 E614 => ?_)
    clear E612
    refine wl_cons (wl_store (i := 6) (vs := [.int .i64 0, .int .i64 0, .slice none 0 0]) (cs' := [.int .i64 0, .int .i64 0, .slice none 0 0]) E614 H rfl rfl rfl rfl ti28 rfl rfl rfl rfl rfl rfl fun w617 a615 E616 H' => ?_)
    clear H E614; have H := H'; clear H'
    refine wl_cons (wl_val E616 rfl (rn_assign E616 rfl rfl) rfl fun a618 E619 => ?_)
    clear E616
    refine wl_nil ?_
    refine then_normal (hK610 _ _ ?_)
    refine wp_ret ?_
    refine ?_
    refine wb_ret2 E619 rfl (rv_cellN (cs := [.int .i64 0, .int .i64 0, .slice none 0 0]) E619 rfl Try.underlying28 rfl ti28 (H.get (i := 6) (k := 0) rfl rfl) rfl) (rv_tmp E619 rfl) ⟨_, rfl, ?_⟩
    have E620 := Env.put E344 (d := 13) rfl (.tuple #[.agg #[.int .i64 0, .int .i64 0, .slice none 0 0], .int .i64 3])
    generalize hae : Act.put _ (some 13) _ = a621 at E620 ⊢; clear hae
    refine wl_cons (wl_val E620 rfl (rn_extract E620 rfl rfl rfl) rfl fun a622 E623 => ?_)
    clear E620
    refine wl_cons (wl_val E623 rfl (rn_extract E623 rfl rfl rfl) rfl fun a624 E625 => ?_)
    clear E623
    refine wl_cons (wl_store (i := 3) (vs := [.int .i64 0, .int .i64 0, .slice none 0 0]) (cs' := [.int .i64 0, .int .i64 0, .slice none 0 0]) E625 H rfl rfl rfl rfl ti28 rfl rfl rfl rfl rfl rfl fun w628 a626 E627 H' => ?_)
    clear H E625; have H := H'; clear H'
    refine wl_cons (wl_val E627 rfl (rn_assign E627 rfl rfl) rfl fun a629 E630 => ?_)
    clear E627
    refine wl_nil ?_
    refine then_normal (hK338 _ _ ?_)
    refine wp_ret ?_
    refine ?_
    obtain rfl := Option.some.inj h
    replace H := H.nilRow 38 k_api_Process
    replace H : St w Nil Z w628 [vw (kSlice 38 k_api_Process) a0.Processes [.slice p315 a0.Processes.length c316]] [[blk g320 [.int .i64 a0.Next, .int .i64 a0.NextSession, .slice p315 a0.Processes.length c316] 28], [blk g324 [.string a2] 9], [blk g328 [.string a3] 9], [blk g332 [.int .i64 0, .int .i64 0, .slice none 0 0] 28], [blk g349 [.int .i64 0, .int .i64 0, .slice none 0 0] 28], [blk g353 [.func (.func 41) #[] #[.pointer (some ⟨g324, 0, none⟩), .pointer (some ⟨g328, 0, none⟩)]] 68], [blk g357 [.int .i64 0, .int .i64 0, .slice none 0 0] 28], [blk g374 [.int .i64 a0.Next, .int .i64 a0.NextSession, .slice p315 a0.Processes.length c316] 28], [blk g378 [.int .i64 0, .int .i64 0, .slice none 0 0] 28], [row 38 k_api_Process ([] : List api_Process) (.slice none 0 0)]] := H
    refine wb_ret2 E630 rfl (rv_cellN (cs := [.int .i64 0, .int .i64 0, .slice none 0 0]) E630 rfl Try.underlying28 rfl ti28 (H.get (i := 3) (k := 0) rfl rfl) rfl) (rv_tmp E630 rfl) ?_
    exact ⟨_, rfl, [], [[row 38 k_api_Process ([] : List api_Process) (.slice none 0 0)]], ⟨_, _, rfl, rfl, rfl⟩, H.leave (fun Z hA => trivial) (fun Z S hA hL => Holds_sub (.cons _ (.cons _ (.cons _ (.cons _ (.cons _ (.cons _ (.cons _ (.cons _ (.cons _ (.cons_cons _ .slnil)))))))))) hL)⟩
end Go.Proofs.Ytanimjbmkhpnaaa.Gx
