/- Function 44, kaudit/process.descriptors: what it answers as a plain function, and that the Go code comes to exactly that (where the plain function gives an answer). -/
import Derived.Test.YtanimjbmkhpnaaaXT
import Derived.Test.YtanimjbmkhpnaaaX39
set_option linter.unusedVariables false
set_option linter.unusedSimpArgs false
namespace Go.Proofs.Ytanimjbmkhpnaaa.Gx
open Go.Gx Go.RowKit
/-! ### kaudit/process.descriptors: function 44 -/
def f_process_descriptors_l1 (a0 : (List api_Descriptor)) : Nat → Int → Option (Sum (Unit) (Bool))
  | 0, _ => none
  | k_ + 1, x289 => if (decide (x289 < (a0.length : Int))) = true then ((at_ a0 x289).bind fun u306 => (f_process_between 7 [u306.FD]).bind fun y336 => if y336 = true then (if (decide (x289 > 0)) = true then ((at_ a0 (IntKind.wrap .i64 (x289 - 1))).bind fun u359 => if (decide (u359.FD ≥ u306.FD)) = true then (some (Sum.inr (false))) else (f_process_descriptors_l1 a0 k_ (IntKind.wrap .i64 (x289 + 1)))) else (f_process_descriptors_l1 a0 k_ (IntKind.wrap .i64 (x289 + 1)))) else (some (Sum.inr (false)))) else (some (Sum.inl ()))
def f_process_descriptors (a0 : (List api_Descriptor)) : Option (Bool) := (f_process_descriptors_l1 a0 (((((a0.length : Int) : Int) - (0)).toNat + 1)) 0).bind fun o_ => match o_ with | Sum.inl _ => some (true) | Sum.inr r_ => some (r_)
set_option maxHeartbeats 4000000 in
set_option maxRecDepth 100000 in
theorem C44 (a0 : (List api_Descriptor)) (p3 : Option Addr) (c4 : Nat) (r : Bool) (w : World) (h : f_process_descriptors a0 = some r) : Fun Try.prog 44 #[.slice p3 a0.length c4] w [vw (kSlice 81 k_api_Descriptor) a0 [.slice p3 a0.length c4]] (fun (v_ : Value) (A_ : List VP) (N_ : List (List SP)) => v_ = .bool r ∧ A_ = [] ∧ N_ = []) := by
  unfold f_process_descriptors at h
  refine fun_begin (args := [.slice p3 a0.length c4]) Try.func44 rfl Try.ntmps44 rfl fun Z a E H => ?_
  refine wp_seq_k fun _ hK5 => ?_
  refine wp_region_lit ?_
  refine wl_cons (wl_val E rfl (rn_assign E rfl rfl) rfl fun a6 E7 => ?_)
  clear E
  refine wl_nil ?_
  refine then_normal (hK5 _ _ ?_)
  refine wp_seq_k fun _ hK8 => ?_
  refine wp_seq_k fun _ hK9 => ?_
  refine wp_region_lit ?_
  refine wl_cons (wl_val E7 rfl (rn_move E7 rfl rfl) rfl fun a10 E11 => ?_)
  clear E7
  refine wl_cons (wl_val E11 rfl (rn_len E11 rfl Try.underlying36 rfl) rfl fun a12 E13 => ?_)
  clear E11
  refine wl_cons (wl_val E13 rfl (rn_move E13 rfl rfl) rfl fun a14 E15 => ?_)
  clear E13
  refine wl_nil ?_
  refine then_normal (hK9 _ _ ?_)
  refine wp_block ?_
  obtain ⟨o290, ho291, h⟩ := bs h
  refine wc_loop (fun k_ a_ w_ => ∃ (x289 : Int), Env 33 a_ [(0, .slice p3 a0.length c4), (2, .bool false), (5, .slice p3 a0.length c4), (6, .int .i64 (a0.length : Int)), (7, .int .i64 x289)] ∧ St w Nil Z w_ [vw (kSlice 81 k_api_Descriptor) a0 [.slice p3 a0.length c4]] [] ∧ f_process_descriptors_l1 a0 k_ x289 = some o290) (((((a0.length : Int) : Int) - (0)).toNat + 1)) ?_ ?_ ?_
  · exact ⟨0, E15.pick ⟨rfl, rfl, rfl, rfl, rfl, trivial⟩, H, ho291⟩
  · rintro _ _ ⟨_, _, _, h_⟩
    rw [f_process_descriptors_l1] at h_; cases h_
  · rintro k292 a293 w294 ⟨x289, E295, H', h296⟩
    rw [f_process_descriptors_l1] at h296
    clear H; have H := H'; clear H'
    refine wp_seq_k fun _ hK297 => ?_
    refine wp_region_lit ?_
    refine wl_cons (wl_val E295 rfl (rn_int E295 rfl rfl rfl rfl) rfl fun a298 E299 => ?_)
    clear E295
    refine wl_nil ?_
    refine then_normal (hK297 _ _ ?_)
    refine wp_seq_k fun _ hK300 => ?_
    rcases Bool.eq_false_or_eq_true (decide (x289 < (a0.length : Int))) with hb301 | hb301
    · replace h296 := itT hb301 h296
      refine wc_T E299 rfl hb301 ?_
      refine wp_skip ?_
      refine then_normal (hK300 _ _ ?_)
      refine wp_seq_k fun _ hK302 => ?_
      refine wp_block ?_
      refine wp_seq_k fun _ hK303 => ?_
      refine wp_region_lit ?_
      refine wl_cons (wl_val E299 rfl (rn_move E299 rfl rfl) rfl fun a304 E305 => ?_)
      clear E299
      obtain ⟨u306, hy307, h296⟩ := bs h296
      obtain ⟨q308, hq309, hr310⟩ := rn_idx (K := k_api_Descriptor) (P := Try.prog) (o := ⟨some 10, .indexAddr 36 (.tmp 5) (.tmp 7), 0, "", #[], none⟩) E305 rfl Try.underlying36 ti81 rfl rfl (H.readA (k := 0) rfl) hy307
      refine wl_cons (wl_val E305 rfl ((hr310 _)) rfl fun a311 E312 => ?_)
      clear E305
      obtain ⟨_, H', hc313⟩ := St.openA k_api_Descriptor_opens H (k := 0) rfl hy307
      replace H := H'; clear H'
      refine wl_cons (wl_val E312 rfl (rn_loadIN (vs := [.int .i64 u306.FD, .int .i64 u306.File.Dev, .int .i64 u306.File.Ino, .int .i64 u306.Flags]) E312 rfl Try.underlying81 rfl ti81 rfl hq309 hc313 rfl rfl) rfl fun a314 E315 => ?_)
      clear E312
      refine wl_cons (wl_alloc (cs := [.int .i64 0, .int .i64 0, .int .i64 0, .int .i64 0]) E315 H rfl ti81 rfl rfl fun g316 w317 a318 E319 H' => ?_)
      clear H E315; have H := H'; clear H'
      refine wl_cons (wl_val E319 rfl (rn_assign E319 rfl rfl) rfl fun a320 E321 => ?_)
      clear E319
      refine wl_cons (wl_store (i := 0) (vs := [.int .i64 u306.FD, .int .i64 u306.File.Dev, .int .i64 u306.File.Ino, .int .i64 u306.Flags]) (cs' := [.int .i64 u306.FD, .int .i64 u306.File.Dev, .int .i64 u306.File.Ino, .int .i64 u306.Flags]) E321 H rfl rfl rfl rfl ti81 rfl rfl rfl rfl rfl rfl fun w324 a322 E323 H' => ?_)
      clear H E321; have H := H'; clear H'
      replace H : St w Nil Z w324 [vw (kSlice 81 k_api_Descriptor) a0 [.slice p3 a0.length c4]] [[blk g316 [.int .i64 u306.FD, .int .i64 u306.File.Dev, .int .i64 u306.File.Ino, .int .i64 u306.Flags] 81]] := H
      refine wl_nil ?_
      refine then_normal (hK303 _ _ ?_)
      refine wp_seq_k fun _ hK325 => ?_
      refine wa_begin mixed (fun w_ => (∃ Z S, (blk g316 [.int .i64 u306.FD, .int .i64 u306.File.Dev, .int .i64 u306.File.Ino, .int .i64 u306.Flags] 81).holds w_ Z S) ∧ True) [16] [2, 3, 14] H rfl fun w326 H' => ?_
      clear H; have H := H'; clear H'
      refine wa_take (i := 0) E323 rfl (by kernel_rfl) (panic_then (panic_block (panic_then (panic_then (panic_block (panic_then panic_body)))))) rfl (fun w_ => rn_fieldAddr E323 rfl Try.underlying81 rfl ti3 rfl rfl) rfl fun a327 E328 => ?_
      clear E323
      refine wa_takeU (i := 1) E328 rfl (by kernel_rfl) (by kernel_rfl) (panic_then (panic_block (panic_then (panic_then (panic_block (panic_then panic_body)))))) rfl (rn_ld1 (i := 0) E328 H rfl Try.underlying3 rfl rfl rfl rfl) rfl fun a329 E330 => ?_
      clear E328
      refine wa_only (i := 2) rfl (by kernel_rfl) (by kernel_rfl) (wl_buildSlice (ps := [(0, .int .i64 u306.FD)]) (cs := [.int .i64 u306.FD]) E330 H rfl Try.underlying22 ti3 rfl rfl (by kernel_rfl) rfl fun g331 w332 a333 E334 H' => ?_)
      clear H E330; have H := H'; clear H'
      refine ⟨fun _ => ⟨H.get (i := 0) (k := 0) rfl rfl, trivial⟩, ?_⟩
      replace H := H.toRow (i := 1) (K := (kInt .i64)) (xs := [u306.FD]) rfl rfl (fun Z hA => ⟨[.int .i64 u306.FD], _, rfl, rfl, rfl⟩)
      obtain ⟨y336, hy337, h296⟩ := bs h296
      refine wa_only (i := 3) rfl (by kernel_rfl) (by kernel_rfl) (wl_funFlat E334 H rfl (rn_call (args := [.int .i64 7, .slice (some ⟨g331, 0, none⟩) 1 1]) E334 rfl rfl rfl Try.func39 nm39 rfl) rfl (by exact fun Z S hA hL => ⟨(Holds_row hL (i := 1) rfl), trivial⟩) (C39 7 [u306.FD] (some ⟨g331, 0, none⟩) 1 _ _ hy337) C39_flat ?_)
      rintro v_ A_ N_ w340 a338 ⟨rfl, rfl, rfl⟩ E339 H'
      replace H := H'; clear H' E334
      replace H : St w Nil Z w340 [vw (kSlice 81 k_api_Descriptor) a0 [.slice p3 a0.length c4]] [[blk g316 [.int .i64 u306.FD, .int .i64 u306.File.Dev, .int .i64 u306.File.Ino, .int .i64 u306.Flags] 81], [row 3 (kInt .i64) [u306.FD] (.slice (some ⟨g331, 0, none⟩) 1 1)]] := H
      refine ⟨fun _ => ⟨H.get (i := 0) (k := 0) rfl rfl, trivial⟩, ?_⟩
      refine wa_take (i := 4) E339 rfl (by kernel_rfl) (panic_then (panic_block (panic_then (panic_then (panic_block (panic_then panic_body)))))) rfl (fun w_ => rn_not E339 rfl rfl) rfl fun a341 E342 => ?_
      clear E339
      refine wa_take (i := 5) E342 rfl (by kernel_rfl) (panic_then (panic_block (panic_then (panic_then (panic_block (panic_then panic_body)))))) rfl (fun w_ => rn_move E342 rfl rfl) rfl fun a343 E344 => ?_
      clear E342
      rcases Bool.eq_false_or_eq_true y336 with hb345 | hb345
      · replace h296 := itT hb345 h296
        refine wa_take (i := 6) E344 rfl (by kernel_rfl) (panic_then (panic_block (panic_then (panic_then (panic_block (panic_then panic_body)))))) (E344.wantedB rfl rfl rfl (congrArg Bool.not hb345)) (fun w_ => rn_move E344 rfl rfl) rfl fun a346 E347 => ?_
        clear E344
        refine wa_take (i := 7) E347 rfl (by kernel_rfl) (panic_then (panic_block (panic_then (panic_then (panic_block (panic_then panic_body)))))) (E347.wantedB rfl rfl rfl (congrArg Bool.not hb345)) (fun w_ => rn_int E347 rfl rfl rfl rfl) rfl fun a348 E349 => ?_
        clear E347
        refine wa_take (i := 8) E349 rfl (by kernel_rfl) (panic_then (panic_block (panic_then (panic_then (panic_block (panic_then panic_body)))))) (E349.wantedB rfl rfl rfl (congrArg Bool.not hb345)) (fun w_ => rn_move E349 rfl rfl) rfl fun a350 E351 => ?_
        clear E349
        rcases Bool.eq_false_or_eq_true (decide (x289 > 0)) with hb352 | hb352
        · replace h296 := itT hb352 h296
          refine wa_take (i := 9) E351 rfl (by kernel_rfl) (panic_then (panic_block (panic_then (panic_then (panic_block (panic_then panic_body)))))) (E351.wantedB rfl rfl rfl hb352) (fun w_ => rn_move E351 rfl rfl) rfl fun a353 E354 => ?_
          clear E351
          refine wa_take (i := 10) E354 rfl (by kernel_rfl) (panic_then (panic_block (panic_then (panic_then (panic_block (panic_then panic_body)))))) (E354.wantedB rfl rfl rfl hb352) (fun w_ => rn_move E354 rfl rfl) rfl fun a355 E356 => ?_
          clear E354
          refine wa_take (i := 11) E356 rfl (by kernel_rfl) (panic_then (panic_block (panic_then (panic_then (panic_block (panic_then panic_body)))))) (E356.wantedB rfl rfl rfl hb352) (fun w_ => rn_int E356 rfl rfl rfl rfl) rfl fun a357 E358 => ?_
          clear E356
          obtain ⟨u359, hy360, h296⟩ := bs h296
          obtain ⟨q361, hq362, hr363⟩ := rn_idx (K := k_api_Descriptor) (P := Try.prog) (o := ⟨some 24, .indexAddr 36 (.tmp 21) (.tmp 23), 0, "", #[], none⟩) E358 rfl Try.underlying36 ti81 rfl rfl (H.readA (k := 0) rfl) hy360
          refine wa_take (i := 12) E358 rfl (by kernel_rfl) (panic_then (panic_block (panic_then (panic_then (panic_block (panic_then panic_body)))))) (E358.wantedB rfl rfl rfl hb352) (fun w_ => (hr363 _)) rfl fun a364 E365 => ?_
          clear E358
          obtain ⟨q366, hq367, hr368⟩ := rn_fieldAddrI (P := Try.prog) (o := ⟨some 25, .fieldAddr 81 (.tmp 24) 0, 0, "", #[], none⟩) E365 rfl Try.underlying81 rfl ti3 rfl hq362 (off' := 0) rfl
          refine wa_take (i := 13) E365 rfl (by kernel_rfl) (panic_then (panic_block (panic_then (panic_then (panic_block (panic_then panic_body)))))) (E365.wantedB rfl rfl rfl hb352) (fun w_ => (hr368 _)) rfl fun a369 E370 => ?_
          clear E365
          refine wa_take (i := 15) E370 rfl (by kernel_rfl) (panic_then (panic_block (panic_then (panic_then (panic_block (panic_then panic_body)))))) (E370.wantedB rfl rfl rfl hb352) (fun w_ => rn_fieldAddr E370 rfl Try.underlying81 rfl ti3 rfl rfl) rfl fun a371 E372 => ?_
          clear E370
          refine wa_takeS (i := 16) E372 rfl (by kernel_rfl) (by kernel_rfl) (panic_then (panic_block (panic_then (panic_then (panic_block (panic_then panic_body)))))) (E372.wantedB rfl rfl rfl hb352) (fun w_ hS => rn_load1 E372 rfl Try.underlying3 rfl rfl hS.1 rfl) ⟨H.get (i := 0) (k := 0) rfl rfl, trivial⟩ rfl fun a373 E374 => ?_
          clear E372
          obtain ⟨_, H', hc375⟩ := St.openA k_api_Descriptor_opens H (k := 0) rfl hy360
          replace H := H'; clear H'
          refine wa_only (i := 14) rfl (by kernel_rfl) (by kernel_rfl) (wl_val E374 (E374.wantedB rfl rfl rfl hb352) (rn_loadI1 E374 rfl Try.underlying3 rfl rfl hq367 hc375 rfl) rfl fun a376 E377 => ?_)
          clear E374
          refine ⟨fun _ => ⟨H.get (i := 0) (k := 0) rfl rfl, trivial⟩, ?_⟩
          refine wa_take (i := 17) E377 rfl (by kernel_rfl) (panic_then (panic_block (panic_then (panic_then (panic_block (panic_then panic_body)))))) (E377.wantedB rfl rfl rfl hb352) (fun w_ => rn_int E377 rfl rfl rfl rfl) rfl fun a378 E379 => ?_
          clear E377
          refine wa_take (i := 18) E379 rfl (by kernel_rfl) (panic_then (panic_block (panic_then (panic_then (panic_block (panic_then panic_body)))))) (E379.wantedB rfl rfl rfl (congrArg Bool.not hb345)) (fun w_ => rn_pickT E379 rfl rfl hb352 rfl) rfl fun a380 E381 => ?_
          clear E379
          refine wa_take (i := 19) E381 rfl (by kernel_rfl) (panic_then (panic_block (panic_then (panic_then (panic_block (panic_then panic_body)))))) rfl (fun w_ => rn_pickF E381 rfl rfl (congrArg Bool.not hb345) rfl) rfl fun a382 E383 => ?_
          clear E381
          refine wa_done (by kernel_rfl) ?_
          refine then_normal (hK325 _ _ ?_)
          rcases Bool.eq_false_or_eq_true (decide (u359.FD ≥ u306.FD)) with hb384 | hb384
          · replace h296 := itT hb384 h296
            refine wc_T E383 rfl hb384 ?_
            refine wp_seq_k fun _ hK385 => ?_
            refine wp_region_lit ?_
            refine wl_cons (wl_val E383 rfl (rn_assign E383 rfl rfl) rfl fun a386 E387 => ?_)
            clear E383
            refine wl_nil ?_
            refine then_normal (hK385 _ _ ?_)
            refine wp_ret ?_
            obtain rfl := Option.some.inj h296
            try dsimp only at h
            refine block_ret (then_ret (then_ret (block_ret (then_ret (?_)))))
            obtain rfl := Option.some.inj h
            refine wb_ret1 E387 rfl (rv_tmp E387 rfl) ?_
            exact ⟨_, rfl, [], [], ⟨rfl, rfl, rfl⟩, H.leave (fun Z hA => trivial) (fun Z S hA hL => trivial)⟩
          · replace h296 := itF hb384 h296
            refine wc_F E383 rfl hb384 ?_
            refine wp_skip ?_
            refine block_normal ?_
            refine then_normal (hK302 _ _ ?_)
            refine wp_region_lit ?_
            refine wl_cons (wl_val E383 rfl (rn_int E383 rfl rfl rfl rfl) rfl fun a388 E389 => ?_)
            clear E383
            refine wl_cons (wl_val E389 rfl (rn_move E389 rfl rfl) rfl fun a390 E391 => ?_)
            clear E389
            refine wl_nil ?_
            replace H : St w Nil Z w340 [vw (kSlice 81 k_api_Descriptor) a0 [.slice p3 a0.length c4]] ([] ++ [[blk g316 [.int .i64 u306.FD, .int .i64 u306.File.Dev, .int .i64 u306.File.Ino, .int .i64 u306.Flags] 81], [row 3 (kInt .i64) [u306.FD] (.slice (some ⟨g331, 0, none⟩) 1 1)]]) := H
            exact ⟨(IntKind.wrap .i64 (x289 + 1)), E391.pick ⟨rfl, rfl, rfl, rfl, rfl, trivial⟩, H.front.sel (fun Z hA => ⟨(argHolds_get hA (k := 0) rfl), trivial⟩), h296⟩
        · replace h296 := itF hb352 h296
          refine wa_pass (i := 9) E351 rfl (by kernel_rfl) (panic_then (panic_block (panic_then (panic_then (panic_block (panic_then panic_body)))))) (E351.unwanted rfl rfl rfl hb352) rfl fun a392 E393 => ?_
          clear E351
          refine wa_pass (i := 10) E393 rfl (by kernel_rfl) (panic_then (panic_block (panic_then (panic_then (panic_block (panic_then panic_body)))))) (E393.unwanted rfl rfl rfl hb352) rfl fun a394 E395 => ?_
          clear E393
          refine wa_pass (i := 11) E395 rfl (by kernel_rfl) (panic_then (panic_block (panic_then (panic_then (panic_block (panic_then panic_body)))))) (E395.unwanted rfl rfl rfl hb352) rfl fun a396 E397 => ?_
          clear E395
          refine wa_pass (i := 12) E397 rfl (by kernel_rfl) (panic_then (panic_block (panic_then (panic_then (panic_block (panic_then panic_body)))))) (E397.unwanted rfl rfl rfl hb352) rfl fun a398 E399 => ?_
          clear E397
          refine wa_pass (i := 13) E399 rfl (by kernel_rfl) (panic_then (panic_block (panic_then (panic_then (panic_block (panic_then panic_body)))))) (E399.unwanted rfl rfl rfl hb352) rfl fun a400 E401 => ?_
          clear E399
          refine wa_pass (i := 15) E401 rfl (by kernel_rfl) (panic_then (panic_block (panic_then (panic_then (panic_block (panic_then panic_body)))))) (E401.unwanted rfl rfl rfl hb352) rfl fun a402 E403 => ?_
          clear E401
          refine wa_pass (i := 16) E403 rfl (by kernel_rfl) (panic_then (panic_block (panic_then (panic_then (panic_block (panic_then panic_body)))))) (E403.unwanted rfl rfl rfl hb352) rfl fun a404 E405 => ?_
          clear E403
          refine wa_only (i := 14) rfl (by kernel_rfl) (by kernel_rfl) (wl_pass E405 (E405.unwanted rfl rfl rfl hb352) rfl fun a408 E409 => ?_)
          clear E405
          refine ⟨fun _ => ⟨H.get (i := 0) (k := 0) rfl rfl, trivial⟩, ?_⟩
          refine wa_pass (i := 17) E409 rfl (by kernel_rfl) (panic_then (panic_block (panic_then (panic_then (panic_block (panic_then panic_body)))))) (E409.unwanted rfl rfl rfl hb352) rfl fun a410 E411 => ?_
          clear E409
          refine wa_take (i := 18) E411 rfl (by kernel_rfl) (panic_then (panic_block (panic_then (panic_then (panic_block (panic_then panic_body)))))) (E411.wantedB rfl rfl rfl (congrArg Bool.not hb345)) (fun w_ => rn_pickF E411 rfl rfl hb352 rfl) rfl fun a412 E413 => ?_
          clear E411
          refine wa_take (i := 19) E413 rfl (by kernel_rfl) (panic_then (panic_block (panic_then (panic_then (panic_block (panic_then panic_body)))))) rfl (fun w_ => rn_pickF E413 rfl rfl (congrArg Bool.not hb345) rfl) rfl fun a414 E415 => ?_
          clear E413
          refine wa_done (by kernel_rfl) ?_
          refine then_normal (hK325 _ _ ?_)
          refine wc_F E415 rfl rfl ?_
          refine wp_skip ?_
          refine block_normal ?_
          refine then_normal (hK302 _ _ ?_)
          refine wp_region_lit ?_
          refine wl_cons (wl_val E415 rfl (rn_int E415 rfl rfl rfl rfl) rfl fun a416 E417 => ?_)
          clear E415
          refine wl_cons (wl_val E417 rfl (rn_move E417 rfl rfl) rfl fun a418 E419 => ?_)
          clear E417
          refine wl_nil ?_
          replace H : St w Nil Z w340 [vw (kSlice 81 k_api_Descriptor) a0 [.slice p3 a0.length c4]] ([] ++ [[blk g316 [.int .i64 u306.FD, .int .i64 u306.File.Dev, .int .i64 u306.File.Ino, .int .i64 u306.Flags] 81], [row 3 (kInt .i64) [u306.FD] (.slice (some ⟨g331, 0, none⟩) 1 1)]]) := H
          exact ⟨(IntKind.wrap .i64 (x289 + 1)), E419.pick ⟨rfl, rfl, rfl, rfl, rfl, trivial⟩, H.front.sel (fun Z hA => ⟨(argHolds_get hA (k := 0) rfl), trivial⟩), h296⟩
      · replace h296 := itF hb345 h296
        refine wa_pass (i := 6) E344 rfl (by kernel_rfl) (panic_then (panic_block (panic_then (panic_then (panic_block (panic_then panic_body)))))) (E344.unwanted rfl rfl rfl (congrArg Bool.not hb345)) rfl fun a420 E421 => ?_
        clear E344
        refine wa_pass (i := 7) E421 rfl (by kernel_rfl) (panic_then (panic_block (panic_then (panic_then (panic_block (panic_then panic_body)))))) (E421.unwanted rfl rfl rfl (congrArg Bool.not hb345)) rfl fun a422 E423 => ?_
        clear E421
        refine wa_pass (i := 8) E423 rfl (by kernel_rfl) (panic_then (panic_block (panic_then (panic_then (panic_block (panic_then panic_body)))))) (E423.unwanted rfl rfl rfl (congrArg Bool.not hb345)) rfl fun a424 E425 => ?_
        clear E423
        refine wa_pass (i := 9) E425 rfl (by kernel_rfl) (panic_then (panic_block (panic_then (panic_then (panic_block (panic_then panic_body)))))) (E425.unwanted0 rfl rfl rfl) rfl fun a426 E427 => ?_
        clear E425
        refine wa_pass (i := 10) E427 rfl (by kernel_rfl) (panic_then (panic_block (panic_then (panic_then (panic_block (panic_then panic_body)))))) (E427.unwanted0 rfl rfl rfl) rfl fun a428 E429 => ?_
        clear E427
        refine wa_pass (i := 11) E429 rfl (by kernel_rfl) (panic_then (panic_block (panic_then (panic_then (panic_block (panic_then panic_body)))))) (E429.unwanted0 rfl rfl rfl) rfl fun a430 E431 => ?_
        clear E429
        refine wa_pass (i := 12) E431 rfl (by kernel_rfl) (panic_then (panic_block (panic_then (panic_then (panic_block (panic_then panic_body)))))) (E431.unwanted0 rfl rfl rfl) rfl fun a432 E433 => ?_
        clear E431
        refine wa_pass (i := 13) E433 rfl (by kernel_rfl) (panic_then (panic_block (panic_then (panic_then (panic_block (panic_then panic_body)))))) (E433.unwanted0 rfl rfl rfl) rfl fun a434 E435 => ?_
        clear E433
        refine wa_pass (i := 15) E435 rfl (by kernel_rfl) (panic_then (panic_block (panic_then (panic_then (panic_block (panic_then panic_body)))))) (E435.unwanted0 rfl rfl rfl) rfl fun a436 E437 => ?_
        clear E435
        refine wa_pass (i := 16) E437 rfl (by kernel_rfl) (panic_then (panic_block (panic_then (panic_then (panic_block (panic_then panic_body)))))) (E437.unwanted0 rfl rfl rfl) rfl fun a438 E439 => ?_
        clear E437
        refine wa_only (i := 14) rfl (by kernel_rfl) (by kernel_rfl) (wl_pass E439 (E439.unwanted0 rfl rfl rfl) rfl fun a442 E443 => ?_)
        clear E439
        refine ⟨fun _ => ⟨H.get (i := 0) (k := 0) rfl rfl, trivial⟩, ?_⟩
        refine wa_pass (i := 17) E443 rfl (by kernel_rfl) (panic_then (panic_block (panic_then (panic_then (panic_block (panic_then panic_body)))))) (E443.unwanted0 rfl rfl rfl) rfl fun a444 E445 => ?_
        clear E443
        refine wa_pass (i := 18) E445 rfl (by kernel_rfl) (panic_then (panic_block (panic_then (panic_then (panic_block (panic_then panic_body)))))) (E445.unwanted rfl rfl rfl (congrArg Bool.not hb345)) rfl fun a446 E447 => ?_
        clear E445
        refine wa_take (i := 19) E447 rfl (by kernel_rfl) (panic_then (panic_block (panic_then (panic_then (panic_block (panic_then panic_body)))))) rfl (fun w_ => rn_pickT E447 rfl rfl (congrArg Bool.not hb345) rfl) rfl fun a448 E449 => ?_
        clear E447
        refine wa_done (by kernel_rfl) ?_
        refine then_normal (hK325 _ _ ?_)
        refine wc_T E449 rfl rfl ?_
        refine wp_seq_k fun _ hK450 => ?_
        refine wp_region_lit ?_
        refine wl_cons (wl_val E449 rfl (rn_assign E449 rfl rfl) rfl fun a451 E452 => ?_)
        clear E449
        refine wl_nil ?_
        refine then_normal (hK450 _ _ ?_)
        refine wp_ret ?_
        obtain rfl := Option.some.inj h296
        try dsimp only at h
        refine block_ret (then_ret (then_ret (block_ret (then_ret (?_)))))
        obtain rfl := Option.some.inj h
        refine wb_ret1 E452 rfl (rv_tmp E452 rfl) ?_
        exact ⟨_, rfl, [], [], ⟨rfl, rfl, rfl⟩, H.leave (fun Z hA => trivial) (fun Z S hA hL => trivial)⟩
    · replace h296 := itF hb301 h296
      refine wc_F E299 rfl hb301 ?_
      refine wp_exit ?_
      obtain rfl := Option.some.inj h296
      try dsimp only at h
      refine then_exit (then_exit (block_exit (?_)))
      refine then_normal (hK8 _ _ ?_)
      refine wp_seq_k fun _ hK453 => ?_
      refine wp_region_lit ?_
      refine wl_cons (wl_val E299 rfl (rn_assign E299 rfl rfl) rfl fun a454 E455 => ?_)
      clear E299
      refine wl_nil ?_
      refine then_normal (hK453 _ _ ?_)
      refine wp_ret ?_
      refine ?_
      obtain rfl := Option.some.inj h
      refine wb_ret1 E455 rfl (rv_tmp E455 rfl) ?_
      exact ⟨_, rfl, [], [], ⟨rfl, rfl, rfl⟩, H.leave (fun Z hA => trivial) (fun Z S hA hL => trivial)⟩
theorem C44_flat {r : Bool} : ∀ v_ A_ N_, (fun (v_ : Value) (A_ : List VP) (N_ : List (List SP)) => v_ = .bool r ∧ A_ = [] ∧ N_ = []) v_ A_ N_ → A_ = [] ∧ Flat N_ := by
  rintro v_ A_ N_ ⟨rfl, rfl, rfl⟩
  exact ⟨rfl, flat_nil⟩
end Go.Proofs.Ytanimjbmkhpnaaa.Gx
