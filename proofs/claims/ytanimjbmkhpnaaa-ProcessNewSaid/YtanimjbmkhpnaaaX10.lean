/- Function 10, kaudit/process.Fork: what it answers as a plain function, and that the Go code comes to exactly that (where the plain function gives an answer). -/
import Derived.Test.YtanimjbmkhpnaaaXT
import Derived.Test.YtanimjbmkhpnaaaX32
import Derived.Test.YtanimjbmkhpnaaaX37
import Derived.Test.YtanimjbmkhpnaaaX54
set_option linter.unusedVariables false
set_option linter.unusedSimpArgs false
namespace Go.Proofs.Ytanimjbmkhpnaaa.Gx
open Go.Gx Go.RowKit
/-! ### kaudit/process.Fork: function 10 -/
def f_process_Fork (a0 : api_Table) (a1 : Int) : Option (api_Table × Int × Int) := (f_process_place a0 a1).bind fun y487 => if y487.2 = true then ((f_own_Table a0).bind fun y512 => (at_ y512.Processes y487.1).bind fun u532 => if (decide ((y512.Processes.length : Int) ≥ 16)) = true then (some (((⟨0, 0, ([] : List api_Process)⟩ : api_Table), 0, 11))) else (if (decide (y512.Next ≥ 1073741824)) = true then (some (((⟨0, 0, ([] : List api_Process)⟩ : api_Table), 0, 11))) else ((f_own_Process u532).bind fun y703 => ck (fits (y512.Processes.length + [(⟨y512.Next, a1, y703.UID, y703.EUID, y703.GID, y703.EGID, y703.AUID, y703.Session, y703.Cwd, y703.Comm, y703.Exe, y703.Open, y703.Audited⟩ : api_Process)].length) 144 = true) (some (((⟨(IntKind.wrap .i64 (y512.Next + 1)), y512.NextSession, (y512.Processes ++ [(⟨y512.Next, a1, y703.UID, y703.EUID, y703.GID, y703.EGID, y703.AUID, y703.Session, y703.Cwd, y703.Comm, y703.Exe, y703.Open, y703.Audited⟩ : api_Process)])⟩ : api_Table), y512.Next, 0)))))) else (some (((⟨0, 0, ([] : List api_Process)⟩ : api_Table), 0, 3)))
set_option maxHeartbeats 4000000 in
set_option maxRecDepth 100000 in
theorem C10 (a0 : api_Table) (a1 : Int) (p435 : Option Addr) (c436 : Nat) (r : api_Table × Int × Int) (w : World) (h : f_process_Fork a0 a1 = some r) : Fun Try.prog 10 #[.agg #[.int .i64 a0.Next, .int .i64 a0.NextSession, .slice p435 a0.Processes.length c436], .int .i64 a1] w [vw (kSlice 38 k_api_Process) a0.Processes [.slice p435 a0.Processes.length c436]] (fun (v_ : Value) (A_ : List VP) (N_ : List (List SP)) => ∃ (p437 : Option Addr) (c438 : Nat), v_ = .tuple #[.agg #[.int .i64 r.1.Next, .int .i64 r.1.NextSession, .slice p437 r.1.Processes.length c438], .int .i64 r.2.1, .int .i64 r.2.2] ∧ A_ = [] ∧ N_ = [[row 38 k_api_Process r.1.Processes (.slice p437 r.1.Processes.length c438)]]) := by
  unfold f_process_Fork at h
  refine fun_begin (args := [.agg #[.int .i64 a0.Next, .int .i64 a0.NextSession, .slice p435 a0.Processes.length c436], .int .i64 a1]) Try.func10 rfl Try.ntmps10 rfl fun Z a E H => ?_
  refine wp_seq_k fun _ hK439 => ?_
  refine wp_region_lit ?_
  refine wl_cons (wl_box (T := 28) (cs := [.int .i64 a0.Next, .int .i64 a0.NextSession, .slice p435 a0.Processes.length c436]) E H rfl rfl rfl rfl fun g440 w441 a442 E443 H' => ?_)
  clear H E; have H := H'; clear H'
  refine wl_cons (wl_box (T := 3) (cs := [.int .i64 a1]) E443 H rfl rfl rfl rfl fun g444 w445 a446 E447 H' => ?_)
  clear H E443; have H := H'; clear H'
  refine wl_cons (wl_alloc (cs := [.int .i64 0, .int .i64 0, .slice none 0 0]) E447 H rfl ti28 rfl rfl fun g448 w449 a450 E451 H' => ?_)
  clear H E447; have H := H'; clear H'
  replace H : St w Nil Z w449 [vw (kSlice 38 k_api_Process) a0.Processes [.slice p435 a0.Processes.length c436]] [[blk g440 [.int .i64 a0.Next, .int .i64 a0.NextSession, .slice p435 a0.Processes.length c436] 28], [blk g444 [.int .i64 a1] 3], [blk g448 [.int .i64 0, .int .i64 0, .slice none 0 0] 28]] := H
  refine wl_cons (wl_val E451 rfl (rn_assign E451 rfl rfl) rfl fun a452 E453 => ?_)
  clear E451
  refine wl_cons (wl_val E453 rfl (rn_assign E453 rfl rfl) rfl fun a454 E455 => ?_)
  clear E453
  refine wl_nil ?_
  refine then_normal (hK439 _ _ ?_)
  refine wp_seq_k fun _ hK456 => ?_
  refine wp_region_lit ?_
  refine wl_cons (wl_val E455 rfl (rn_ldN (i := 0) [.int .i64 a0.Next, .int .i64 a0.NextSession, .slice p435 a0.Processes.length c436] E455 H rfl Try.underlying28 rfl ti28 rfl rfl rfl rfl) rfl fun a457 E458 => ?_)
  clear E455
  refine wl_cons (wl_val E458 rfl (rn_ld1 (i := 1) E458 H rfl Try.underlying3 rfl rfl rfl rfl) rfl fun a459 E460 => ?_)
  clear E458
  refine wl_cons (wl_val E460 rfl (rn_makeFunc (vs := [.pointer (some ⟨g444, 0, none⟩)]) E460 rfl rfl) rfl fun a461 E462 => ?_)
  clear E460
  refine wl_cons (wl_in rfl (rn_callC (args := [.agg #[.int .i64 a0.Next, .int .i64 a0.NextSession, .slice p435 a0.Processes.length c436], .int .i64 a1, .func (.func 31) #[] #[.pointer (some ⟨g444, 0, none⟩)]]) (cap := []) (all := [.agg #[.int .i64 a0.Next, .int .i64 a0.NextSession, .slice p435 a0.Processes.length c436], .int .i64 a1, .func (.func 31) #[] #[.pointer (some ⟨g444, 0, none⟩)]]) E462 rfl rfl rfl Try.func30 nm30 rfl rfl) Try.func30 rfl fun a463 he464 => ?_)
  have E465 : Env 42 a463 (enumA 0 [.agg #[.int .i64 a0.Next, .int .i64 a0.NextSession, .slice p435 a0.Processes.length c436], .int .i64 a1, .func (.func 31) #[] #[.pointer (some ⟨g444, 0, none⟩)]]) := he464 ▸ Env.init Try.ntmps30 rfl
  clear he464
  refine wp_seq_k fun _ hK466 => ?_
  refine wp_region_lit ?_
  refine wl_cons (wl_box (T := 28) (cs := [.int .i64 a0.Next, .int .i64 a0.NextSession, .slice p435 a0.Processes.length c436]) E465 H rfl rfl rfl rfl fun g467 w468 a469 E470 H' => ?_)
  clear H E465; have H := H'; clear H'
  refine wl_cons (wl_alloc (cs := [.int .i64 0, .int .i64 0, .slice none 0 0]) E470 H rfl ti28 rfl rfl fun g471 w472 a473 E474 H' => ?_)
  clear H E470; have H := H'; clear H'
  refine wl_cons (wl_val E474 rfl (rn_assign E474 rfl rfl) rfl fun a475 E476 => ?_)
  clear E474
  refine wl_cons (wl_val E476 rfl (rn_assign E476 rfl rfl) rfl fun a477 E478 => ?_)
  clear E476
  refine wl_nil ?_
  refine then_normal (hK466 _ _ ?_)
  refine wp_seq_k fun _ hK479 => ?_
  refine wp_region_lit ?_
  refine wl_cons (wl_val E478 rfl (rn_assign E478 rfl rfl) rfl fun a480 E481 => ?_)
  clear E478
  refine wl_nil ?_
  refine then_normal (hK479 _ _ ?_)
  refine wp_seq_k fun _ hK482 => ?_
  refine wp_region_lit ?_
  refine wl_cons (wl_val E481 rfl (rn_ldN (i := 3) [.int .i64 a0.Next, .int .i64 a0.NextSession, .slice p435 a0.Processes.length c436] E481 H rfl Try.underlying28 rfl ti28 rfl rfl rfl rfl) rfl fun a483 E484 => ?_)
  clear E481
  refine wl_cons (wl_val E484 rfl (rn_move E484 rfl rfl) rfl fun a485 E486 => ?_)
  clear E484
  obtain ⟨y487, hy488, h⟩ := bs h
  refine wl_cons (wl_fun E486 H rfl (rn_call (args := [.agg #[.int .i64 a0.Next, .int .i64 a0.NextSession, .slice p435 a0.Processes.length c436], .int .i64 a1]) E486 rfl rfl rfl Try.func37 nm37 rfl) rfl (by exact fun Z hA => ⟨(argHolds_get hA (k := 0) rfl), trivial⟩) (C37 a0 a1 p435 c436 _ _ hy488) ?_)
  rintro v_ A_ N_ w491 a489 ⟨rfl, rfl, rfl⟩ E490 H'
  replace H := H'; clear H' E486
  replace H : St w Nil Z w491 [vw (kSlice 38 k_api_Process) a0.Processes [.slice p435 a0.Processes.length c436]] [[blk g440 [.int .i64 a0.Next, .int .i64 a0.NextSession, .slice p435 a0.Processes.length c436] 28], [blk g444 [.int .i64 a1] 3], [blk g448 [.int .i64 0, .int .i64 0, .slice none 0 0] 28], [blk g467 [.int .i64 a0.Next, .int .i64 a0.NextSession, .slice p435 a0.Processes.length c436] 28], [blk g471 [.int .i64 0, .int .i64 0, .slice none 0 0] 28]] := H
  refine wl_cons (wl_val E490 rfl (rn_move E490 rfl rfl) rfl fun a492 E493 => ?_)
  clear E490
  refine wl_cons (wl_val E493 rfl (rn_extract E493 rfl rfl rfl) rfl fun a494 E495 => ?_)
  clear E493
  refine wl_cons (wl_val E495 rfl (rn_extract E495 rfl rfl rfl) rfl fun a496 E497 => ?_)
  clear E495
  refine wl_cons (wl_val E497 rfl (rn_assign E497 rfl rfl) rfl fun a498 E499 => ?_)
  clear E497
  refine wl_cons (wl_val E499 rfl (rn_assign E499 rfl rfl) rfl fun a500 E501 => ?_)
  clear E499
  refine wl_nil ?_
  refine then_normal (hK482 _ _ ?_)
  refine wp_seq_k fun _ hK502 => ?_
  refine wp_seq_k fun _ hK503 => ?_
  refine wp_region_lit ?_
  refine wl_cons (wl_val E501 rfl (rn_move E501 rfl rfl) rfl fun a504 E505 => ?_)
  clear E501
  refine wl_cons (wl_val E505 rfl (rn_not E505 rfl rfl) rfl fun a506 E507 => ?_)
  clear E505
  refine wl_nil ?_
  refine then_normal (hK503 _ _ ?_)
  rcases Bool.eq_false_or_eq_true y487.2 with hb508 | hb508
  · replace h := itT hb508 h
    refine wc_F E507 rfl (congrArg Bool.not hb508) ?_
    refine wp_skip ?_
    refine then_normal (hK502 _ _ ?_)
    refine wp_seq_k fun _ hK509 => ?_
    refine wp_region_lit ?_
    refine wl_cons (wl_val E507 rfl (rn_ldN (i := 3) [.int .i64 a0.Next, .int .i64 a0.NextSession, .slice p435 a0.Processes.length c436] E507 H rfl Try.underlying28 rfl ti28 rfl rfl rfl rfl) rfl fun a510 E511 => ?_)
    clear E507
    obtain ⟨y512, hy513, h⟩ := bs h
    refine wl_cons (wl_fun E511 H rfl (rn_call (args := [.agg #[.int .i64 a0.Next, .int .i64 a0.NextSession, .slice p435 a0.Processes.length c436]]) E511 rfl rfl rfl Try.func54 nm54 rfl) rfl (by exact fun Z hA => ⟨(argHolds_get hA (k := 0) rfl), trivial⟩) (C54 a0 p435 c436 _ _ hy513) ?_)
    rintro v_ A_ N_ w519 a517 ⟨p514, c515, rfl, rfl, rfl⟩ E518 H'
    replace H := H'; clear H' E511
    refine wl_cons (wl_store (i := 3) (vs := [.int .i64 y512.Next, .int .i64 y512.NextSession, .slice p514 y512.Processes.length c515]) (cs' := [.int .i64 y512.Next, .int .i64 y512.NextSession, .slice p514 y512.Processes.length c515]) E518 H rfl rfl rfl rfl ti28 rfl rfl rfl rfl rfl rfl fun w522 a520 E521 H' => ?_)
    clear H E518; have H := H'; clear H'
    refine wl_nil ?_
    refine then_normal (hK509 _ _ ?_)
    refine wp_seq_k fun _ hK523 => ?_
    refine wp_region_lit ?_
    refine wl_cons (wl_val E521 rfl (rn_move E521 rfl rfl) rfl fun a524 E525 => ?_)
    clear E521
    refine wl_cons (wl_val E525 rfl (rn_fieldAddr E525 rfl Try.underlying28 rfl ti26 rfl rfl) rfl fun a526 E527 => ?_)
    clear E525
    refine wl_cons (wl_val E527 rfl (rn_ld1 (i := 3) E527 H rfl Try.underlying26 rfl rfl rfl rfl) rfl fun a528 E529 => ?_)
    clear E527
    refine wl_cons (wl_val E529 rfl (rn_move E529 rfl rfl) rfl fun a530 E531 => ?_)
    clear E529
    obtain ⟨u532, hy533, h⟩ := bs h
    obtain ⟨q534, hq535, hr536⟩ := rn_idx (K := k_api_Process) (P := Try.prog) (o := ⟨some 31, .indexAddr 26 (.tmp 29) (.tmp 30), 0, "", #[], none⟩) E531 rfl Try.underlying26 ti38 rfl rfl (H.readL (i := 5) rfl) hy533
    refine wl_cons (wl_val E531 rfl ((hr536 _)) rfl fun a537 E538 => ?_)
    clear E531
    refine wl_cons (wl_in rfl (rn_callC (args := [.pointer (some ⟨g467, 0, none⟩), .pointer (some q534)]) (cap := [.pointer (some ⟨g444, 0, none⟩)]) (all := [.pointer (some ⟨g467, 0, none⟩), .pointer (some q534), .pointer (some ⟨g444, 0, none⟩)]) E538 rfl rfl rfl Try.func31 nm31 rfl rfl) Try.func31 rfl fun a539 he540 => ?_)
    have E541 : Env 51 a539 (enumA 0 [.pointer (some ⟨g467, 0, none⟩), .pointer (some q534), .pointer (some ⟨g444, 0, none⟩)]) := he540 ▸ Env.init Try.ntmps31 rfl
    clear he540
    refine wp_seq_k fun _ hK542 => ?_
    refine wp_region_lit ?_
    refine wl_cons (wl_val E541 rfl (rn_assign E541 rfl rfl) rfl fun a543 E544 => ?_)
    clear E541
    refine wl_cons (wl_val E544 rfl (rn_assign E544 rfl rfl) rfl fun a545 E546 => ?_)
    clear E544
    refine wl_nil ?_
    refine then_normal (hK542 _ _ ?_)
    refine wp_seq_k fun _ hK547 => ?_
    refine wp_seq_k fun _ hK548 => ?_
    refine wp_region_lit ?_
    refine wl_cons (wl_val E546 rfl (rn_move E546 rfl rfl) rfl fun a549 E550 => ?_)
    clear E546
    refine wl_cons (wl_val E550 rfl (rn_nilCheck E550 rfl rfl) rfl fun a551 E552 => ?_)
    clear E550
    refine wl_cons (wl_val E552 rfl (rn_fieldAddr E552 rfl Try.underlying28 rfl ti26 rfl rfl) rfl fun a553 E554 => ?_)
    clear E552
    refine wl_cons (wl_val E554 rfl (rn_ld1 (i := 3) E554 H rfl Try.underlying26 rfl rfl rfl rfl) rfl fun a555 E556 => ?_)
    clear E554
    refine wl_cons (wl_val E556 rfl (rn_len E556 rfl Try.underlying26 rfl) rfl fun a557 E558 => ?_)
    clear E556
    refine wl_cons (wl_val E558 rfl (rn_int E558 rfl rfl rfl rfl) rfl fun a559 E560 => ?_)
    clear E558
    refine wl_cons (wl_val E560 rfl (rn_move E560 rfl rfl) rfl fun a561 E562 => ?_)
    clear E560
    rcases Bool.eq_false_or_eq_true (decide ((y512.Processes.length : Int) ≥ 16)) with hb563 | hb563
    · replace h := itT hb563 h
      refine wl_cons (wl_pass E562 (E562.unwanted rfl rfl rfl hb563) rfl fun a564 E565 => ?_)
      clear E562
      refine wl_cons (wl_pass E565 (E565.unwanted rfl rfl rfl hb563) rfl fun a566 E567 => ?_)
      clear E565
      refine wl_cons (wl_pass E567 (E567.unwanted rfl rfl rfl hb563) rfl fun a568 E569 => ?_)
      clear E567
      refine wl_cons (wl_pass E569 (E569.unwanted rfl rfl rfl hb563) rfl fun a570 E571 => ?_)
      clear E569
      refine wl_cons (wl_pass E571 (E571.unwanted rfl rfl rfl hb563) rfl fun a572 E573 => ?_)
      clear E571
      refine wl_cons (wl_val E573 rfl (rn_pickT E573 rfl rfl hb563 rfl) rfl fun a574 E575 => ?_)
      clear E573
      refine wl_nil ?_
      refine then_normal (hK548 _ _ ?_)
      refine wc_T E575 rfl rfl ?_
      refine wp_seq_k fun _ hK576 => ?_
      refine wp_region_lit ?_
      refine wl_cons (wl_val E575 rfl (rn_assign E575 rfl rfl) rfl fun a577 E578 => ?_)
      clear E575
      refine wl_cons (wl_val E578 rfl (rn_assign E578 rfl rfl) rfl fun a579 E580 => ?_)
      clear E578
      refine wl_nil ?_
      refine then_normal (hK576 _ _ ?_)
      refine wp_ret ?_
      refine then_ret (?_)
      refine wb_ret2 E580 rfl (rv_tmp E580 rfl) (rv_tmp E580 rfl) ⟨_, rfl, ?_⟩
      have E581 := Env.put E538 (d := 32) rfl (.tuple #[.int .i64 0, .int .i64 11])
      generalize hae : Act.put _ (some 32) _ = a582 at E581 ⊢; clear hae
      refine wl_cons (wl_val E581 rfl (rn_move E581 rfl rfl) rfl fun a583 E584 => ?_)
      clear E581
      refine wl_cons (wl_val E584 rfl (rn_extract E584 rfl rfl rfl) rfl fun a585 E586 => ?_)
      clear E584
      refine wl_cons (wl_val E586 rfl (rn_extract E586 rfl rfl rfl) rfl fun a587 E588 => ?_)
      clear E586
      refine wl_cons (wl_val E588 rfl (rn_assign E588 rfl rfl) rfl fun a589 E590 => ?_)
      clear E588
      refine wl_cons (wl_val E590 rfl (rn_assign E590 rfl rfl) rfl fun a591 E592 => ?_)
      clear E590
      refine wl_nil ?_
      refine then_normal (hK523 _ _ ?_)
      refine wp_seq_k fun _ hK593 => ?_
      refine wp_seq_k fun _ hK594 => ?_
      refine wp_region_lit ?_
      refine wl_cons (wl_val E592 rfl (rn_move E592 rfl rfl) rfl fun a595 E596 => ?_)
      clear E592
      refine wl_cons (wl_val E596 rfl (rn_int E596 rfl rfl rfl rfl) rfl fun a597 E598 => ?_)
      clear E596
      refine wl_nil ?_
      refine then_normal (hK594 _ _ ?_)
      refine wc_T E598 rfl rfl ?_
      refine wp_seq_k fun _ hK599 => ?_
      refine wp_region_lit ?_
      refine wl_cons (wl_val E598 rfl (rn_build (ps := []) (cs := [.int .i64 0, .int .i64 0, .slice none 0 0]) E598 rfl rfl (by kernel_rfl)) rfl fun a600 E601 => ?_)
      clear E598
      refine wl_cons (wl_val E601 rfl (rn_move E601 rfl rfl) rfl fun a602 E603 => ?_)
      clear E601
      refine wl_cons (wl_val E603 rfl (rn_move E603 rfl rfl) rfl fun a604 E605 => ?_)
      clear E603
      refine wl_cons (wl_store (i := 4) (vs := [.int .i64 0, .int .i64 0, .slice none 0 0]) (cs' := [.int .i64 0, .int .i64 0, .slice none 0 0]) E605 H rfl rfl rfl rfl ti28 rfl rfl rfl rfl rfl rfl fun w608 a606 E607 H' => ?_)
      clear H E605; have H := H'; clear H'
      replace H : St w Nil Z w608 [vw (kSlice 38 k_api_Process) a0.Processes [.slice p435 a0.Processes.length c436]] [[blk g440 [.int .i64 a0.Next, .int .i64 a0.NextSession, .slice p435 a0.Processes.length c436] 28], [blk g444 [.int .i64 a1] 3], [blk g448 [.int .i64 0, .int .i64 0, .slice none 0 0] 28], [blk g467 [.int .i64 y512.Next, .int .i64 y512.NextSession, .slice p514 y512.Processes.length c515] 28], [blk g471 [.int .i64 0, .int .i64 0, .slice none 0 0] 28], [row 38 k_api_Process y512.Processes (.slice p514 y512.Processes.length c515)]] := H
      refine wl_cons (wl_val E607 rfl (rn_assign E607 rfl rfl) rfl fun a609 E610 => ?_)
      clear E607
      refine wl_cons (wl_val E610 rfl (rn_assign E610 rfl rfl) rfl fun a611 E612 => ?_)
      clear E610
      refine wl_nil ?_
      refine then_normal (hK599 _ _ ?_)
      refine wp_ret ?_
      refine then_ret (?_)
      refine wb_ret3 E612 rfl (rv_cellN (cs := [.int .i64 0, .int .i64 0, .slice none 0 0]) E612 rfl Try.underlying28 rfl ti28 (H.get (i := 4) (k := 0) rfl rfl) rfl) (rv_tmp E612 rfl) (rv_tmp E612 rfl) ⟨_, rfl, ?_⟩
      have E613 := Env.put E462 (d := 10) rfl (.tuple #[.agg #[.int .i64 0, .int .i64 0, .slice none 0 0], .int .i64 0, .int .i64 11])
      generalize hae : Act.put _ (some 10) _ = a614 at E613 ⊢; clear hae
      refine wl_cons (wl_val E613 rfl (rn_extract E613 rfl rfl rfl) rfl fun a615 E616 => ?_)
      clear E613
      refine wl_cons (wl_val E616 rfl (rn_extract E616 rfl rfl rfl) rfl fun a617 E618 => ?_)
      clear E616
      refine wl_cons (wl_val E618 rfl (rn_extract E618 rfl rfl rfl) rfl fun a619 E620 => ?_)
      clear E618
      refine wl_cons (wl_store (i := 2) (vs := [.int .i64 0, .int .i64 0, .slice none 0 0]) (cs' := [.int .i64 0, .int .i64 0, .slice none 0 0]) E620 H rfl rfl rfl rfl ti28 rfl rfl rfl rfl rfl rfl fun w623 a621 E622 H' => ?_)
      clear H E620; have H := H'; clear H'
      refine wl_cons (wl_val E622 rfl (rn_assign E622 rfl rfl) rfl fun a624 E625 => ?_)
      clear E622
      refine wl_cons (wl_val E625 rfl (rn_assign E625 rfl rfl) rfl fun a626 E627 => ?_)
      clear E625
      refine wl_nil ?_
      refine then_normal (hK456 _ _ ?_)
      refine wp_ret ?_
      refine ?_
      obtain rfl := Option.some.inj h
      replace H := H.nilRow 38 k_api_Process
      replace H : St w Nil Z w623 [vw (kSlice 38 k_api_Process) a0.Processes [.slice p435 a0.Processes.length c436]] [[blk g440 [.int .i64 a0.Next, .int .i64 a0.NextSession, .slice p435 a0.Processes.length c436] 28], [blk g444 [.int .i64 a1] 3], [blk g448 [.int .i64 0, .int .i64 0, .slice none 0 0] 28], [blk g467 [.int .i64 y512.Next, .int .i64 y512.NextSession, .slice p514 y512.Processes.length c515] 28], [blk g471 [.int .i64 0, .int .i64 0, .slice none 0 0] 28], [row 38 k_api_Process y512.Processes (.slice p514 y512.Processes.length c515)], [row 38 k_api_Process ([] : List api_Process) (.slice none 0 0)]] := H
      refine wb_ret3 E627 rfl (rv_cellN (cs := [.int .i64 0, .int .i64 0, .slice none 0 0]) E627 rfl Try.underlying28 rfl ti28 (H.get (i := 2) (k := 0) rfl rfl) rfl) (rv_tmp E627 rfl) (rv_tmp E627 rfl) ?_
      exact ⟨_, rfl, [], [[row 38 k_api_Process ([] : List api_Process) (.slice none 0 0)]], ⟨_, _, rfl, rfl, rfl⟩, H.leave (fun Z hA => trivial) (fun Z S hA hL => Holds_sub (.cons _ (.cons _ (.cons _ (.cons _ (.cons _ (.cons _ (.cons_cons _ .slnil))))))) hL)⟩
    · replace h := itF hb563 h
      refine wl_cons (wl_val E562 (E562.wantedB rfl rfl rfl hb563) (rn_move E562 rfl rfl) rfl fun a628 E629 => ?_)
      clear E562
      refine wl_cons (wl_val E629 (E629.wantedB rfl rfl rfl hb563) (rn_nilCheck E629 rfl rfl) rfl fun a630 E631 => ?_)
      clear E629
      refine wl_cons (wl_val E631 (E631.wantedB rfl rfl rfl hb563) (rn_fieldAddr E631 rfl Try.underlying28 rfl ti3 rfl rfl) rfl fun a632 E633 => ?_)
      clear E631
      refine wl_cons (wl_val E633 (E633.wantedB rfl rfl rfl hb563) (rn_ld1 (i := 3) E633 H rfl Try.underlying3 rfl rfl rfl rfl) rfl fun a634 E635 => ?_)
      clear E633
      refine wl_cons (wl_val E635 (E635.wantedB rfl rfl rfl hb563) (rn_int E635 rfl rfl rfl rfl) rfl fun a636 E637 => ?_)
      clear E635
      refine wl_cons (wl_val E637 rfl (rn_pickF E637 rfl rfl hb563 rfl) rfl fun a638 E639 => ?_)
      clear E637
      refine wl_nil ?_
      refine then_normal (hK548 _ _ ?_)
      rcases Bool.eq_false_or_eq_true (decide (y512.Next ≥ 1073741824)) with hb640 | hb640
      · replace h := itT hb640 h
        refine wc_T E639 rfl hb640 ?_
        refine wp_seq_k fun _ hK641 => ?_
        refine wp_region_lit ?_
        refine wl_cons (wl_val E639 rfl (rn_assign E639 rfl rfl) rfl fun a642 E643 => ?_)
        clear E639
        refine wl_cons (wl_val E643 rfl (rn_assign E643 rfl rfl) rfl fun a644 E645 => ?_)
        clear E643
        refine wl_nil ?_
        refine then_normal (hK641 _ _ ?_)
        refine wp_ret ?_
        refine then_ret (?_)
        refine wb_ret2 E645 rfl (rv_tmp E645 rfl) (rv_tmp E645 rfl) ⟨_, rfl, ?_⟩
        have E646 := Env.put E538 (d := 32) rfl (.tuple #[.int .i64 0, .int .i64 11])
        generalize hae : Act.put _ (some 32) _ = a647 at E646 ⊢; clear hae
        refine wl_cons (wl_val E646 rfl (rn_move E646 rfl rfl) rfl fun a648 E649 => ?_)
        clear E646
        refine wl_cons (wl_val E649 rfl (rn_extract E649 rfl rfl rfl) rfl fun a650 E651 => ?_)
        clear E649
        refine wl_cons (wl_val E651 rfl (rn_extract E651 rfl rfl rfl) rfl fun a652 E653 => ?_)
        clear E651
        refine wl_cons (wl_val E653 rfl (rn_assign E653 rfl rfl) rfl fun a654 E655 => ?_)
        clear E653
        refine wl_cons (wl_val E655 rfl (rn_assign E655 rfl rfl) rfl fun a656 E657 => ?_)
        clear E655
        refine wl_nil ?_
        refine then_normal (hK523 _ _ ?_)
        refine wp_seq_k fun _ hK658 => ?_
        refine wp_seq_k fun _ hK659 => ?_
        refine wp_region_lit ?_
        refine wl_cons (wl_val E657 rfl (rn_move E657 rfl rfl) rfl fun a660 E661 => ?_)
        clear E657
        refine wl_cons (wl_val E661 rfl (rn_int E661 rfl rfl rfl rfl) rfl fun a662 E663 => ?_)
        clear E661
        refine wl_nil ?_
        refine then_normal (hK659 _ _ ?_)
        refine wc_T E663 rfl rfl ?_
        refine wp_seq_k fun _ hK664 => ?_
        refine wp_region_lit ?_
        refine wl_cons (wl_val E663 rfl (rn_build (ps := []) (cs := [.int .i64 0, .int .i64 0, .slice none 0 0]) E663 rfl rfl (by kernel_rfl)) rfl fun a665 E666 => ?_)
        clear E663
        refine wl_cons (wl_val E666 rfl (rn_move E666 rfl rfl) rfl fun a667 E668 => ?_)
        clear E666
        refine wl_cons (wl_val E668 rfl (rn_move E668 rfl rfl) rfl fun a669 E670 => ?_)
        clear E668
        refine wl_cons (wl_store (i := 4) (vs := [.int .i64 0, .int .i64 0, .slice none 0 0]) (cs' := [.int .i64 0, .int .i64 0, .slice none 0 0]) E670 H rfl rfl rfl rfl ti28 rfl rfl rfl rfl rfl rfl fun w673 a671 E672 H' => ?_)
        clear H E670; have H := H'; clear H'
        replace H : St w Nil Z w673 [vw (kSlice 38 k_api_Process) a0.Processes [.slice p435 a0.Processes.length c436]] [[blk g440 [.int .i64 a0.Next, .int .i64 a0.NextSession, .slice p435 a0.Processes.length c436] 28], [blk g444 [.int .i64 a1] 3], [blk g448 [.int .i64 0, .int .i64 0, .slice none 0 0] 28], [blk g467 [.int .i64 y512.Next, .int .i64 y512.NextSession, .slice p514 y512.Processes.length c515] 28], [blk g471 [.int .i64 0, .int .i64 0, .slice none 0 0] 28], [row 38 k_api_Process y512.Processes (.slice p514 y512.Processes.length c515)]] := H
        refine wl_cons (wl_val E672 rfl (rn_assign E672 rfl rfl) rfl fun a674 E675 => ?_)
        clear E672
        refine wl_cons (wl_val E675 rfl (rn_assign E675 rfl rfl) rfl fun a676 E677 => ?_)
        clear E675
        refine wl_nil ?_
        refine then_normal (hK664 _ _ ?_)
        refine wp_ret ?_
        refine then_ret (?_)
        refine wb_ret3 E677 rfl (rv_cellN (cs := [.int .i64 0, .int .i64 0, .slice none 0 0]) E677 rfl Try.underlying28 rfl ti28 (H.get (i := 4) (k := 0) rfl rfl) rfl) (rv_tmp E677 rfl) (rv_tmp E677 rfl) ⟨_, rfl, ?_⟩
        have E678 := Env.put E462 (d := 10) rfl (.tuple #[.agg #[.int .i64 0, .int .i64 0, .slice none 0 0], .int .i64 0, .int .i64 11])
        generalize hae : Act.put _ (some 10) _ = a679 at E678 ⊢; clear hae
        refine wl_cons (wl_val E678 rfl (rn_extract E678 rfl rfl rfl) rfl fun a680 E681 => ?_)
        clear E678
        refine wl_cons (wl_val E681 rfl (rn_extract E681 rfl rfl rfl) rfl fun a682 E683 => ?_)
        clear E681
        refine wl_cons (wl_val E683 rfl (rn_extract E683 rfl rfl rfl) rfl fun a684 E685 => ?_)
        clear E683
        refine wl_cons (wl_store (i := 2) (vs := [.int .i64 0, .int .i64 0, .slice none 0 0]) (cs' := [.int .i64 0, .int .i64 0, .slice none 0 0]) E685 H rfl rfl rfl rfl ti28 rfl rfl rfl rfl rfl rfl fun w688 a686 E687 H' => ?_)
        clear H E685; have H := H'; clear H'
        refine wl_cons (wl_val E687 rfl (rn_assign E687 rfl rfl) rfl fun a689 E690 => ?_)
        clear E687
        refine wl_cons (wl_val E690 rfl (rn_assign E690 rfl rfl) rfl fun a691 E692 => ?_)
        clear E690
        refine wl_nil ?_
        refine then_normal (hK456 _ _ ?_)
        refine wp_ret ?_
        refine ?_
        obtain rfl := Option.some.inj h
        replace H := H.nilRow 38 k_api_Process
        replace H : St w Nil Z w688 [vw (kSlice 38 k_api_Process) a0.Processes [.slice p435 a0.Processes.length c436]] [[blk g440 [.int .i64 a0.Next, .int .i64 a0.NextSession, .slice p435 a0.Processes.length c436] 28], [blk g444 [.int .i64 a1] 3], [blk g448 [.int .i64 0, .int .i64 0, .slice none 0 0] 28], [blk g467 [.int .i64 y512.Next, .int .i64 y512.NextSession, .slice p514 y512.Processes.length c515] 28], [blk g471 [.int .i64 0, .int .i64 0, .slice none 0 0] 28], [row 38 k_api_Process y512.Processes (.slice p514 y512.Processes.length c515)], [row 38 k_api_Process ([] : List api_Process) (.slice none 0 0)]] := H
        refine wb_ret3 E692 rfl (rv_cellN (cs := [.int .i64 0, .int .i64 0, .slice none 0 0]) E692 rfl Try.underlying28 rfl ti28 (H.get (i := 2) (k := 0) rfl rfl) rfl) (rv_tmp E692 rfl) (rv_tmp E692 rfl) ?_
        exact ⟨_, rfl, [], [[row 38 k_api_Process ([] : List api_Process) (.slice none 0 0)]], ⟨_, _, rfl, rfl, rfl⟩, H.leave (fun Z hA => trivial) (fun Z S hA hL => Holds_sub (.cons _ (.cons _ (.cons _ (.cons _ (.cons _ (.cons _ (.cons_cons _ .slnil))))))) hL)⟩
      · replace h := itF hb640 h
        refine wc_F E639 rfl hb640 ?_
        refine wp_skip ?_
        refine then_normal (hK547 _ _ ?_)
        refine wp_seq_k fun _ hK693 => ?_
        refine wp_region_lit ?_
        refine wl_cons (wl_val E639 rfl (rn_move E639 rfl rfl) rfl fun a694 E695 => ?_)
        clear E639
        refine wl_cons (wl_val E695 rfl (rn_nilCheck E695 rfl rfl) rfl fun a696 E697 => ?_)
        clear E695
        obtain ⟨⟨p699, c700⟩, H', hc698⟩ := St.openL k_api_Process_opens H (k := 5) rfl hy533
        replace H := H'; clear H'
        refine wl_cons (wl_val E697 rfl (rn_loadIN (vs := [.int .i64 u532.PID, .int .i64 u532.PPID, .int .i64 u532.UID, .int .i64 u532.EUID, .int .i64 u532.GID, .int .i64 u532.EGID, .int .i64 u532.AUID, .int .i64 u532.Session, .int .i64 u532.Cwd.Dev, .int .i64 u532.Cwd.Ino, .string u532.Comm, .string u532.Exe, .slice p699 u532.Open.length c700, .bool u532.Audited]) E697 rfl Try.underlying38 rfl ti38 rfl hq535 hc698 rfl rfl) rfl fun a701 E702 => ?_)
        clear E697
        obtain ⟨y703, hy704, h⟩ := bs h
        refine wl_cons (wl_fun E702 H rfl (rn_call (args := [.agg #[.int .i64 u532.PID, .int .i64 u532.PPID, .int .i64 u532.UID, .int .i64 u532.EUID, .int .i64 u532.GID, .int .i64 u532.EGID, .int .i64 u532.AUID, .int .i64 u532.Session, .int .i64 u532.Cwd.Dev, .int .i64 u532.Cwd.Ino, .string u532.Comm, .string u532.Exe, .slice p699 u532.Open.length c700, .bool u532.Audited]]) E702 rfl rfl rfl Try.func32 nm32 rfl) rfl (by exact fun Z hA => ⟨(argHolds_get hA (k := 1) rfl), trivial⟩) (C32 u532 p699 c700 _ _ hy704) ?_)
        rintro v_ A_ N_ w710 a708 ⟨p705, c706, rfl, rfl, rfl⟩ E709 H'
        replace H := H'; clear H' E702
        replace H : St w Nil Z w710 [vw (kSlice 38 k_api_Process) a0.Processes [.slice p435 a0.Processes.length c436], vw (kSlice 81 k_api_Descriptor) u532.Open [.slice p699 u532.Open.length c700]] [[blk g440 [.int .i64 a0.Next, .int .i64 a0.NextSession, .slice p435 a0.Processes.length c436] 28], [blk g444 [.int .i64 a1] 3], [blk g448 [.int .i64 0, .int .i64 0, .slice none 0 0] 28], [blk g467 [.int .i64 y512.Next, .int .i64 y512.NextSession, .slice p514 y512.Processes.length c515] 28], [blk g471 [.int .i64 0, .int .i64 0, .slice none 0 0] 28], [row 38 k_api_Process y512.Processes (.slice p514 y512.Processes.length c515)], [row 81 k_api_Descriptor y703.Open (.slice p705 y703.Open.length c706)]] := H
        refine wl_cons (wl_alloc (cs := [.int .i64 0, .int .i64 0, .int .i64 0, .int .i64 0, .int .i64 0, .int .i64 0, .int .i64 0, .int .i64 0, .int .i64 0, .int .i64 0, .string (⟨#[]⟩ : ByteArray), .string (⟨#[]⟩ : ByteArray), .slice none 0 0, .bool false]) E709 H rfl ti38 rfl rfl fun g711 w712 a713 E714 H' => ?_)
        clear H E709; have H := H'; clear H'
        refine wl_cons (wl_store (i := 7) (vs := [.int .i64 y703.PID, .int .i64 y703.PPID, .int .i64 y703.UID, .int .i64 y703.EUID, .int .i64 y703.GID, .int .i64 y703.EGID, .int .i64 y703.AUID, .int .i64 y703.Session, .int .i64 y703.Cwd.Dev, .int .i64 y703.Cwd.Ino, .string y703.Comm, .string y703.Exe, .slice p705 y703.Open.length c706, .bool y703.Audited]) (cs' := [.int .i64 y703.PID, .int .i64 y703.PPID, .int .i64 y703.UID, .int .i64 y703.EUID, .int .i64 y703.GID, .int .i64 y703.EGID, .int .i64 y703.AUID, .int .i64 y703.Session, .int .i64 y703.Cwd.Dev, .int .i64 y703.Cwd.Ino, .string y703.Comm, .string y703.Exe, .slice p705 y703.Open.length c706, .bool y703.Audited]) E714 H rfl rfl rfl rfl ti38 rfl rfl rfl rfl rfl rfl fun w717 a715 E716 H' => ?_)
        clear H E714; have H := H'; clear H'
        refine wl_nil ?_
        refine then_normal (hK693 _ _ ?_)
        refine wp_seq_k fun _ hK718 => ?_
        refine wa_begin mixed (fun w_ => (∃ Z S, (blk g444 [.int .i64 a1] 3).holds w_ Z S) ∧ True) [4] [6, 8] H rfl fun w719 H' => ?_
        clear H; have H := H'; clear H'
        refine wa_take (i := 0) E716 rfl (by kernel_rfl) (panic_then panic_body) rfl (fun w_ => rn_move E716 rfl rfl) rfl fun a720 E721 => ?_
        clear E716
        replace H : St w Nil Z w719 [vw (kSlice 38 k_api_Process) a0.Processes [.slice p435 a0.Processes.length c436], vw (kSlice 81 k_api_Descriptor) u532.Open [.slice p699 u532.Open.length c700]] [[blk g440 [.int .i64 a0.Next, .int .i64 a0.NextSession, .slice p435 a0.Processes.length c436] 28], [blk g444 [.int .i64 a1] 3], [blk g448 [.int .i64 0, .int .i64 0, .slice none 0 0] 28], [blk g467 [.int .i64 y512.Next, .int .i64 y512.NextSession, .slice p514 y512.Processes.length c515] 28], [blk g471 [.int .i64 0, .int .i64 0, .slice none 0 0] 28], [row 38 k_api_Process y512.Processes (.slice p514 y512.Processes.length c515)], [row 81 k_api_Descriptor y703.Open (.slice p705 y703.Open.length c706)], [blk g711 [.int .i64 y703.PID, .int .i64 y703.PPID, .int .i64 y703.UID, .int .i64 y703.EUID, .int .i64 y703.GID, .int .i64 y703.EGID, .int .i64 y703.AUID, .int .i64 y703.Session, .int .i64 y703.Cwd.Dev, .int .i64 y703.Cwd.Ino, .string y703.Comm, .string y703.Exe, .slice p705 y703.Open.length c706, .bool y703.Audited] 38]] := H
        refine wa_take (i := 1) E721 rfl (by kernel_rfl) (panic_then panic_body) rfl (fun w_ => rn_nilCheck E721 rfl rfl) rfl fun a722 E723 => ?_
        clear E721
        refine wa_take (i := 2) E723 rfl (by kernel_rfl) (panic_then panic_body) rfl (fun w_ => rn_fieldAddr E723 rfl Try.underlying28 rfl ti3 rfl rfl) rfl fun a724 E725 => ?_
        clear E723
        refine wa_takeU (i := 3) E725 rfl (by kernel_rfl) (by kernel_rfl) (panic_then panic_body) rfl (rn_ld1 (i := 3) E725 H rfl Try.underlying3 rfl rfl rfl rfl) rfl fun a726 E727 => ?_
        clear E725
        refine wa_takeS (i := 4) E727 rfl (by kernel_rfl) (by kernel_rfl) (panic_then panic_body) rfl (fun w_ hS => rn_load1 E727 rfl Try.underlying3 rfl rfl hS.1 rfl) ⟨H.get (i := 1) (k := 0) rfl rfl, trivial⟩ rfl fun a728 E729 => ?_
        clear E727
        refine wa_take (i := 5) E729 rfl (by kernel_rfl) (panic_then panic_body) rfl (fun w_ => rn_fieldAddr E729 rfl Try.underlying38 rfl ti3 rfl rfl) rfl fun a730 E731 => ?_
        clear E729
        refine wa_only (i := 6) rfl (by kernel_rfl) (by kernel_rfl) (wl_store (i := 7) (vs := [.int .i64 y512.Next]) (cs' := [.int .i64 y512.Next, .int .i64 y703.PPID, .int .i64 y703.UID, .int .i64 y703.EUID, .int .i64 y703.GID, .int .i64 y703.EGID, .int .i64 y703.AUID, .int .i64 y703.Session, .int .i64 y703.Cwd.Dev, .int .i64 y703.Cwd.Ino, .string y703.Comm, .string y703.Exe, .slice p705 y703.Open.length c706, .bool y703.Audited]) E731 H rfl rfl rfl rfl ti3 rfl rfl rfl rfl rfl rfl fun w734 a732 E733 H' => ?_)
        clear H E731; have H := H'; clear H'
        refine ⟨fun _ => ⟨H.get (i := 1) (k := 0) rfl rfl, trivial⟩, ?_⟩
        refine wa_take (i := 7) E733 rfl (by kernel_rfl) (panic_then panic_body) rfl (fun w_ => rn_fieldAddr E733 rfl Try.underlying38 rfl ti3 rfl rfl) rfl fun a735 E736 => ?_
        clear E733
        refine wa_only (i := 8) rfl (by kernel_rfl) (by kernel_rfl) (wl_store (i := 7) (vs := [.int .i64 a1]) (cs' := [.int .i64 y512.Next, .int .i64 a1, .int .i64 y703.UID, .int .i64 y703.EUID, .int .i64 y703.GID, .int .i64 y703.EGID, .int .i64 y703.AUID, .int .i64 y703.Session, .int .i64 y703.Cwd.Dev, .int .i64 y703.Cwd.Ino, .string y703.Comm, .string y703.Exe, .slice p705 y703.Open.length c706, .bool y703.Audited]) E736 H rfl rfl rfl rfl ti3 rfl rfl rfl rfl rfl rfl fun w739 a737 E738 H' => ?_)
        clear H E736; have H := H'; clear H'
        refine ⟨fun h_ => (needs_no (by kernel_rfl) h_).elim, ?_⟩
        refine wa_done (by kernel_rfl) ?_
        refine then_normal (hK718 _ _ ?_)
        refine wp_seq_k fun _ hK740 => ?_
        refine wp_region_lit ?_
        refine wl_cons (wl_val E738 rfl (rn_move E738 rfl rfl) rfl fun a741 E742 => ?_)
        clear E738
        refine wl_cons (wl_val E742 rfl (rn_nilCheck E742 rfl rfl) rfl fun a743 E744 => ?_)
        clear E742
        refine wl_cons (wl_val E744 rfl (rn_fieldAddr E744 rfl Try.underlying28 rfl ti3 rfl rfl) rfl fun a745 E746 => ?_)
        clear E744
        refine wl_cons (wl_val E746 rfl (rn_ld1 (i := 3) E746 H rfl Try.underlying3 rfl rfl rfl rfl) rfl fun a747 E748 => ?_)
        clear E746
        refine wl_cons (wl_val E748 rfl (rn_int E748 rfl rfl rfl rfl) rfl fun a749 E750 => ?_)
        clear E748
        refine wl_cons (wl_val E750 rfl (rn_nilCheck E750 rfl rfl) rfl fun a751 E752 => ?_)
        clear E750
        refine wl_cons (wl_val E752 rfl (rn_fieldAddr E752 rfl Try.underlying28 rfl ti3 rfl rfl) rfl fun a753 E754 => ?_)
        clear E752
        refine wl_cons (wl_store (i := 3) (vs := [.int .i64 (IntKind.wrap .i64 (y512.Next + 1))]) (cs' := [.int .i64 (IntKind.wrap .i64 (y512.Next + 1)), .int .i64 y512.NextSession, .slice p514 y512.Processes.length c515]) E754 H rfl rfl rfl rfl ti3 rfl rfl rfl rfl rfl rfl fun w757 a755 E756 H' => ?_)
        clear H E754; have H := H'; clear H'
        replace H : St w Nil Z w757 [vw (kSlice 38 k_api_Process) a0.Processes [.slice p435 a0.Processes.length c436], vw (kSlice 81 k_api_Descriptor) u532.Open [.slice p699 u532.Open.length c700]] [[blk g440 [.int .i64 a0.Next, .int .i64 a0.NextSession, .slice p435 a0.Processes.length c436] 28], [blk g444 [.int .i64 a1] 3], [blk g448 [.int .i64 0, .int .i64 0, .slice none 0 0] 28], [blk g467 [.int .i64 (IntKind.wrap .i64 (y512.Next + 1)), .int .i64 y512.NextSession, .slice p514 y512.Processes.length c515] 28], [blk g471 [.int .i64 0, .int .i64 0, .slice none 0 0] 28], [row 38 k_api_Process y512.Processes (.slice p514 y512.Processes.length c515)], [row 81 k_api_Descriptor y703.Open (.slice p705 y703.Open.length c706)], [blk g711 [.int .i64 y512.Next, .int .i64 a1, .int .i64 y703.UID, .int .i64 y703.EUID, .int .i64 y703.GID, .int .i64 y703.EGID, .int .i64 y703.AUID, .int .i64 y703.Session, .int .i64 y703.Cwd.Dev, .int .i64 y703.Cwd.Ino, .string y703.Comm, .string y703.Exe, .slice p705 y703.Open.length c706, .bool y703.Audited] 38]] := H
        refine wl_nil ?_
        refine then_normal (hK740 _ _ ?_)
        refine wp_seq_k fun _ hK758 => ?_
        refine wa_begin mixed (fun w_ => (∃ Z S, (blk g467 [.int .i64 (IntKind.wrap .i64 (y512.Next + 1)), .int .i64 y512.NextSession, .slice p514 y512.Processes.length c515] 28).holds w_ Z S) ∧ True) [4] [6, 7, 10] H rfl fun w759 H' => ?_
        clear H; have H := H'; clear H'
        refine wa_take (i := 0) E756 rfl (by kernel_rfl) (panic_then panic_body) rfl (fun w_ => rn_move E756 rfl rfl) rfl fun a760 E761 => ?_
        clear E756
        refine wa_take (i := 1) E761 rfl (by kernel_rfl) (panic_then panic_body) rfl (fun w_ => rn_move E761 rfl rfl) rfl fun a762 E763 => ?_
        clear E761
        refine wa_take (i := 2) E763 rfl (by kernel_rfl) (panic_then panic_body) rfl (fun w_ => rn_nilCheck E763 rfl rfl) rfl fun a764 E765 => ?_
        clear E763
        refine wa_take (i := 3) E765 rfl (by kernel_rfl) (panic_then panic_body) rfl (fun w_ => rn_fieldAddr E765 rfl Try.underlying28 rfl ti26 rfl rfl) rfl fun a766 E767 => ?_
        clear E765
        refine wa_takeS (i := 4) E767 rfl (by kernel_rfl) (by kernel_rfl) (panic_then panic_body) rfl (fun w_ hS => rn_load1 E767 rfl Try.underlying26 rfl rfl hS.1 rfl) ⟨H.get (i := 3) (k := 0) rfl rfl, trivial⟩ rfl fun a768 E769 => ?_
        clear E767
        refine wa_takeU (i := 5) E769 rfl (by kernel_rfl) (by kernel_rfl) (panic_then panic_body) rfl (rn_ldN (i := 7) [.int .i64 y512.Next, .int .i64 a1, .int .i64 y703.UID, .int .i64 y703.EUID, .int .i64 y703.GID, .int .i64 y703.EGID, .int .i64 y703.AUID, .int .i64 y703.Session, .int .i64 y703.Cwd.Dev, .int .i64 y703.Cwd.Ino, .string y703.Comm, .string y703.Exe, .slice p705 y703.Open.length c706, .bool y703.Audited] E769 H rfl Try.underlying38 rfl ti38 rfl rfl rfl rfl) rfl fun a770 E771 => ?_
        clear E769
        refine wa_only (i := 6) rfl (by kernel_rfl) (by kernel_rfl) (wl_buildSlice (ps := [(0, .agg #[.int .i64 y512.Next, .int .i64 a1, .int .i64 y703.UID, .int .i64 y703.EUID, .int .i64 y703.GID, .int .i64 y703.EGID, .int .i64 y703.AUID, .int .i64 y703.Session, .int .i64 y703.Cwd.Dev, .int .i64 y703.Cwd.Ino, .string y703.Comm, .string y703.Exe, .slice p705 y703.Open.length c706, .bool y703.Audited])]) (cs := [.int .i64 y512.Next, .int .i64 a1, .int .i64 y703.UID, .int .i64 y703.EUID, .int .i64 y703.GID, .int .i64 y703.EGID, .int .i64 y703.AUID, .int .i64 y703.Session, .int .i64 y703.Cwd.Dev, .int .i64 y703.Cwd.Ino, .string y703.Comm, .string y703.Exe, .slice p705 y703.Open.length c706, .bool y703.Audited]) E771 H rfl Try.underlying26 ti38 rfl rfl (by kernel_rfl) rfl fun g772 w773 a774 E775 H' => ?_)
        clear H E771; have H := H'; clear H'
        refine ⟨fun _ => ⟨H.get (i := 3) (k := 0) rfl rfl, trivial⟩, ?_⟩
        replace H := H.share (i := 6) (A' := [vw (kSlice 81 k_api_Descriptor) y703.Open [.slice p705 y703.Open.length c706]]) (by intro b h; exact h) rfl (fun Z S1 h => ⟨rowH.read h.1, trivial⟩)
        obtain ⟨hc776, h⟩ := ck_out h
        refine wa_only (i := 7) rfl (by kernel_rfl) (by kernel_rfl) (wl_append (i := 5) (K := k_api_Process) (xs := y512.Processes) (ys := [(⟨y512.Next, a1, y703.UID, y703.EUID, y703.GID, y703.EGID, y703.AUID, y703.Session, y703.Cwd, y703.Comm, y703.Exe, y703.Open, y703.Audited⟩ : api_Process)]) E775 H rfl rfl rfl rfl Try.underlying26 Try.underlying26 ti38 rfl (by decide) hc776 rfl (fun Z S hA hL => srcOf_cells (c := 1) (news := [.int .i64 y512.Next, .int .i64 a1, .int .i64 y703.UID, .int .i64 y703.EUID, .int .i64 y703.GID, .int .i64 y703.EGID, .int .i64 y703.AUID, .int .i64 y703.Session, .int .i64 y703.Cwd.Dev, .int .i64 y703.Cwd.Ino, .string y703.Comm, .string y703.Exe, .slice p705 y703.Open.length c706, .bool y703.Audited]) (ys := [(⟨y512.Next, a1, y703.UID, y703.EUID, y703.GID, y703.EGID, y703.AUID, y703.Session, y703.Cwd, y703.Comm, y703.Exe, y703.Open, y703.Audited⟩ : api_Process)]) (⟨[.int .i64 y512.Next, .int .i64 a1, .int .i64 y703.UID, .int .i64 y703.EUID, .int .i64 y703.GID, .int .i64 y703.EGID, .int .i64 y703.AUID, .int .i64 y703.Session, .int .i64 y703.Cwd.Dev, .int .i64 y703.Cwd.Ino, .string y703.Comm, .string y703.Exe, .slice p705 y703.Open.length c706, .bool y703.Audited], _, rfl, (k_api_Process_shuts (x := (⟨y512.Next, a1, y703.UID, y703.EUID, y703.GID, y703.EGID, y703.AUID, y703.Session, y703.Cwd, y703.Comm, y703.Exe, y703.Open, y703.Audited⟩ : api_Process)) (t := (p705, c706)) ⟨(argHolds_get hA (k := 2) rfl), trivial⟩), rfl⟩) (by intro j u hu; rw [Nat.zero_add]; exact blk_cell (H.get (i := 8) (k := 0) rfl rfl) hu)) fun p777 c778 w779 a780 E781 H' => ?_)
        clear H E775; have H := H'; clear H'
        replace H : St w Nil Z w779 [vw (kSlice 38 k_api_Process) a0.Processes [.slice p435 a0.Processes.length c436], vw (kSlice 81 k_api_Descriptor) u532.Open [.slice p699 u532.Open.length c700], vw (kSlice 81 k_api_Descriptor) y703.Open [.slice p705 y703.Open.length c706]] [[blk g440 [.int .i64 a0.Next, .int .i64 a0.NextSession, .slice p435 a0.Processes.length c436] 28], [blk g444 [.int .i64 a1] 3], [blk g448 [.int .i64 0, .int .i64 0, .slice none 0 0] 28], [blk g467 [.int .i64 (IntKind.wrap .i64 (y512.Next + 1)), .int .i64 y512.NextSession, .slice p514 y512.Processes.length c515] 28], [blk g471 [.int .i64 0, .int .i64 0, .slice none 0 0] 28], [row 38 k_api_Process (y512.Processes ++ [(⟨y512.Next, a1, y703.UID, y703.EUID, y703.GID, y703.EGID, y703.AUID, y703.Session, y703.Cwd, y703.Comm, y703.Exe, y703.Open, y703.Audited⟩ : api_Process)]) (.slice p777 ((y512.Processes ++ [(⟨y512.Next, a1, y703.UID, y703.EUID, y703.GID, y703.EGID, y703.AUID, y703.Session, y703.Cwd, y703.Comm, y703.Exe, y703.Open, y703.Audited⟩ : api_Process)]).length) c778)], [], [blk g711 [.int .i64 y512.Next, .int .i64 a1, .int .i64 y703.UID, .int .i64 y703.EUID, .int .i64 y703.GID, .int .i64 y703.EGID, .int .i64 y703.AUID, .int .i64 y703.Session, .int .i64 y703.Cwd.Dev, .int .i64 y703.Cwd.Ino, .string y703.Comm, .string y703.Exe, .slice p705 y703.Open.length c706, .bool y703.Audited] 38], [blk g772 [.int .i64 y512.Next, .int .i64 a1, .int .i64 y703.UID, .int .i64 y703.EUID, .int .i64 y703.GID, .int .i64 y703.EGID, .int .i64 y703.AUID, .int .i64 y703.Session, .int .i64 y703.Cwd.Dev, .int .i64 y703.Cwd.Ino, .string y703.Comm, .string y703.Exe, .slice p705 y703.Open.length c706, .bool y703.Audited] 38]] := H
        refine ⟨fun h_ => (needs_no (by kernel_rfl) h_).elim, ?_⟩
        refine wa_take (i := 8) E781 rfl (by kernel_rfl) (panic_then panic_body) rfl (fun w_ => rn_nilCheck E781 rfl rfl) rfl fun a783 E784 => ?_
        clear E781
        refine wa_take (i := 9) E784 rfl (by kernel_rfl) (panic_then panic_body) rfl (fun w_ => rn_fieldAddr E784 rfl Try.underlying28 rfl ti26 rfl rfl) rfl fun a785 E786 => ?_
        clear E784
        refine wa_only (i := 10) rfl (by kernel_rfl) (by kernel_rfl) (wl_store (i := 3) (vs := [.slice p777 ((y512.Processes ++ [(⟨y512.Next, a1, y703.UID, y703.EUID, y703.GID, y703.EGID, y703.AUID, y703.Session, y703.Cwd, y703.Comm, y703.Exe, y703.Open, y703.Audited⟩ : api_Process)]).length) c778]) (cs' := [.int .i64 (IntKind.wrap .i64 (y512.Next + 1)), .int .i64 y512.NextSession, .slice p777 ((y512.Processes ++ [(⟨y512.Next, a1, y703.UID, y703.EUID, y703.GID, y703.EGID, y703.AUID, y703.Session, y703.Cwd, y703.Comm, y703.Exe, y703.Open, y703.Audited⟩ : api_Process)]).length) c778]) E786 H rfl rfl rfl rfl ti26 rfl rfl rfl rfl rfl rfl fun w789 a787 E788 H' => ?_)
        clear H E786; have H := H'; clear H'
        refine ⟨fun h_ => (needs_no (by kernel_rfl) h_).elim, ?_⟩
        refine wa_done (by kernel_rfl) ?_
        refine then_normal (hK758 _ _ ?_)
        refine wp_seq_k fun _ hK790 => ?_
        refine wp_region_lit ?_
        refine wl_cons (wl_val E788 rfl (rn_fieldAddr E788 rfl Try.underlying38 rfl ti3 rfl rfl) rfl fun a791 E792 => ?_)
        clear E788
        refine wl_cons (wl_val E792 rfl (rn_ld1 (i := 7) E792 H rfl Try.underlying3 rfl rfl rfl rfl) rfl fun a793 E794 => ?_)
        clear E792
        refine wl_cons (wl_val E794 rfl (rn_assign E794 rfl rfl) rfl fun a795 E796 => ?_)
        clear E794
        refine wl_cons (wl_val E796 rfl (rn_assign E796 rfl rfl) rfl fun a797 E798 => ?_)
        clear E796
        refine wl_nil ?_
        refine then_normal (hK790 _ _ ?_)
        refine wp_ret ?_
        refine ?_
        refine wb_ret2 E798 rfl (rv_tmp E798 rfl) (rv_tmp E798 rfl) ⟨_, rfl, ?_⟩
        have E799 := Env.put E538 (d := 32) rfl (.tuple #[.int .i64 y512.Next, .int .i64 0])
        generalize hae : Act.put _ (some 32) _ = a800 at E799 ⊢; clear hae
        refine wl_cons (wl_val E799 rfl (rn_move E799 rfl rfl) rfl fun a801 E802 => ?_)
        clear E799
        refine wl_cons (wl_val E802 rfl (rn_extract E802 rfl rfl rfl) rfl fun a803 E804 => ?_)
        clear E802
        refine wl_cons (wl_val E804 rfl (rn_extract E804 rfl rfl rfl) rfl fun a805 E806 => ?_)
        clear E804
        refine wl_cons (wl_val E806 rfl (rn_assign E806 rfl rfl) rfl fun a807 E808 => ?_)
        clear E806
        refine wl_cons (wl_val E808 rfl (rn_assign E808 rfl rfl) rfl fun a809 E810 => ?_)
        clear E808
        refine wl_nil ?_
        refine then_normal (hK523 _ _ ?_)
        refine wp_seq_k fun _ hK811 => ?_
        refine wp_seq_k fun _ hK812 => ?_
        refine wp_region_lit ?_
        refine wl_cons (wl_val E810 rfl (rn_move E810 rfl rfl) rfl fun a813 E814 => ?_)
        clear E810
        refine wl_cons (wl_val E814 rfl (rn_int E814 rfl rfl rfl rfl) rfl fun a815 E816 => ?_)
        clear E814
        refine wl_nil ?_
        refine then_normal (hK812 _ _ ?_)
        refine wc_F E816 rfl rfl ?_
        refine wp_skip ?_
        refine then_normal (hK811 _ _ ?_)
        refine wp_seq_k fun _ hK817 => ?_
        refine wp_region_lit ?_
        refine wl_cons (wl_val E816 rfl (rn_ldN (i := 3) [.int .i64 (IntKind.wrap .i64 (y512.Next + 1)), .int .i64 y512.NextSession, .slice p777 ((y512.Processes ++ [(⟨y512.Next, a1, y703.UID, y703.EUID, y703.GID, y703.EGID, y703.AUID, y703.Session, y703.Cwd, y703.Comm, y703.Exe, y703.Open, y703.Audited⟩ : api_Process)]).length) c778] E816 H rfl Try.underlying28 rfl ti28 rfl rfl rfl rfl) rfl fun a818 E819 => ?_)
        clear E816
        refine wl_cons (wl_val E819 rfl (rn_move E819 rfl rfl) rfl fun a820 E821 => ?_)
        clear E819
        refine wl_cons (wl_store (i := 4) (vs := [.int .i64 (IntKind.wrap .i64 (y512.Next + 1)), .int .i64 y512.NextSession, .slice p777 ((y512.Processes ++ [(⟨y512.Next, a1, y703.UID, y703.EUID, y703.GID, y703.EGID, y703.AUID, y703.Session, y703.Cwd, y703.Comm, y703.Exe, y703.Open, y703.Audited⟩ : api_Process)]).length) c778]) (cs' := [.int .i64 (IntKind.wrap .i64 (y512.Next + 1)), .int .i64 y512.NextSession, .slice p777 ((y512.Processes ++ [(⟨y512.Next, a1, y703.UID, y703.EUID, y703.GID, y703.EGID, y703.AUID, y703.Session, y703.Cwd, y703.Comm, y703.Exe, y703.Open, y703.Audited⟩ : api_Process)]).length) c778]) E821 H rfl rfl rfl rfl ti28 rfl rfl rfl rfl rfl rfl fun w824 a822 E823 H' => ?_)
        clear H E821; have H := H'; clear H'
        refine wl_cons (wl_val E823 rfl (rn_assign E823 rfl rfl) rfl fun a825 E826 => ?_)
        clear E823
        refine wl_cons (wl_val E826 rfl (rn_assign E826 rfl rfl) rfl fun a827 E828 => ?_)
        clear E826
        refine wl_nil ?_
        refine then_normal (hK817 _ _ ?_)
        refine wp_ret ?_
        refine ?_
        refine wb_ret3 E828 rfl (rv_cellN (cs := [.int .i64 (IntKind.wrap .i64 (y512.Next + 1)), .int .i64 y512.NextSession, .slice p777 ((y512.Processes ++ [(⟨y512.Next, a1, y703.UID, y703.EUID, y703.GID, y703.EGID, y703.AUID, y703.Session, y703.Cwd, y703.Comm, y703.Exe, y703.Open, y703.Audited⟩ : api_Process)]).length) c778]) E828 rfl Try.underlying28 rfl ti28 (H.get (i := 4) (k := 0) rfl rfl) rfl) (rv_tmp E828 rfl) (rv_tmp E828 rfl) ⟨_, rfl, ?_⟩
        have E829 := Env.put E462 (d := 10) rfl (.tuple #[.agg #[.int .i64 (IntKind.wrap .i64 (y512.Next + 1)), .int .i64 y512.NextSession, .slice p777 ((y512.Processes ++ [(⟨y512.Next, a1, y703.UID, y703.EUID, y703.GID, y703.EGID, y703.AUID, y703.Session, y703.Cwd, y703.Comm, y703.Exe, y703.Open, y703.Audited⟩ : api_Process)]).length) c778], .int .i64 y512.Next, .int .i64 0])
        generalize hae : Act.put _ (some 10) _ = a830 at E829 ⊢; clear hae
        refine wl_cons (wl_val E829 rfl (rn_extract E829 rfl rfl rfl) rfl fun a831 E832 => ?_)
        clear E829
        refine wl_cons (wl_val E832 rfl (rn_extract E832 rfl rfl rfl) rfl fun a833 E834 => ?_)
        clear E832
        refine wl_cons (wl_val E834 rfl (rn_extract E834 rfl rfl rfl) rfl fun a835 E836 => ?_)
        clear E834
        refine wl_cons (wl_store (i := 2) (vs := [.int .i64 (IntKind.wrap .i64 (y512.Next + 1)), .int .i64 y512.NextSession, .slice p777 ((y512.Processes ++ [(⟨y512.Next, a1, y703.UID, y703.EUID, y703.GID, y703.EGID, y703.AUID, y703.Session, y703.Cwd, y703.Comm, y703.Exe, y703.Open, y703.Audited⟩ : api_Process)]).length) c778]) (cs' := [.int .i64 (IntKind.wrap .i64 (y512.Next + 1)), .int .i64 y512.NextSession, .slice p777 ((y512.Processes ++ [(⟨y512.Next, a1, y703.UID, y703.EUID, y703.GID, y703.EGID, y703.AUID, y703.Session, y703.Cwd, y703.Comm, y703.Exe, y703.Open, y703.Audited⟩ : api_Process)]).length) c778]) E836 H rfl rfl rfl rfl ti28 rfl rfl rfl rfl rfl rfl fun w839 a837 E838 H' => ?_)
        clear H E836; have H := H'; clear H'
        replace H : St w Nil Z w839 [vw (kSlice 38 k_api_Process) a0.Processes [.slice p435 a0.Processes.length c436], vw (kSlice 81 k_api_Descriptor) u532.Open [.slice p699 u532.Open.length c700], vw (kSlice 81 k_api_Descriptor) y703.Open [.slice p705 y703.Open.length c706]] [[blk g440 [.int .i64 a0.Next, .int .i64 a0.NextSession, .slice p435 a0.Processes.length c436] 28], [blk g444 [.int .i64 a1] 3], [blk g448 [.int .i64 (IntKind.wrap .i64 (y512.Next + 1)), .int .i64 y512.NextSession, .slice p777 ((y512.Processes ++ [(⟨y512.Next, a1, y703.UID, y703.EUID, y703.GID, y703.EGID, y703.AUID, y703.Session, y703.Cwd, y703.Comm, y703.Exe, y703.Open, y703.Audited⟩ : api_Process)]).length) c778] 28], [blk g467 [.int .i64 (IntKind.wrap .i64 (y512.Next + 1)), .int .i64 y512.NextSession, .slice p777 ((y512.Processes ++ [(⟨y512.Next, a1, y703.UID, y703.EUID, y703.GID, y703.EGID, y703.AUID, y703.Session, y703.Cwd, y703.Comm, y703.Exe, y703.Open, y703.Audited⟩ : api_Process)]).length) c778] 28], [blk g471 [.int .i64 (IntKind.wrap .i64 (y512.Next + 1)), .int .i64 y512.NextSession, .slice p777 ((y512.Processes ++ [(⟨y512.Next, a1, y703.UID, y703.EUID, y703.GID, y703.EGID, y703.AUID, y703.Session, y703.Cwd, y703.Comm, y703.Exe, y703.Open, y703.Audited⟩ : api_Process)]).length) c778] 28], [row 38 k_api_Process (y512.Processes ++ [(⟨y512.Next, a1, y703.UID, y703.EUID, y703.GID, y703.EGID, y703.AUID, y703.Session, y703.Cwd, y703.Comm, y703.Exe, y703.Open, y703.Audited⟩ : api_Process)]) (.slice p777 ((y512.Processes ++ [(⟨y512.Next, a1, y703.UID, y703.EUID, y703.GID, y703.EGID, y703.AUID, y703.Session, y703.Cwd, y703.Comm, y703.Exe, y703.Open, y703.Audited⟩ : api_Process)]).length) c778)], [], [blk g711 [.int .i64 y512.Next, .int .i64 a1, .int .i64 y703.UID, .int .i64 y703.EUID, .int .i64 y703.GID, .int .i64 y703.EGID, .int .i64 y703.AUID, .int .i64 y703.Session, .int .i64 y703.Cwd.Dev, .int .i64 y703.Cwd.Ino, .string y703.Comm, .string y703.Exe, .slice p705 y703.Open.length c706, .bool y703.Audited] 38], [blk g772 [.int .i64 y512.Next, .int .i64 a1, .int .i64 y703.UID, .int .i64 y703.EUID, .int .i64 y703.GID, .int .i64 y703.EGID, .int .i64 y703.AUID, .int .i64 y703.Session, .int .i64 y703.Cwd.Dev, .int .i64 y703.Cwd.Ino, .string y703.Comm, .string y703.Exe, .slice p705 y703.Open.length c706, .bool y703.Audited] 38]] := H
        refine wl_cons (wl_val E838 rfl (rn_assign E838 rfl rfl) rfl fun a840 E841 => ?_)
        clear E838
        refine wl_cons (wl_val E841 rfl (rn_assign E841 rfl rfl) rfl fun a842 E843 => ?_)
        clear E841
        refine wl_nil ?_
        refine then_normal (hK456 _ _ ?_)
        refine wp_ret ?_
        refine ?_
        obtain rfl := Option.some.inj h
        replace H : St w Nil Z w839 [vw (kSlice 38 k_api_Process) a0.Processes [.slice p435 a0.Processes.length c436], vw (kSlice 81 k_api_Descriptor) u532.Open [.slice p699 u532.Open.length c700], vw (kSlice 81 k_api_Descriptor) y703.Open [.slice p705 y703.Open.length c706]] [[blk g440 [.int .i64 a0.Next, .int .i64 a0.NextSession, .slice p435 a0.Processes.length c436] 28], [blk g444 [.int .i64 a1] 3], [blk g448 [.int .i64 (IntKind.wrap .i64 (y512.Next + 1)), .int .i64 y512.NextSession, .slice p777 ((y512.Processes ++ [(⟨y512.Next, a1, y703.UID, y703.EUID, y703.GID, y703.EGID, y703.AUID, y703.Session, y703.Cwd, y703.Comm, y703.Exe, y703.Open, y703.Audited⟩ : api_Process)]).length) c778] 28], [blk g467 [.int .i64 (IntKind.wrap .i64 (y512.Next + 1)), .int .i64 y512.NextSession, .slice p777 ((y512.Processes ++ [(⟨y512.Next, a1, y703.UID, y703.EUID, y703.GID, y703.EGID, y703.AUID, y703.Session, y703.Cwd, y703.Comm, y703.Exe, y703.Open, y703.Audited⟩ : api_Process)]).length) c778] 28], [blk g471 [.int .i64 (IntKind.wrap .i64 (y512.Next + 1)), .int .i64 y512.NextSession, .slice p777 ((y512.Processes ++ [(⟨y512.Next, a1, y703.UID, y703.EUID, y703.GID, y703.EGID, y703.AUID, y703.Session, y703.Cwd, y703.Comm, y703.Exe, y703.Open, y703.Audited⟩ : api_Process)]).length) c778] 28], [row 38 k_api_Process (y512.Processes ++ [(⟨y512.Next, a1, y703.UID, y703.EUID, y703.GID, y703.EGID, y703.AUID, y703.Session, y703.Cwd, y703.Comm, y703.Exe, y703.Open, y703.Audited⟩ : api_Process)]) (.slice p777 ((y512.Processes ++ [(⟨y512.Next, a1, y703.UID, y703.EUID, y703.GID, y703.EGID, y703.AUID, y703.Session, y703.Cwd, y703.Comm, y703.Exe, y703.Open, y703.Audited⟩ : api_Process)]).length) c778)], [], [blk g711 [.int .i64 y512.Next, .int .i64 a1, .int .i64 y703.UID, .int .i64 y703.EUID, .int .i64 y703.GID, .int .i64 y703.EGID, .int .i64 y703.AUID, .int .i64 y703.Session, .int .i64 y703.Cwd.Dev, .int .i64 y703.Cwd.Ino, .string y703.Comm, .string y703.Exe, .slice p705 y703.Open.length c706, .bool y703.Audited] 38], [blk g772 [.int .i64 y512.Next, .int .i64 a1, .int .i64 y703.UID, .int .i64 y703.EUID, .int .i64 y703.GID, .int .i64 y703.EGID, .int .i64 y703.AUID, .int .i64 y703.Session, .int .i64 y703.Cwd.Dev, .int .i64 y703.Cwd.Ino, .string y703.Comm, .string y703.Exe, .slice p705 y703.Open.length c706, .bool y703.Audited] 38]] := H
        refine wb_ret3 E843 rfl (rv_cellN (cs := [.int .i64 (IntKind.wrap .i64 (y512.Next + 1)), .int .i64 y512.NextSession, .slice p777 ((y512.Processes ++ [(⟨y512.Next, a1, y703.UID, y703.EUID, y703.GID, y703.EGID, y703.AUID, y703.Session, y703.Cwd, y703.Comm, y703.Exe, y703.Open, y703.Audited⟩ : api_Process)]).length) c778]) E843 rfl Try.underlying28 rfl ti28 (H.get (i := 2) (k := 0) rfl rfl) rfl) (rv_tmp E843 rfl) (rv_tmp E843 rfl) ?_
        exact ⟨_, rfl, [], [[row 38 k_api_Process (y512.Processes ++ [(⟨y512.Next, a1, y703.UID, y703.EUID, y703.GID, y703.EGID, y703.AUID, y703.Session, y703.Cwd, y703.Comm, y703.Exe, y703.Open, y703.Audited⟩ : api_Process)]) (.slice p777 ((y512.Processes ++ [(⟨y512.Next, a1, y703.UID, y703.EUID, y703.GID, y703.EGID, y703.AUID, y703.Session, y703.Cwd, y703.Comm, y703.Exe, y703.Open, y703.Audited⟩ : api_Process)]).length) c778)]], ⟨_, _, rfl, rfl, rfl⟩, H.leave (fun Z hA => trivial) (fun Z S hA hL => Holds_sub (.cons _ (.cons _ (.cons _ (.cons _ (.cons _ (.cons_cons _ (.cons _ (.cons _ (.cons _ .slnil))))))))) hL)⟩
  · replace h := itF hb508 h
    refine wc_T E507 rfl (congrArg Bool.not hb508) ?_
    refine wp_seq_k fun _ hK844 => ?_
    refine wp_region_lit ?_
    refine wl_cons (wl_val E507 rfl (rn_build (ps := []) (cs := [.int .i64 0, .int .i64 0, .slice none 0 0]) E507 rfl rfl (by kernel_rfl)) rfl fun a845 E846 => ?_)
    clear E507
    refine wl_cons (wl_val E846 rfl (rn_move E846 rfl rfl) rfl fun a847 E848 => ?_)
    clear E846
    refine wl_cons (wl_store (i := 4) (vs := [.int .i64 0, .int .i64 0, .slice none 0 0]) (cs' := [.int .i64 0, .int .i64 0, .slice none 0 0]) E848 H rfl rfl rfl rfl ti28 rfl rfl rfl rfl rfl rfl fun w851 a849 E850 H' => ?_)
    clear H E848; have H := H'; clear H'
    refine wl_cons (wl_val E850 rfl (rn_assign E850 rfl rfl) rfl fun a852 E853 => ?_)
    clear E850
    refine wl_cons (wl_val E853 rfl (rn_assign E853 rfl rfl) rfl fun a854 E855 => ?_)
    clear E853
    refine wl_nil ?_
    refine then_normal (hK844 _ _ ?_)
    refine wp_ret ?_
    refine then_ret (?_)
    refine wb_ret3 E855 rfl (rv_cellN (cs := [.int .i64 0, .int .i64 0, .slice none 0 0]) E855 rfl Try.underlying28 rfl ti28 (H.get (i := 4) (k := 0) rfl rfl) rfl) (rv_tmp E855 rfl) (rv_tmp E855 rfl) ⟨_, rfl, ?_⟩
    have E856 := Env.put E462 (d := 10) rfl (.tuple #[.agg #[.int .i64 0, .int .i64 0, .slice none 0 0], .int .i64 0, .int .i64 3])
    generalize hae : Act.put _ (some 10) _ = a857 at E856 ⊢; clear hae
    refine wl_cons (wl_val E856 rfl (rn_extract E856 rfl rfl rfl) rfl fun a858 E859 => ?_)
    clear E856
    refine wl_cons (wl_val E859 rfl (rn_extract E859 rfl rfl rfl) rfl fun a860 E861 => ?_)
    clear E859
    refine wl_cons (wl_val E861 rfl (rn_extract E861 rfl rfl rfl) rfl fun a862 E863 => ?_)
    clear E861
    refine wl_cons (wl_store (i := 2) (vs := [.int .i64 0, .int .i64 0, .slice none 0 0]) (cs' := [.int .i64 0, .int .i64 0, .slice none 0 0]) E863 H rfl rfl rfl rfl ti28 rfl rfl rfl rfl rfl rfl fun w866 a864 E865 H' => ?_)
    clear H E863; have H := H'; clear H'
    refine wl_cons (wl_val E865 rfl (rn_assign E865 rfl rfl) rfl fun a867 E868 => ?_)
    clear E865
    refine wl_cons (wl_val E868 rfl (rn_assign E868 rfl rfl) rfl fun a869 E870 => ?_)
    clear E868
    refine wl_nil ?_
    refine then_normal (hK456 _ _ ?_)
    refine wp_ret ?_
    refine ?_
    obtain rfl := Option.some.inj h
    replace H := H.nilRow 38 k_api_Process
    replace H : St w Nil Z w866 [vw (kSlice 38 k_api_Process) a0.Processes [.slice p435 a0.Processes.length c436]] [[blk g440 [.int .i64 a0.Next, .int .i64 a0.NextSession, .slice p435 a0.Processes.length c436] 28], [blk g444 [.int .i64 a1] 3], [blk g448 [.int .i64 0, .int .i64 0, .slice none 0 0] 28], [blk g467 [.int .i64 a0.Next, .int .i64 a0.NextSession, .slice p435 a0.Processes.length c436] 28], [blk g471 [.int .i64 0, .int .i64 0, .slice none 0 0] 28], [row 38 k_api_Process ([] : List api_Process) (.slice none 0 0)]] := H
    refine wb_ret3 E870 rfl (rv_cellN (cs := [.int .i64 0, .int .i64 0, .slice none 0 0]) E870 rfl Try.underlying28 rfl ti28 (H.get (i := 2) (k := 0) rfl rfl) rfl) (rv_tmp E870 rfl) (rv_tmp E870 rfl) ?_
    exact ⟨_, rfl, [], [[row 38 k_api_Process ([] : List api_Process) (.slice none 0 0)]], ⟨_, _, rfl, rfl, rfl⟩, H.leave (fun Z hA => trivial) (fun Z S hA hL => Holds_sub (.cons _ (.cons _ (.cons _ (.cons _ (.cons _ (.cons_cons _ .slnil)))))) hL)⟩
end Go.Proofs.Ytanimjbmkhpnaaa.Gx
