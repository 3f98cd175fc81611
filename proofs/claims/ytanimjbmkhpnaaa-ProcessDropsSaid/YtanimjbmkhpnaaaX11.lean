/- Function 11, kaudit/kauditref09.Copy: what it answers as a plain function, and that the Go code comes to exactly that (where the plain function gives an answer). -/
import Derived.Test.YtanimjbmkhpnaaaXT
import Derived.Test.YtanimjbmkhpnaaaX33
set_option linter.unusedVariables false
set_option linter.unusedSimpArgs false
namespace Go.Proofs.Ytanimjbmkhpnaaa.Gx
open Go.Gx Go.RowKit
/-! ### kaudit/kauditref09.Copy: function 11 -/
def f_kauditref09_Copy_l1 (a0 : api_Table) : Nat → Int → List api_Process → Option (List api_Process)
  | 0, _, _ => none
  | k_ + 1, x567, x568 => if (decide (x567 < (a0.Processes.length : Int))) = true then ((at_ a0.Processes x567).bind fun u603 => (f_kauditref09_CopyProcess u603).bind fun y615 => ck (fits (x568.length + [y615].length) 144 = true) (f_kauditref09_Copy_l1 a0 k_ (IntKind.wrap .i64 (x567 + 1)) (x568 ++ [y615]))) else (some (x568))
def f_kauditref09_Copy (a0 : api_Table) : Option (api_Table) := (f_kauditref09_Copy_l1 a0 (((((a0.Processes.length : Int) : Int) - (0)).toNat + 1)) 0 ([] : List api_Process)).bind fun x568 => some ((⟨a0.Next, a0.NextSession, x568⟩ : api_Table))
set_option maxHeartbeats 4000000 in
set_option maxRecDepth 100000 in
theorem C11 (a0 : api_Table) (p325 : Option Addr) (c326 : Nat) (r : api_Table) (w : World) (h : f_kauditref09_Copy a0 = some r) : Fun Try.prog 11 #[.agg #[.int .i64 a0.Next, .int .i64 a0.NextSession, .slice p325 a0.Processes.length c326]] w [vw (kSlice 38 k_api_Process) a0.Processes [.slice p325 a0.Processes.length c326]] (fun (v_ : Value) (A_ : List VP) (N_ : List (List SP)) => ∃ (p327 : Option Addr) (c328 : Nat), v_ = .agg #[.int .i64 r.Next, .int .i64 r.NextSession, .slice p327 r.Processes.length c328] ∧ A_ = [] ∧ N_ = [[row 38 k_api_Process r.Processes (.slice p327 r.Processes.length c328)]]) := by
  unfold f_kauditref09_Copy at h
  refine fun_begin (args := [.agg #[.int .i64 a0.Next, .int .i64 a0.NextSession, .slice p325 a0.Processes.length c326]]) Try.func11 rfl Try.ntmps11 rfl fun Z a E H => ?_
  refine wp_seq_k fun _ hK329 => ?_
  refine wp_region_lit ?_
  refine wl_cons (wl_box (T := 28) (cs := [.int .i64 a0.Next, .int .i64 a0.NextSession, .slice p325 a0.Processes.length c326]) E H rfl rfl rfl rfl fun g330 w331 a332 E333 H' => ?_)
  clear H E; have H := H'; clear H'
  refine wl_cons (wl_alloc (cs := [.int .i64 0, .int .i64 0, .slice none 0 0]) E333 H rfl ti28 rfl rfl fun g334 w335 a336 E337 H' => ?_)
  clear H E333; have H := H'; clear H'
  refine wl_nil ?_
  refine then_normal (hK329 _ _ ?_)
  refine wp_seq_k fun _ hK338 => ?_
  refine wp_region_lit ?_
  refine wl_cons (wl_val E337 rfl (rn_fieldAddr E337 rfl Try.underlying28 rfl ti3 rfl rfl) rfl fun a339 E340 => ?_)
  clear E337
  refine wl_cons (wl_val E340 rfl (rn_ld1 (i := 0) E340 H rfl Try.underlying3 rfl rfl rfl rfl) rfl fun a341 E342 => ?_)
  clear E340
  refine wl_cons (wl_val E342 rfl (rn_fieldAddr E342 rfl Try.underlying28 rfl ti3 rfl rfl) rfl fun a343 E344 => ?_)
  clear E342
  refine wl_cons (wl_val E344 rfl (rn_ld1 (i := 0) E344 H rfl Try.underlying3 rfl rfl rfl rfl) rfl fun a345 E346 => ?_)
  clear E344
  refine wl_cons (wl_val E346 rfl (rn_build (ps := [(0, .int .i64 a0.Next), (1, .int .i64 a0.NextSession)]) (cs := [.int .i64 a0.Next, .int .i64 a0.NextSession, .slice none 0 0]) E346 rfl rfl (by kernel_rfl)) rfl fun a347 E348 => ?_)
  clear E346
  refine wl_cons (wl_alloc (cs := [.int .i64 0, .int .i64 0, .slice none 0 0]) E348 H rfl ti28 rfl rfl fun g349 w350 a351 E352 H' => ?_)
  clear H E348; have H := H'; clear H'
  replace H : St w Nil Z w350 [vw (kSlice 38 k_api_Process) a0.Processes [.slice p325 a0.Processes.length c326]] [[blk g330 [.int .i64 a0.Next, .int .i64 a0.NextSession, .slice p325 a0.Processes.length c326] 28], [blk g334 [.int .i64 0, .int .i64 0, .slice none 0 0] 28], [blk g349 [.int .i64 0, .int .i64 0, .slice none 0 0] 28]] := H
  refine wl_cons (wl_store (i := 2) (vs := [.int .i64 a0.Next, .int .i64 a0.NextSession, .slice none 0 0]) (cs' := [.int .i64 a0.Next, .int .i64 a0.NextSession, .slice none 0 0]) E352 H rfl rfl rfl rfl ti28 rfl rfl rfl rfl rfl rfl fun w355 a353 E354 H' => ?_)
  clear H E352; have H := H'; clear H'
  refine wl_nil ?_
  refine then_normal (hK338 _ _ ?_)
  refine wp_seq_k fun _ hK356 => ?_
  refine wp_seq_k fun _ hK357 => ?_
  refine wp_region_lit ?_
  refine wl_cons (wl_val E354 rfl (rn_assign E354 rfl rfl) rfl fun a358 E359 => ?_)
  clear E354
  refine wl_nil ?_
  refine then_normal (hK357 _ _ ?_)
  refine wp_block ?_
  replace H := H.nilRow 38 k_api_Process
  obtain ⟨o571, ho572, h⟩ := bs h
  refine wc_loop (fun k_ a_ w_ => ∃ (x567 : Int) (x568 : List api_Process) (p569 : Option Addr) (c570 : Nat), Env 29 a_ [(0, .agg #[.int .i64 a0.Next, .int .i64 a0.NextSession, .slice p325 a0.Processes.length c326]), (1, .pointer (some ⟨g330, 0, none⟩)), (2, .pointer (some ⟨g334, 0, none⟩)), (3, .pointer (some ⟨g349, 0, none⟩)), (4, .int .i64 x567), (5, .pointer (some ⟨g330, 0, none⟩)), (6, .int .i64 a0.Next), (7, .pointer (some ⟨g330, 1, none⟩)), (8, .int .i64 a0.NextSession), (9, .agg #[.int .i64 a0.Next, .int .i64 a0.NextSession, .slice none 0 0])] ∧ St w Nil Z w_ [vw (kSlice 38 k_api_Process) a0.Processes [.slice p325 a0.Processes.length c326]] [[blk g330 [.int .i64 a0.Next, .int .i64 a0.NextSession, .slice p325 a0.Processes.length c326] 28], [blk g334 [.int .i64 0, .int .i64 0, .slice none 0 0] 28], [blk g349 [.int .i64 a0.Next, .int .i64 a0.NextSession, .slice p569 x568.length c570] 28], [row 38 k_api_Process x568 (.slice p569 x568.length c570)]] ∧ f_kauditref09_Copy_l1 a0 k_ x567 x568 = some o571) (((((a0.Processes.length : Int) : Int) - (0)).toNat + 1)) ?_ ?_ ?_
  · exact ⟨0, ([] : List api_Process), none, 0, E359.pick ⟨rfl, rfl, rfl, rfl, rfl, rfl, rfl, rfl, rfl, rfl, trivial⟩, H, ho572⟩
  · rintro _ _ ⟨_, _, _, _, _, _, h_⟩
    rw [f_kauditref09_Copy_l1] at h_; cases h_
  · rintro k573 a574 w575 ⟨x567, x568, p569, c570, E576, H', h577⟩
    rw [f_kauditref09_Copy_l1] at h577
    clear H; have H := H'; clear H'
    refine wp_seq_k fun _ hK578 => ?_
    refine wp_seq_k fun _ hK579 => ?_
    refine wp_region_lit ?_
    refine wl_cons (wl_val E576 rfl (rn_move E576 rfl rfl) rfl fun a580 E581 => ?_)
    clear E576
    refine wl_cons (wl_val E581 rfl (rn_fieldAddr E581 rfl Try.underlying28 rfl ti26 rfl rfl) rfl fun a582 E583 => ?_)
    clear E581
    refine wl_cons (wl_val E583 rfl (rn_ld1 (i := 0) E583 H rfl Try.underlying26 rfl rfl rfl rfl) rfl fun a584 E585 => ?_)
    clear E583
    refine wl_cons (wl_val E585 rfl (rn_len E585 rfl Try.underlying26 rfl) rfl fun a586 E587 => ?_)
    clear E585
    refine wl_cons (wl_val E587 rfl (rn_int E587 rfl rfl rfl rfl) rfl fun a588 E589 => ?_)
    clear E587
    refine wl_nil ?_
    refine then_normal (hK579 _ _ ?_)
    rcases Bool.eq_false_or_eq_true (decide (x567 < (a0.Processes.length : Int))) with hb590 | hb590
    · replace h577 := itT hb590 h577
      refine wc_T E589 rfl hb590 ?_
      refine wp_skip ?_
      refine then_normal (hK578 _ _ ?_)
      refine wp_seq_k fun _ hK591 => ?_
      refine wp_block ?_
      refine wa_begin mixed (fun w_ => (∃ Z S, (blk g349 [.int .i64 a0.Next, .int .i64 a0.NextSession, .slice p569 x568.length c570] 28).holds w_ Z S) ∧ True) [1] [7, 8, 9, 11] H rfl fun w592 H' => ?_
      clear H; have H := H'; clear H'
      refine wa_take (i := 0) E589 rfl (by kernel_rfl) (panic_block (panic_then (panic_then (panic_block (panic_then panic_body))))) rfl (fun w_ => rn_fieldAddr E589 rfl Try.underlying28 rfl ti26 rfl rfl) rfl fun a593 E594 => ?_
      clear E589
      replace H : St w Nil Z w592 [vw (kSlice 38 k_api_Process) a0.Processes [.slice p325 a0.Processes.length c326]] [[blk g330 [.int .i64 a0.Next, .int .i64 a0.NextSession, .slice p325 a0.Processes.length c326] 28], [blk g334 [.int .i64 0, .int .i64 0, .slice none 0 0] 28], [blk g349 [.int .i64 a0.Next, .int .i64 a0.NextSession, .slice p569 x568.length c570] 28], [row 38 k_api_Process x568 (.slice p569 x568.length c570)]] := H
      refine wa_takeS (i := 1) E594 rfl (by kernel_rfl) (by kernel_rfl) (panic_block (panic_then (panic_then (panic_block (panic_then panic_body))))) rfl (fun w_ hS => rn_load1 E594 rfl Try.underlying26 rfl rfl hS.1 rfl) ⟨H.get (i := 2) (k := 0) rfl rfl, trivial⟩ rfl fun a595 E596 => ?_
      clear E594
      refine wa_take (i := 2) E596 rfl (by kernel_rfl) (panic_block (panic_then (panic_then (panic_block (panic_then panic_body))))) rfl (fun w_ => rn_fieldAddr E596 rfl Try.underlying28 rfl ti26 rfl rfl) rfl fun a597 E598 => ?_
      clear E596
      refine wa_takeU (i := 3) E598 rfl (by kernel_rfl) (by kernel_rfl) (panic_block (panic_then (panic_then (panic_block (panic_then panic_body))))) rfl (rn_ld1 (i := 0) E598 H rfl Try.underlying26 rfl rfl rfl rfl) rfl fun a599 E600 => ?_
      clear E598
      refine wa_take (i := 4) E600 rfl (by kernel_rfl) (panic_block (panic_then (panic_then (panic_block (panic_then panic_body))))) rfl (fun w_ => rn_move E600 rfl rfl) rfl fun a601 E602 => ?_
      clear E600
      obtain ⟨u603, hy604, h577⟩ := bs h577
      obtain ⟨q605, hq606, hr607⟩ := rn_idx (K := k_api_Process) (P := Try.prog) (o := ⟨some 22, .indexAddr 26 (.tmp 20) (.tmp 21), 0, "", #[], none⟩) E602 rfl Try.underlying26 ti38 rfl rfl (H.readA (k := 0) rfl) hy604
      refine wa_take (i := 5) E602 rfl (by kernel_rfl) (panic_block (panic_then (panic_then (panic_block (panic_then panic_body))))) rfl (fun w_ => (hr607 _)) rfl fun a608 E609 => ?_
      clear E602
      obtain ⟨⟨p611, c612⟩, H', hc610⟩ := St.openA k_api_Process_opens H (k := 0) rfl hy604
      replace H := H'; clear H'
      refine wa_takeU (i := 6) E609 rfl (by kernel_rfl) (by kernel_rfl) (panic_block (panic_then (panic_then (panic_block (panic_then panic_body))))) rfl (rn_loadIN (vs := [.int .i64 u603.PID, .int .i64 u603.PPID, .int .i64 u603.UID, .int .i64 u603.EUID, .int .i64 u603.GID, .int .i64 u603.EGID, .int .i64 u603.AUID, .int .i64 u603.Session, .int .i64 u603.Cwd.Dev, .int .i64 u603.Cwd.Ino, .string u603.Comm, .string u603.Exe, .slice p611 u603.Open.length c612, .bool u603.Audited]) E609 rfl Try.underlying38 rfl ti38 rfl hq606 hc610 rfl rfl) rfl fun a613 E614 => ?_
      clear E609
      obtain ⟨y615, hy616, h577⟩ := bs h577
      refine wa_only (i := 7) rfl (by kernel_rfl) (by kernel_rfl) (wl_fun E614 H rfl (rn_call (args := [.agg #[.int .i64 u603.PID, .int .i64 u603.PPID, .int .i64 u603.UID, .int .i64 u603.EUID, .int .i64 u603.GID, .int .i64 u603.EGID, .int .i64 u603.AUID, .int .i64 u603.Session, .int .i64 u603.Cwd.Dev, .int .i64 u603.Cwd.Ino, .string u603.Comm, .string u603.Exe, .slice p611 u603.Open.length c612, .bool u603.Audited]]) E614 rfl rfl rfl Try.func33 nm33 rfl) rfl (by exact fun Z hA => ⟨(argHolds_get hA (k := 1) rfl), trivial⟩) (C33 u603 p611 c612 _ _ hy616) ?_)
      rintro v_ A_ N_ w622 a620 ⟨p617, c618, rfl, rfl, rfl⟩ E621 H'
      replace H := H'; clear H' E614
      refine ⟨fun _ => ⟨H.get (i := 2) (k := 0) rfl rfl, trivial⟩, ?_⟩
      refine wa_only (i := 8) rfl (by kernel_rfl) (by kernel_rfl) (wl_buildSlice (ps := [(0, .agg #[.int .i64 y615.PID, .int .i64 y615.PPID, .int .i64 y615.UID, .int .i64 y615.EUID, .int .i64 y615.GID, .int .i64 y615.EGID, .int .i64 y615.AUID, .int .i64 y615.Session, .int .i64 y615.Cwd.Dev, .int .i64 y615.Cwd.Ino, .string y615.Comm, .string y615.Exe, .slice p617 y615.Open.length c618, .bool y615.Audited])]) (cs := [.int .i64 y615.PID, .int .i64 y615.PPID, .int .i64 y615.UID, .int .i64 y615.EUID, .int .i64 y615.GID, .int .i64 y615.EGID, .int .i64 y615.AUID, .int .i64 y615.Session, .int .i64 y615.Cwd.Dev, .int .i64 y615.Cwd.Ino, .string y615.Comm, .string y615.Exe, .slice p617 y615.Open.length c618, .bool y615.Audited]) E621 H rfl Try.underlying26 ti38 rfl rfl (by kernel_rfl) rfl fun g623 w624 a625 E626 H' => ?_)
      clear H E621; have H := H'; clear H'
      refine ⟨fun _ => ⟨H.get (i := 2) (k := 0) rfl rfl, trivial⟩, ?_⟩
      replace H := H.share (i := 4) (A' := [vw (kSlice 81 k_api_Descriptor) y615.Open [.slice p617 y615.Open.length c618]]) (by intro b h; exact h) rfl (fun Z S1 h => ⟨rowH.read h.1, trivial⟩)
      obtain ⟨hc627, h577⟩ := ck_out h577
      refine wa_only (i := 9) rfl (by kernel_rfl) (by kernel_rfl) (wl_append (i := 3) (K := k_api_Process) (xs := x568) (ys := [y615]) E626 H rfl rfl rfl rfl Try.underlying26 Try.underlying26 ti38 rfl (by decide) hc627 rfl (fun Z S hA hL => srcOf_cells (c := 1) (news := [.int .i64 y615.PID, .int .i64 y615.PPID, .int .i64 y615.UID, .int .i64 y615.EUID, .int .i64 y615.GID, .int .i64 y615.EGID, .int .i64 y615.AUID, .int .i64 y615.Session, .int .i64 y615.Cwd.Dev, .int .i64 y615.Cwd.Ino, .string y615.Comm, .string y615.Exe, .slice p617 y615.Open.length c618, .bool y615.Audited]) (ys := [y615]) (⟨[.int .i64 y615.PID, .int .i64 y615.PPID, .int .i64 y615.UID, .int .i64 y615.EUID, .int .i64 y615.GID, .int .i64 y615.EGID, .int .i64 y615.AUID, .int .i64 y615.Session, .int .i64 y615.Cwd.Dev, .int .i64 y615.Cwd.Ino, .string y615.Comm, .string y615.Exe, .slice p617 y615.Open.length c618, .bool y615.Audited], _, rfl, (k_api_Process_shuts (x := y615) (t := (p617, c618)) ⟨(argHolds_get hA (k := 2) rfl), trivial⟩), rfl⟩) (by intro j u hu; rw [Nat.zero_add]; exact blk_cell (H.get (i := 5) (k := 0) rfl rfl) hu)) fun p628 c629 w630 a631 E632 H' => ?_)
      clear H E626; have H := H'; clear H'
      replace H : St w Nil Z w630 [vw (kSlice 38 k_api_Process) a0.Processes [.slice p325 a0.Processes.length c326], vw (kSlice 81 k_api_Descriptor) u603.Open [.slice p611 u603.Open.length c612], vw (kSlice 81 k_api_Descriptor) y615.Open [.slice p617 y615.Open.length c618]] [[blk g330 [.int .i64 a0.Next, .int .i64 a0.NextSession, .slice p325 a0.Processes.length c326] 28], [blk g334 [.int .i64 0, .int .i64 0, .slice none 0 0] 28], [blk g349 [.int .i64 a0.Next, .int .i64 a0.NextSession, .slice p569 x568.length c570] 28], [row 38 k_api_Process (x568 ++ [y615]) (.slice p628 ((x568 ++ [y615]).length) c629)], [], [blk g623 [.int .i64 y615.PID, .int .i64 y615.PPID, .int .i64 y615.UID, .int .i64 y615.EUID, .int .i64 y615.GID, .int .i64 y615.EGID, .int .i64 y615.AUID, .int .i64 y615.Session, .int .i64 y615.Cwd.Dev, .int .i64 y615.Cwd.Ino, .string y615.Comm, .string y615.Exe, .slice p617 y615.Open.length c618, .bool y615.Audited] 38]] := H
      refine ⟨fun h_ => (needs_no (by kernel_rfl) h_).elim, ?_⟩
      refine wa_take (i := 10) E632 rfl (by kernel_rfl) (panic_block (panic_then (panic_then (panic_block (panic_then panic_body))))) rfl (fun w_ => rn_fieldAddr E632 rfl Try.underlying28 rfl ti26 rfl rfl) rfl fun a634 E635 => ?_
      clear E632
      refine wa_only (i := 11) rfl (by kernel_rfl) (by kernel_rfl) (wl_store (i := 2) (vs := [.slice p628 ((x568 ++ [y615]).length) c629]) (cs' := [.int .i64 a0.Next, .int .i64 a0.NextSession, .slice p628 ((x568 ++ [y615]).length) c629]) E635 H rfl rfl rfl rfl ti26 rfl rfl rfl rfl rfl rfl fun w638 a636 E637 H' => ?_)
      clear H E635; have H := H'; clear H'
      refine ⟨fun h_ => (needs_no (by kernel_rfl) h_).elim, ?_⟩
      refine wa_done (by kernel_rfl) ?_
      refine block_normal ?_
      refine then_normal (hK591 _ _ ?_)
      refine wp_region_lit ?_
      refine wl_cons (wl_val E637 rfl (rn_move E637 rfl rfl) rfl fun a639 E640 => ?_)
      clear E637
      refine wl_cons (wl_val E640 rfl (rn_int E640 rfl rfl rfl rfl) rfl fun a641 E642 => ?_)
      clear E640
      refine wl_cons (wl_val E642 rfl (rn_assign E642 rfl rfl) rfl fun a643 E644 => ?_)
      clear E642
      refine wl_nil ?_
      replace H : St w Nil Z w638 [vw (kSlice 38 k_api_Process) a0.Processes [.slice p325 a0.Processes.length c326], vw (kSlice 81 k_api_Descriptor) u603.Open [.slice p611 u603.Open.length c612], vw (kSlice 81 k_api_Descriptor) y615.Open [.slice p617 y615.Open.length c618]] ([[blk g330 [.int .i64 a0.Next, .int .i64 a0.NextSession, .slice p325 a0.Processes.length c326] 28], [blk g334 [.int .i64 0, .int .i64 0, .slice none 0 0] 28], [blk g349 [.int .i64 a0.Next, .int .i64 a0.NextSession, .slice p628 ((x568 ++ [y615]).length) c629] 28], [row 38 k_api_Process (x568 ++ [y615]) (.slice p628 ((x568 ++ [y615]).length) c629)]] ++ [[], [blk g623 [.int .i64 y615.PID, .int .i64 y615.PPID, .int .i64 y615.UID, .int .i64 y615.EUID, .int .i64 y615.GID, .int .i64 y615.EGID, .int .i64 y615.AUID, .int .i64 y615.Session, .int .i64 y615.Cwd.Dev, .int .i64 y615.Cwd.Ino, .string y615.Comm, .string y615.Exe, .slice p617 y615.Open.length c618, .bool y615.Audited] 38]]) := H
      exact ⟨(IntKind.wrap .i64 (x567 + 1)), (x568 ++ [y615]), p628, c629, E644.pick ⟨rfl, rfl, rfl, rfl, rfl, rfl, rfl, rfl, rfl, rfl, trivial⟩, H.front.sel (fun Z hA => ⟨(argHolds_get hA (k := 0) rfl), trivial⟩), h577⟩
    · replace h577 := itF hb590 h577
      refine wc_F E589 rfl hb590 ?_
      refine wp_exit ?_
      obtain rfl := Option.some.inj h577
      try dsimp only at h
      refine then_exit (then_exit (block_exit (?_)))
      refine then_normal (hK356 _ _ ?_)
      refine wp_seq_k fun _ hK645 => ?_
      refine wp_region_lit ?_
      refine wl_cons (wl_val E589 rfl (rn_ldN (i := 2) [.int .i64 a0.Next, .int .i64 a0.NextSession, .slice p569 x568.length c570] E589 H rfl Try.underlying28 rfl ti28 rfl rfl rfl rfl) rfl fun a646 E647 => ?_)
      clear E589
      refine wl_cons (wl_store (i := 1) (vs := [.int .i64 a0.Next, .int .i64 a0.NextSession, .slice p569 x568.length c570]) (cs' := [.int .i64 a0.Next, .int .i64 a0.NextSession, .slice p569 x568.length c570]) E647 H rfl rfl rfl rfl ti28 rfl rfl rfl rfl rfl rfl fun w650 a648 E649 H' => ?_)
      clear H E647; have H := H'; clear H'
      replace H : St w Nil Z w650 [vw (kSlice 38 k_api_Process) a0.Processes [.slice p325 a0.Processes.length c326]] [[blk g330 [.int .i64 a0.Next, .int .i64 a0.NextSession, .slice p325 a0.Processes.length c326] 28], [blk g334 [.int .i64 a0.Next, .int .i64 a0.NextSession, .slice p569 x568.length c570] 28], [blk g349 [.int .i64 a0.Next, .int .i64 a0.NextSession, .slice p569 x568.length c570] 28], [row 38 k_api_Process x568 (.slice p569 x568.length c570)]] := H
      refine wl_nil ?_
      refine then_normal (hK645 _ _ ?_)
      refine wp_ret ?_
      refine ?_
      obtain rfl := Option.some.inj h
      replace H : St w Nil Z w650 [vw (kSlice 38 k_api_Process) a0.Processes [.slice p325 a0.Processes.length c326]] [[blk g330 [.int .i64 a0.Next, .int .i64 a0.NextSession, .slice p325 a0.Processes.length c326] 28], [blk g334 [.int .i64 a0.Next, .int .i64 a0.NextSession, .slice p569 x568.length c570] 28], [blk g349 [.int .i64 a0.Next, .int .i64 a0.NextSession, .slice p569 x568.length c570] 28], [row 38 k_api_Process x568 (.slice p569 x568.length c570)]] := H
      refine wb_ret1 E649 rfl (rv_cellN (cs := [.int .i64 a0.Next, .int .i64 a0.NextSession, .slice p569 x568.length c570]) E649 rfl Try.underlying28 rfl ti28 (H.get (i := 1) (k := 0) rfl rfl) rfl) ?_
      exact ⟨_, rfl, [], [[row 38 k_api_Process x568 (.slice p569 x568.length c570)]], ⟨_, _, rfl, rfl, rfl⟩, H.leave (fun Z hA => trivial) (fun Z S hA hL => Holds_sub (.cons _ (.cons _ (.cons _ (.cons_cons _ .slnil)))) hL)⟩
end Go.Proofs.Ytanimjbmkhpnaaa.Gx
