/- Function 54, kaudit/own.Table: what it answers as a plain function, and that the Go code comes to exactly that (where the plain function gives an answer). -/
import Derived.Test.YtanimjbmkhpnaaaXT
import Derived.Test.YtanimjbmkhpnaaaX32
set_option linter.unusedVariables false
set_option linter.unusedSimpArgs false
namespace Go.Proofs.Ytanimjbmkhpnaaa.Gx
open Go.Gx Go.RowKit
/-! ### kaudit/own.Table: function 54 -/
def f_own_Table_l1 (a0 : api_Table) : Nat → Int → List api_Process → Option (List api_Process)
  | 0, _, _ => none
  | k_ + 1, x491, x492 => if (decide (x491 < (a0.Processes.length : Int))) = true then ((at_ a0.Processes x491).bind fun u511 => (f_own_Process u511).bind fun y540 => (at_ x492 x491).bind fun u548 => f_own_Table_l1 a0 k_ (IntKind.wrap .i64 (x491 + 1)) (x492.set x491.toNat y540)) else (some (x492))
def f_own_Table (a0 : api_Table) : Option (api_Table) := if ((a0.Processes.length : Int) == 0) = true then (some ((⟨a0.Next, a0.NextSession, []⟩ : api_Table))) else (ck (makes (a0.Processes.length : Int) 144 = true) ((f_own_Table_l1 a0 (((((a0.Processes.length : Int) : Int) - (0)).toNat + 1)) 0 (List.replicate (a0.Processes.length : Int).toNat (⟨0, 0, 0, 0, 0, 0, 0, 0, (⟨0, 0⟩ : api_File), (⟨#[]⟩ : ByteArray), (⟨#[]⟩ : ByteArray), ([] : List api_Descriptor), false⟩ : api_Process))).bind fun x492 => some ((⟨a0.Next, a0.NextSession, x492⟩ : api_Table))))
set_option maxHeartbeats 4000000 in
set_option maxRecDepth 100000 in
theorem C54 (a0 : api_Table) (p291 : Option Addr) (c292 : Nat) (r : api_Table) (w : World) (h : f_own_Table a0 = some r) : Fun Try.prog 54 #[.agg #[.int .i64 a0.Next, .int .i64 a0.NextSession, .slice p291 a0.Processes.length c292]] w [vw (kSlice 38 k_api_Process) a0.Processes [.slice p291 a0.Processes.length c292]] (fun (v_ : Value) (A_ : List VP) (N_ : List (List SP)) => ∃ (p293 : Option Addr) (c294 : Nat), v_ = .agg #[.int .i64 r.Next, .int .i64 r.NextSession, .slice p293 r.Processes.length c294] ∧ A_ = [] ∧ N_ = [[row 38 k_api_Process r.Processes (.slice p293 r.Processes.length c294)]]) := by
  unfold f_own_Table at h
  refine fun_begin (args := [.agg #[.int .i64 a0.Next, .int .i64 a0.NextSession, .slice p291 a0.Processes.length c292]]) Try.func54 rfl Try.ntmps54 rfl fun Z a E H => ?_
  refine wp_seq_k fun _ hK295 => ?_
  refine wp_region_lit ?_
  refine wl_cons (wl_box (T := 28) (cs := [.int .i64 a0.Next, .int .i64 a0.NextSession, .slice p291 a0.Processes.length c292]) E H rfl rfl rfl rfl fun g296 w297 a298 E299 H' => ?_)
  clear H E; have H := H'; clear H'
  refine wl_cons (wl_alloc (cs := [.int .i64 0, .int .i64 0, .slice none 0 0]) E299 H rfl ti28 rfl rfl fun g300 w301 a302 E303 H' => ?_)
  clear H E299; have H := H'; clear H'
  refine wl_nil ?_
  refine then_normal (hK295 _ _ ?_)
  refine wp_seq_k fun _ hK304 => ?_
  refine wp_region_lit ?_
  refine wl_cons (wl_val E303 rfl (rn_fieldAddr E303 rfl Try.underlying28 rfl ti26 rfl rfl) rfl fun a305 E306 => ?_)
  clear E303
  refine wl_cons (wl_val E306 rfl (rn_ld1 (i := 0) E306 H rfl Try.underlying26 rfl rfl rfl rfl) rfl fun a307 E308 => ?_)
  clear E306
  refine wl_cons (wl_in rfl (rn_callC (args := [.slice p291 a0.Processes.length c292, .func (.func 32) #[] #[]]) (cap := []) (all := [.slice p291 a0.Processes.length c292, .func (.func 32) #[] #[]]) E308 rfl rfl rfl Try.func69 nm69 rfl rfl) Try.func69 rfl fun a309 he310 => ?_)
  have E311 : Env 29 a309 (enumA 0 [.slice p291 a0.Processes.length c292, .func (.func 32) #[] #[]]) := he310 ▸ Env.init Try.ntmps69 rfl
  clear he310
  refine wp_seq_k fun _ hK312 => ?_
  refine wp_region_lit ?_
  refine wl_cons (wl_val E311 rfl (rn_assign E311 rfl rfl) rfl fun a313 E314 => ?_)
  clear E311
  refine wl_nil ?_
  refine then_normal (hK312 _ _ ?_)
  refine wp_seq_k fun _ hK315 => ?_
  refine wp_seq_k fun _ hK316 => ?_
  refine wp_region_lit ?_
  refine wl_cons (wl_val E314 rfl (rn_move E314 rfl rfl) rfl fun a317 E318 => ?_)
  clear E314
  refine wl_cons (wl_val E318 rfl (rn_len E318 rfl Try.underlying26 rfl) rfl fun a319 E320 => ?_)
  clear E318
  refine wl_cons (wl_val E320 rfl (rn_int E320 rfl rfl rfl rfl) rfl fun a321 E322 => ?_)
  clear E320
  refine wl_nil ?_
  refine then_normal (hK316 _ _ ?_)
  rcases Bool.eq_false_or_eq_true ((a0.Processes.length : Int) == 0) with hb323 | hb323
  · replace h := itT hb323 h
    refine wc_T E322 rfl hb323 ?_
    refine wp_seq_k fun _ hK324 => ?_
    refine wp_region_lit ?_
    refine wl_cons (wl_val E322 rfl (rn_assign E322 rfl rfl) rfl fun a325 E326 => ?_)
    clear E322
    refine wl_nil ?_
    refine then_normal (hK324 _ _ ?_)
    refine wp_ret ?_
    refine then_ret (?_)
    refine wb_ret1 E326 rfl (rv_tmp E326 rfl) ⟨_, rfl, ?_⟩
    have E327 := Env.put E308 (d := 5) rfl (.slice none 0 0)
    generalize hae : Act.put _ (some 5) _ = a328 at E327 ⊢; clear hae
    refine wl_cons (wl_val E327 rfl (rn_fieldAddr E327 rfl Try.underlying28 rfl ti26 rfl rfl) rfl fun a329 E330 => ?_)
    clear E327
    refine wl_cons (wl_store (i := 0) (vs := [.slice none 0 0]) (cs' := [.int .i64 a0.Next, .int .i64 a0.NextSession, .slice none 0 0]) E330 H rfl rfl rfl rfl ti26 rfl rfl rfl rfl rfl rfl fun w333 a331 E332 H' => ?_)
    clear H E330; have H := H'; clear H'
    replace H : St w Nil Z w333 [vw (kSlice 38 k_api_Process) a0.Processes [.slice p291 a0.Processes.length c292]] [[blk g296 [.int .i64 a0.Next, .int .i64 a0.NextSession, .slice none 0 0] 28], [blk g300 [.int .i64 0, .int .i64 0, .slice none 0 0] 28]] := H
    refine wl_nil ?_
    refine then_normal (hK304 _ _ ?_)
    refine wp_seq_k fun _ hK334 => ?_
    refine wp_region_lit ?_
    refine wl_cons (wl_val E332 rfl (rn_ldN (i := 0) [.int .i64 a0.Next, .int .i64 a0.NextSession, .slice none 0 0] E332 H rfl Try.underlying28 rfl ti28 rfl rfl rfl rfl) rfl fun a335 E336 => ?_)
    clear E332
    refine wl_cons (wl_store (i := 1) (vs := [.int .i64 a0.Next, .int .i64 a0.NextSession, .slice none 0 0]) (cs' := [.int .i64 a0.Next, .int .i64 a0.NextSession, .slice none 0 0]) E336 H rfl rfl rfl rfl ti28 rfl rfl rfl rfl rfl rfl fun w339 a337 E338 H' => ?_)
    clear H E336; have H := H'; clear H'
    refine wl_nil ?_
    refine then_normal (hK334 _ _ ?_)
    refine wp_ret ?_
    refine ?_
    obtain rfl := Option.some.inj h
    replace H := H.nilRow 38 k_api_Process
    replace H : St w Nil Z w339 [vw (kSlice 38 k_api_Process) a0.Processes [.slice p291 a0.Processes.length c292]] [[blk g296 [.int .i64 a0.Next, .int .i64 a0.NextSession, .slice none 0 0] 28], [blk g300 [.int .i64 a0.Next, .int .i64 a0.NextSession, .slice none 0 0] 28], [row 38 k_api_Process ([] : List api_Process) (.slice none 0 0)]] := H
    refine wb_ret1 E338 rfl (rv_cellN (cs := [.int .i64 a0.Next, .int .i64 a0.NextSession, .slice none 0 0]) E338 rfl Try.underlying28 rfl ti28 (H.get (i := 1) (k := 0) rfl rfl) rfl) ?_
    exact ⟨_, rfl, [], [[row 38 k_api_Process ([] : List api_Process) (.slice none 0 0)]], ⟨_, _, rfl, rfl, rfl⟩, H.leave (fun Z hA => trivial) (fun Z S hA hL => Holds_sub (.cons _ (.cons _ (.cons_cons _ .slnil))) hL)⟩
  · replace h := itF hb323 h
    refine wc_F E322 rfl hb323 ?_
    refine wp_skip ?_
    refine then_normal (hK315 _ _ ?_)
    refine wp_seq_k fun _ hK340 => ?_
    refine wp_region_lit ?_
    refine wl_cons (wl_val E322 rfl (rn_move E322 rfl rfl) rfl fun a341 E342 => ?_)
    clear E322
    refine wl_cons (wl_val E342 rfl (rn_len E342 rfl Try.underlying26 rfl) rfl fun a343 E344 => ?_)
    clear E342
    obtain ⟨hc345, h⟩ := ck_out h
    refine wl_cons (wl_make (K := k_api_Process) (z0 := (⟨0, 0, 0, 0, 0, 0, 0, 0, (⟨0, 0⟩ : api_File), (⟨#[]⟩ : ByteArray), (⟨#[]⟩ : ByteArray), ([] : List api_Descriptor), false⟩ : api_Process)) (zc := [.int .i64 0, .int .i64 0, .int .i64 0, .int .i64 0, .int .i64 0, .int .i64 0, .int .i64 0, .int .i64 0, .int .i64 0, .int .i64 0, .string (⟨#[]⟩ : ByteArray), .string (⟨#[]⟩ : ByteArray), .slice none 0 0, .bool false]) E344 H rfl Try.underlying26 ti38 rfl rfl hc345 rfl rfl (fun w Z => k_api_Process_shuts (x := (⟨0, 0, 0, 0, 0, 0, 0, 0, (⟨0, 0⟩ : api_File), (⟨#[]⟩ : ByteArray), (⟨#[]⟩ : ByteArray), ([] : List api_Descriptor), false⟩ : api_Process)) (t := (none, 0)) ⟨(nil_view 81 k_api_Descriptor _ _), trivial⟩) rfl fun g346 w347 a348 E349 H' => ?_)
    clear H E344; have H := H'; clear H'
    replace H : St w Nil Z w347 [vw (kSlice 38 k_api_Process) a0.Processes [.slice p291 a0.Processes.length c292]] [[blk g296 [.int .i64 a0.Next, .int .i64 a0.NextSession, .slice p291 a0.Processes.length c292] 28], [blk g300 [.int .i64 0, .int .i64 0, .slice none 0 0] 28], [row 38 k_api_Process (List.replicate (a0.Processes.length : Int).toNat (⟨0, 0, 0, 0, 0, 0, 0, 0, (⟨0, 0⟩ : api_File), (⟨#[]⟩ : ByteArray), (⟨#[]⟩ : ByteArray), ([] : List api_Descriptor), false⟩ : api_Process)) (.slice (some ⟨g346, 0, none⟩) ((List.replicate (a0.Processes.length : Int).toNat (⟨0, 0, 0, 0, 0, 0, 0, 0, (⟨0, 0⟩ : api_File), (⟨#[]⟩ : ByteArray), (⟨#[]⟩ : ByteArray), ([] : List api_Descriptor), false⟩ : api_Process)).length) ((a0.Processes.length : Int).toNat))]] := H
    refine wl_cons (wl_val E349 rfl (rn_assign E349 rfl rfl) rfl fun a351 E352 => ?_)
    clear E349
    refine wl_nil ?_
    refine then_normal (hK340 _ _ ?_)
    refine wp_seq_k fun _ hK353 => ?_
    refine wp_seq_k fun _ hK354 => ?_
    refine wp_region_lit ?_
    refine wl_cons (wl_val E352 rfl (rn_move E352 rfl rfl) rfl fun a355 E356 => ?_)
    clear E352
    refine wl_cons (wl_val E356 rfl (rn_len E356 rfl Try.underlying26 rfl) rfl fun a357 E358 => ?_)
    clear E356
    refine wl_cons (wl_val E358 rfl (rn_move E358 rfl rfl) rfl fun a359 E360 => ?_)
    clear E358
    refine wl_nil ?_
    refine then_normal (hK354 _ _ ?_)
    refine wp_block ?_
    obtain ⟨o495, ho496, h⟩ := bs h
    refine wc_loop (fun k_ a_ w_ => ∃ (x491 : Int) (x492 : List api_Process) (p493 : Option Addr) (c494 : Nat), Env 29 a_ [(0, .slice p291 a0.Processes.length c292), (1, .func (.func 32) #[] #[]), (4, .slice none 0 0), (5, .slice p493 x492.length c494), (8, .slice p291 a0.Processes.length c292), (9, .int .i64 (a0.Processes.length : Int)), (10, .bool ((a0.Processes.length : Int) == 0)), (11, .slice p291 a0.Processes.length c292), (12, .int .i64 (a0.Processes.length : Int)), (13, .slice p493 x492.length c494), (14, .slice p291 a0.Processes.length c292), (15, .int .i64 (a0.Processes.length : Int)), (16, .int .i64 x491)] ∧ St w Nil Z w_ [vw (kSlice 38 k_api_Process) a0.Processes [.slice p291 a0.Processes.length c292]] [[blk g296 [.int .i64 a0.Next, .int .i64 a0.NextSession, .slice p291 a0.Processes.length c292] 28], [blk g300 [.int .i64 0, .int .i64 0, .slice none 0 0] 28], [row 38 k_api_Process x492 (.slice p493 x492.length c494)]] ∧ f_own_Table_l1 a0 k_ x491 x492 = some o495) (((((a0.Processes.length : Int) : Int) - (0)).toNat + 1)) ?_ ?_ ?_
    · exact ⟨0, (List.replicate (a0.Processes.length : Int).toNat (⟨0, 0, 0, 0, 0, 0, 0, 0, (⟨0, 0⟩ : api_File), (⟨#[]⟩ : ByteArray), (⟨#[]⟩ : ByteArray), ([] : List api_Descriptor), false⟩ : api_Process)), (some ⟨g346, 0, none⟩), ((a0.Processes.length : Int).toNat), E360.pick ⟨rfl, rfl, rfl, rfl, rfl, rfl, rfl, rfl, rfl, rfl, rfl, rfl, rfl, trivial⟩, H, ho496⟩
    · rintro _ _ ⟨_, _, _, _, _, _, h_⟩
      rw [f_own_Table_l1] at h_; cases h_
    · rintro k497 a498 w499 ⟨x491, x492, p493, c494, E500, H', h501⟩
      rw [f_own_Table_l1] at h501
      clear H; have H := H'; clear H'
      refine wp_seq_k fun _ hK502 => ?_
      refine wp_region_lit ?_
      refine wl_cons (wl_val E500 rfl (rn_int E500 rfl rfl rfl rfl) rfl fun a503 E504 => ?_)
      clear E500
      refine wl_nil ?_
      refine then_normal (hK502 _ _ ?_)
      refine wp_seq_k fun _ hK505 => ?_
      rcases Bool.eq_false_or_eq_true (decide (x491 < (a0.Processes.length : Int))) with hb506 | hb506
      · replace h501 := itT hb506 h501
        refine wc_T E504 rfl hb506 ?_
        refine wp_skip ?_
        refine then_normal (hK505 _ _ ?_)
        refine wp_seq_k fun _ hK507 => ?_
        refine wp_block ?_
        refine wp_seq_k fun _ hK508 => ?_
        refine wp_region_lit ?_
        refine wl_cons (wl_val E504 rfl (rn_move E504 rfl rfl) rfl fun a509 E510 => ?_)
        clear E504
        obtain ⟨u511, hy512, h501⟩ := bs h501
        obtain ⟨q513, hq514, hr515⟩ := rn_idx (K := k_api_Process) (P := Try.prog) (o := ⟨some 19, .indexAddr 26 (.tmp 14) (.tmp 16), 0, "", #[], none⟩) E510 rfl Try.underlying26 ti38 rfl rfl (H.readA (k := 0) rfl) hy512
        refine wl_cons (wl_val E510 rfl ((hr515 _)) rfl fun a516 E517 => ?_)
        clear E510
        obtain ⟨⟨p519, c520⟩, H', hc518⟩ := St.openA k_api_Process_opens H (k := 0) rfl hy512
        replace H := H'; clear H'
        refine wl_cons (wl_val E517 rfl (rn_loadIN (vs := [.int .i64 u511.PID, .int .i64 u511.PPID, .int .i64 u511.UID, .int .i64 u511.EUID, .int .i64 u511.GID, .int .i64 u511.EGID, .int .i64 u511.AUID, .int .i64 u511.Session, .int .i64 u511.Cwd.Dev, .int .i64 u511.Cwd.Ino, .string u511.Comm, .string u511.Exe, .slice p519 u511.Open.length c520, .bool u511.Audited]) E517 rfl Try.underlying38 rfl ti38 rfl hq514 hc518 rfl rfl) rfl fun a521 E522 => ?_)
        clear E517
        refine wl_cons (wl_alloc (cs := [.int .i64 0, .int .i64 0, .int .i64 0, .int .i64 0, .int .i64 0, .int .i64 0, .int .i64 0, .int .i64 0, .int .i64 0, .int .i64 0, .string (⟨#[]⟩ : ByteArray), .string (⟨#[]⟩ : ByteArray), .slice none 0 0, .bool false]) E522 H rfl ti38 rfl rfl fun g523 w524 a525 E526 H' => ?_)
        clear H E522; have H := H'; clear H'
        refine wl_cons (wl_val E526 rfl (rn_assign E526 rfl rfl) rfl fun a527 E528 => ?_)
        clear E526
        refine wl_cons (wl_store (i := 3) (vs := [.int .i64 u511.PID, .int .i64 u511.PPID, .int .i64 u511.UID, .int .i64 u511.EUID, .int .i64 u511.GID, .int .i64 u511.EGID, .int .i64 u511.AUID, .int .i64 u511.Session, .int .i64 u511.Cwd.Dev, .int .i64 u511.Cwd.Ino, .string u511.Comm, .string u511.Exe, .slice p519 u511.Open.length c520, .bool u511.Audited]) (cs' := [.int .i64 u511.PID, .int .i64 u511.PPID, .int .i64 u511.UID, .int .i64 u511.EUID, .int .i64 u511.GID, .int .i64 u511.EGID, .int .i64 u511.AUID, .int .i64 u511.Session, .int .i64 u511.Cwd.Dev, .int .i64 u511.Cwd.Ino, .string u511.Comm, .string u511.Exe, .slice p519 u511.Open.length c520, .bool u511.Audited]) E528 H rfl rfl rfl rfl ti38 rfl rfl rfl rfl rfl rfl fun w531 a529 E530 H' => ?_)
        clear H E528; have H := H'; clear H'
        replace H : St w Nil Z w531 [vw (kSlice 38 k_api_Process) a0.Processes [.slice p291 a0.Processes.length c292], vw (kSlice 81 k_api_Descriptor) u511.Open [.slice p519 u511.Open.length c520]] [[blk g296 [.int .i64 a0.Next, .int .i64 a0.NextSession, .slice p291 a0.Processes.length c292] 28], [blk g300 [.int .i64 0, .int .i64 0, .slice none 0 0] 28], [row 38 k_api_Process x492 (.slice p493 x492.length c494)], [blk g523 [.int .i64 u511.PID, .int .i64 u511.PPID, .int .i64 u511.UID, .int .i64 u511.EUID, .int .i64 u511.GID, .int .i64 u511.EGID, .int .i64 u511.AUID, .int .i64 u511.Session, .int .i64 u511.Cwd.Dev, .int .i64 u511.Cwd.Ino, .string u511.Comm, .string u511.Exe, .slice p519 u511.Open.length c520, .bool u511.Audited] 38]] := H
        refine wl_nil ?_
        refine then_normal (hK508 _ _ ?_)
        refine wp_region_lit ?_
        refine wl_cons (wl_val E530 rfl (rn_move E530 rfl rfl) rfl fun a532 E533 => ?_)
        clear E530
        refine wl_cons (wl_val E533 rfl (rn_move E533 rfl rfl) rfl fun a534 E535 => ?_)
        clear E533
        refine wl_cons (wl_val E535 rfl (rn_move E535 rfl rfl) rfl fun a536 E537 => ?_)
        clear E535
        refine wl_cons (wl_val E537 rfl (rn_ldN (i := 3) [.int .i64 u511.PID, .int .i64 u511.PPID, .int .i64 u511.UID, .int .i64 u511.EUID, .int .i64 u511.GID, .int .i64 u511.EGID, .int .i64 u511.AUID, .int .i64 u511.Session, .int .i64 u511.Cwd.Dev, .int .i64 u511.Cwd.Ino, .string u511.Comm, .string u511.Exe, .slice p519 u511.Open.length c520, .bool u511.Audited] E537 H rfl Try.underlying38 rfl ti38 rfl rfl rfl rfl) rfl fun a538 E539 => ?_)
        clear E537
        obtain ⟨y540, hy541, h501⟩ := bs h501
        refine wl_cons (wl_fun E539 H rfl (rn_call (args := [.agg #[.int .i64 u511.PID, .int .i64 u511.PPID, .int .i64 u511.UID, .int .i64 u511.EUID, .int .i64 u511.GID, .int .i64 u511.EGID, .int .i64 u511.AUID, .int .i64 u511.Session, .int .i64 u511.Cwd.Dev, .int .i64 u511.Cwd.Ino, .string u511.Comm, .string u511.Exe, .slice p519 u511.Open.length c520, .bool u511.Audited]]) E539 rfl rfl rfl Try.func32 nm32 rfl) rfl (by exact fun Z hA => ⟨(argHolds_get hA (k := 1) rfl), trivial⟩) (C32 u511 p519 c520 _ _ hy541) ?_)
        rintro v_ A_ N_ w547 a545 ⟨p542, c543, rfl, rfl, rfl⟩ E546 H'
        replace H := H'; clear H' E539
        obtain ⟨u548, hy549, h501⟩ := bs h501
        obtain ⟨q550, hq551, hr552⟩ := rn_idx (K := k_api_Process) (P := Try.prog) (o := ⟨some 26, .indexAddr 26 (.tmp 21) (.tmp 22), 0, "", #[], none⟩) E546 rfl Try.underlying26 ti38 rfl rfl (H.readL (i := 2) rfl) hy549
        refine wl_cons (wl_val E546 rfl ((hr552 _)) rfl fun a553 E554 => ?_)
        clear E546
        replace H := H.share (i := 4) (A' := [vw (kSlice 81 k_api_Descriptor) y540.Open [.slice p542 y540.Open.length c543]]) (by intro b h; exact h) rfl (fun Z S1 h => ⟨rowH.read h.1, trivial⟩)
        refine wl_cons (wl_storeI (k := 2) (vs := [.int .i64 y540.PID, .int .i64 y540.PPID, .int .i64 y540.UID, .int .i64 y540.EUID, .int .i64 y540.GID, .int .i64 y540.EGID, .int .i64 y540.AUID, .int .i64 y540.Session, .int .i64 y540.Cwd.Dev, .int .i64 y540.Cwd.Ino, .string y540.Comm, .string y540.Exe, .slice p542 y540.Open.length c543, .bool y540.Audited]) (u' := y540) E554 H rfl rfl rfl rfl hq551 hy549 ti38 rfl rfl rfl (by decide) (fun Z cs hA hR => by obtain ⟨⟨p555, c556⟩, rfl, hB⟩ := k_api_Process_opens hR; exact k_api_Process_shuts (x := y540) (t := (p542, c543)) ⟨(argHolds_get hA (k := 2) rfl), trivial⟩) rfl fun w559 a557 E558 H' => ?_)
        clear H E554; have H := H'; clear H'
        have hl560 : (x492.set x491.toNat y540).length = x492.length := by first | exact List.length_set | (simp only [List.length_set])
        replace H : St w Nil Z w559 [vw (kSlice 38 k_api_Process) a0.Processes [.slice p291 a0.Processes.length c292], vw (kSlice 81 k_api_Descriptor) u511.Open [.slice p519 u511.Open.length c520], vw (kSlice 81 k_api_Descriptor) y540.Open [.slice p542 y540.Open.length c543]] [[blk g296 [.int .i64 a0.Next, .int .i64 a0.NextSession, .slice p291 a0.Processes.length c292] 28], [blk g300 [.int .i64 0, .int .i64 0, .slice none 0 0] 28], [row 38 k_api_Process (x492.set x491.toNat y540) (.slice p493 ((x492.set x491.toNat y540).length) c494)], [blk g523 [.int .i64 u511.PID, .int .i64 u511.PPID, .int .i64 u511.UID, .int .i64 u511.EUID, .int .i64 u511.GID, .int .i64 u511.EGID, .int .i64 u511.AUID, .int .i64 u511.Session, .int .i64 u511.Cwd.Dev, .int .i64 u511.Cwd.Ino, .string u511.Comm, .string u511.Exe, .slice p519 u511.Open.length c520, .bool u511.Audited] 38], []] := by rw [hl560]; exact H
        replace E558 : Env 29 a557 [(0, .slice p291 a0.Processes.length c292), (1, .func (.func 32) #[] #[]), (4, .slice none 0 0), (8, .slice p291 a0.Processes.length c292), (9, .int .i64 (a0.Processes.length : Int)), (10, .bool ((a0.Processes.length : Int) == 0)), (11, .slice p291 a0.Processes.length c292), (12, .int .i64 (a0.Processes.length : Int)), (13, .slice p493 ((x492.set x491.toNat y540).length) c494), (5, .slice p493 ((x492.set x491.toNat y540).length) c494), (14, .slice p291 a0.Processes.length c292), (15, .int .i64 (a0.Processes.length : Int)), (16, .int .i64 x491), (17, .bool (decide (x491 < (a0.Processes.length : Int)))), (18, .int .i64 x491), (19, .pointer (some q513)), (20, .agg #[.int .i64 u511.PID, .int .i64 u511.PPID, .int .i64 u511.UID, .int .i64 u511.EUID, .int .i64 u511.GID, .int .i64 u511.EGID, .int .i64 u511.AUID, .int .i64 u511.Session, .int .i64 u511.Cwd.Dev, .int .i64 u511.Cwd.Ino, .string u511.Comm, .string u511.Exe, .slice p519 u511.Open.length c520, .bool u511.Audited]), (7, .pointer (some ⟨g523, 0, none⟩)), (6, .int .i64 x491), (21, .slice p493 ((x492.set x491.toNat y540).length) c494), (22, .int .i64 x491), (23, .func (.func 32) #[] #[]), (24, .agg #[.int .i64 u511.PID, .int .i64 u511.PPID, .int .i64 u511.UID, .int .i64 u511.EUID, .int .i64 u511.GID, .int .i64 u511.EGID, .int .i64 u511.AUID, .int .i64 u511.Session, .int .i64 u511.Cwd.Dev, .int .i64 u511.Cwd.Ino, .string u511.Comm, .string u511.Exe, .slice p519 u511.Open.length c520, .bool u511.Audited]), (25, .agg #[.int .i64 y540.PID, .int .i64 y540.PPID, .int .i64 y540.UID, .int .i64 y540.EUID, .int .i64 y540.GID, .int .i64 y540.EGID, .int .i64 y540.AUID, .int .i64 y540.Session, .int .i64 y540.Cwd.Dev, .int .i64 y540.Cwd.Ino, .string y540.Comm, .string y540.Exe, .slice p542 y540.Open.length c543, .bool y540.Audited]), (26, .pointer (some q550))] := by rw [hl560]; exact E558.pick ⟨rfl, rfl, rfl, rfl, rfl, rfl, rfl, rfl, rfl, rfl, rfl, rfl, rfl, rfl, rfl, rfl, rfl, rfl, rfl, rfl, rfl, rfl, rfl, rfl, rfl, trivial⟩
        clear hl560
        refine wl_nil ?_
        refine block_normal ?_
        refine then_normal (hK507 _ _ ?_)
        refine wp_region_lit ?_
        refine wl_cons (wl_val E558 rfl (rn_int E558 rfl rfl rfl rfl) rfl fun a561 E562 => ?_)
        clear E558
        refine wl_cons (wl_val E562 rfl (rn_move E562 rfl rfl) rfl fun a563 E564 => ?_)
        clear E562
        refine wl_nil ?_
        replace H : St w Nil Z w559 [vw (kSlice 38 k_api_Process) a0.Processes [.slice p291 a0.Processes.length c292], vw (kSlice 81 k_api_Descriptor) u511.Open [.slice p519 u511.Open.length c520], vw (kSlice 81 k_api_Descriptor) y540.Open [.slice p542 y540.Open.length c543]] ([[blk g296 [.int .i64 a0.Next, .int .i64 a0.NextSession, .slice p291 a0.Processes.length c292] 28], [blk g300 [.int .i64 0, .int .i64 0, .slice none 0 0] 28], [row 38 k_api_Process (x492.set x491.toNat y540) (.slice p493 ((x492.set x491.toNat y540).length) c494)]] ++ [[blk g523 [.int .i64 u511.PID, .int .i64 u511.PPID, .int .i64 u511.UID, .int .i64 u511.EUID, .int .i64 u511.GID, .int .i64 u511.EGID, .int .i64 u511.AUID, .int .i64 u511.Session, .int .i64 u511.Cwd.Dev, .int .i64 u511.Cwd.Ino, .string u511.Comm, .string u511.Exe, .slice p519 u511.Open.length c520, .bool u511.Audited] 38], []]) := H
        exact ⟨(IntKind.wrap .i64 (x491 + 1)), (x492.set x491.toNat y540), p493, c494, E564.pick ⟨rfl, rfl, rfl, rfl, rfl, rfl, rfl, rfl, rfl, rfl, rfl, rfl, rfl, trivial⟩, H.front.sel (fun Z hA => ⟨(argHolds_get hA (k := 0) rfl), trivial⟩), h501⟩
      · replace h501 := itF hb506 h501
        refine wc_F E504 rfl hb506 ?_
        refine wp_exit ?_
        obtain rfl := Option.some.inj h501
        try dsimp only at h
        refine then_exit (then_exit (block_exit (?_)))
        refine then_normal (hK353 _ _ ?_)
        refine wp_seq_k fun _ hK565 => ?_
        refine wp_region_lit ?_
        refine wl_cons (wl_val E504 rfl (rn_move E504 rfl rfl) rfl fun a566 E567 => ?_)
        clear E504
        refine wl_cons (wl_val E567 rfl (rn_assign E567 rfl rfl) rfl fun a568 E569 => ?_)
        clear E567
        refine wl_nil ?_
        refine then_normal (hK565 _ _ ?_)
        refine wp_ret ?_
        refine ?_
        refine wb_ret1 E569 rfl (rv_tmp E569 rfl) ⟨_, rfl, ?_⟩
        have E570 := Env.put E308 (d := 5) rfl (.slice p493 x492.length c494)
        generalize hae : Act.put _ (some 5) _ = a571 at E570 ⊢; clear hae
        refine wl_cons (wl_val E570 rfl (rn_fieldAddr E570 rfl Try.underlying28 rfl ti26 rfl rfl) rfl fun a572 E573 => ?_)
        clear E570
        refine wl_cons (wl_store (i := 0) (vs := [.slice p493 x492.length c494]) (cs' := [.int .i64 a0.Next, .int .i64 a0.NextSession, .slice p493 x492.length c494]) E573 H rfl rfl rfl rfl ti26 rfl rfl rfl rfl rfl rfl fun w576 a574 E575 H' => ?_)
        clear H E573; have H := H'; clear H'
        refine wl_nil ?_
        refine then_normal (hK304 _ _ ?_)
        refine wp_seq_k fun _ hK577 => ?_
        refine wp_region_lit ?_
        refine wl_cons (wl_val E575 rfl (rn_ldN (i := 0) [.int .i64 a0.Next, .int .i64 a0.NextSession, .slice p493 x492.length c494] E575 H rfl Try.underlying28 rfl ti28 rfl rfl rfl rfl) rfl fun a578 E579 => ?_)
        clear E575
        refine wl_cons (wl_store (i := 1) (vs := [.int .i64 a0.Next, .int .i64 a0.NextSession, .slice p493 x492.length c494]) (cs' := [.int .i64 a0.Next, .int .i64 a0.NextSession, .slice p493 x492.length c494]) E579 H rfl rfl rfl rfl ti28 rfl rfl rfl rfl rfl rfl fun w582 a580 E581 H' => ?_)
        clear H E579; have H := H'; clear H'
        replace H : St w Nil Z w582 [vw (kSlice 38 k_api_Process) a0.Processes [.slice p291 a0.Processes.length c292]] [[blk g296 [.int .i64 a0.Next, .int .i64 a0.NextSession, .slice p493 x492.length c494] 28], [blk g300 [.int .i64 a0.Next, .int .i64 a0.NextSession, .slice p493 x492.length c494] 28], [row 38 k_api_Process x492 (.slice p493 x492.length c494)]] := H
        refine wl_nil ?_
        refine then_normal (hK577 _ _ ?_)
        refine wp_ret ?_
        refine ?_
        obtain rfl := Option.some.inj h
        replace H : St w Nil Z w582 [vw (kSlice 38 k_api_Process) a0.Processes [.slice p291 a0.Processes.length c292]] [[blk g296 [.int .i64 a0.Next, .int .i64 a0.NextSession, .slice p493 x492.length c494] 28], [blk g300 [.int .i64 a0.Next, .int .i64 a0.NextSession, .slice p493 x492.length c494] 28], [row 38 k_api_Process x492 (.slice p493 x492.length c494)]] := H
        refine wb_ret1 E581 rfl (rv_cellN (cs := [.int .i64 a0.Next, .int .i64 a0.NextSession, .slice p493 x492.length c494]) E581 rfl Try.underlying28 rfl ti28 (H.get (i := 1) (k := 0) rfl rfl) rfl) ?_
        exact ⟨_, rfl, [], [[row 38 k_api_Process x492 (.slice p493 x492.length c494)]], ⟨_, _, rfl, rfl, rfl⟩, H.leave (fun Z hA => trivial) (fun Z S hA hL => Holds_sub (.cons _ (.cons _ (.cons_cons _ .slnil))) hL)⟩
end Go.Proofs.Ytanimjbmkhpnaaa.Gx
