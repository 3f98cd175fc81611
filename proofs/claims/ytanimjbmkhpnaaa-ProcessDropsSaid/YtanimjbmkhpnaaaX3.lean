/- Function 3, kaudit/kauditlaw09.ProcessDrops: what it answers as a plain function, and that the Go code comes to exactly that (where the plain function gives an answer). -/
import Derived.Test.YtanimjbmkhpnaaaXT
import Derived.Test.YtanimjbmkhpnaaaX9
import Derived.Test.YtanimjbmkhpnaaaX10
import Derived.Test.YtanimjbmkhpnaaaX11
import Derived.Test.YtanimjbmkhpnaaaX12
import Derived.Test.YtanimjbmkhpnaaaX13
import Derived.Test.YtanimjbmkhpnaaaX14
import Derived.Test.YtanimjbmkhpnaaaX15
set_option linter.unusedVariables false
set_option linter.unusedSimpArgs false
namespace Go.Proofs.Ytanimjbmkhpnaaa.Gx
open Go.Gx Go.RowKit
/-! ### kaudit/kauditlaw09.ProcessDrops: function 3 -/
def f_kauditlaw09_ProcessDrops_l1 (a0 : (List Int)) (a1 : Int) (a2 : Int) (y70 : api_Table × Int × Int) : Nat → Int → Int → Int → Int → List api_Process → Option (Sum (Unit) (Bool))
  | 0, _, _, _, _, _ => none
  | k_ + 1, x2288, x2289, x2290, x2291, x2292 => if (decide (x2288 < 8)) = true then ((f_kauditmake_Src_Pick (⟨a0, x2289⟩ : kauditmake_Src) [0, (IntKind.wrap .i64 (1 + (IntKind.wrap .i64 a1))), (IntKind.wrap .i64 (1 + (IntKind.wrap .i64 a2))), 7, 4294967294]).bind fun y2711 => (f_process_Setuid (⟨x2290, x2291, x2292⟩ : api_Table) y70.2.1 y2711.1).bind fun y2716 => (if (y2716.2 == 0) = true then ((f_process_Get y2716.1 y70.2.1).bind fun y2376 => if y2376.2 = true then (if (y2376.1.UID != (IntKind.wrap .i64 (1 + (IntKind.wrap .i64 a1)))) = true then (some (Sum.inr (false))) else (if (y2376.1.EUID != (IntKind.wrap .i64 (1 + (IntKind.wrap .i64 a1)))) = true then (if (y2376.1.EUID != (IntKind.wrap .i64 (1 + (IntKind.wrap .i64 a2)))) = true then (some (Sum.inr (false))) else (f_kauditlaw09_ProcessDrops_l1 a0 a1 a2 y70 k_ (IntKind.wrap .i64 (x2288 + 1)) (y2711.2) y2716.1.Next y2716.1.NextSession y2716.1.Processes)) else (f_kauditlaw09_ProcessDrops_l1 a0 a1 a2 y70 k_ (IntKind.wrap .i64 (x2288 + 1)) (y2711.2) y2716.1.Next y2716.1.NextSession y2716.1.Processes))) else (some (Sum.inr (false)))) else ((f_process_Get (⟨x2290, x2291, x2292⟩ : api_Table) y70.2.1).bind fun y2538 => if y2538.2 = true then (if (y2538.1.UID != (IntKind.wrap .i64 (1 + (IntKind.wrap .i64 a1)))) = true then (some (Sum.inr (false))) else (if (y2538.1.EUID != (IntKind.wrap .i64 (1 + (IntKind.wrap .i64 a1)))) = true then (if (y2538.1.EUID != (IntKind.wrap .i64 (1 + (IntKind.wrap .i64 a2)))) = true then (some (Sum.inr (false))) else (f_kauditlaw09_ProcessDrops_l1 a0 a1 a2 y70 k_ (IntKind.wrap .i64 (x2288 + 1)) (y2711.2) x2290 x2291 x2292)) else (f_kauditlaw09_ProcessDrops_l1 a0 a1 a2 y70 k_ (IntKind.wrap .i64 (x2288 + 1)) (y2711.2) x2290 x2291 x2292))) else (some (Sum.inr (false)))))) else (some (Sum.inl ()))
def f_kauditlaw09_ProcessDrops (a0 : (List Int)) (a1 : Int) (a2 : Int) : Option (Bool) := (f_process_New (⟨0, 1⟩ : api_File)).bind fun y52 => (f_process_Fork y52 1).bind fun y70 => if (y70.2.2 != 0) = true then (some (false)) else (if ((y70.1.Processes.length : Int) != 2) = true then (some (false)) else ((f_kauditref09_Copy y70.1).bind fun y132 => (at_ y132.Processes 1).bind fun u157 => (at_ (y132.Processes.set (1 : Int).toNat (⟨u157.PID, u157.PPID, (IntKind.wrap .i64 (1 + (IntKind.wrap .i64 a1))), u157.EUID, u157.GID, u157.EGID, u157.AUID, u157.Session, u157.Cwd, u157.Comm, u157.Exe, u157.Open, u157.Audited⟩ : api_Process)) 1).bind fun u174 => (f_kauditlaw09_ProcessDrops_l1 a0 a1 a2 y70 ((((8 : Int) - (0)).toNat + 1)) 0 0 y132.Next y132.NextSession ((y132.Processes.set (1 : Int).toNat (⟨u157.PID, u157.PPID, (IntKind.wrap .i64 (1 + (IntKind.wrap .i64 a1))), u157.EUID, u157.GID, u157.EGID, u157.AUID, u157.Session, u157.Cwd, u157.Comm, u157.Exe, u157.Open, u157.Audited⟩ : api_Process)).set (1 : Int).toNat (⟨u174.PID, u174.PPID, u174.UID, (IntKind.wrap .i64 (1 + (IntKind.wrap .i64 a2))), u174.GID, u174.EGID, u174.AUID, u174.Session, u174.Cwd, u174.Comm, u174.Exe, u174.Open, u174.Audited⟩ : api_Process))).bind fun o_ => match o_ with | Sum.inl _ => (f_kauditlaw09_awake).bind fun y2825 => some (y2825) | Sum.inr r_ => some (r_)))
set_option maxHeartbeats 4000000 in
set_option maxRecDepth 100000 in
theorem C3 (a0 : (List Int)) (a1 : Int) (a2 : Int) (p3 : Option Addr) (c4 : Nat) (r : Bool) (w : World) (h : f_kauditlaw09_ProcessDrops a0 a1 a2 = some r) : Fun Try.prog 3 #[.slice p3 a0.length c4, .int .u16 a1, .int .u16 a2] w [vw (kSlice 3 (kInt .i64)) a0 [.slice p3 a0.length c4]] (fun (v_ : Value) (A_ : List VP) (N_ : List (List SP)) => v_ = .bool r ∧ A_ = [] ∧ N_ = []) := by
  unfold f_kauditlaw09_ProcessDrops at h
  refine fun_begin (args := [.slice p3 a0.length c4, .int .u16 a1, .int .u16 a2]) Try.func3 rfl Try.ntmps3 rfl fun Z a E H => ?_
  refine wp_seq_k fun _ hK5 => ?_
  refine wp_region_lit ?_
  refine wl_cons (wl_val E rfl (rn_assign E rfl rfl) rfl fun a6 E7 => ?_)
  clear E
  refine wl_nil ?_
  refine then_normal (hK5 _ _ ?_)
  refine wp_seq_k fun _ hK8 => ?_
  refine wp_region_lit ?_
  refine wl_cons (wl_val E7 rfl (rn_move E7 rfl rfl) rfl fun a9 E10 => ?_)
  clear E7
  refine wl_cons (wl_in rfl (rn_callC (args := [.slice p3 a0.length c4]) (cap := []) (all := [.slice p3 a0.length c4]) E10 rfl rfl rfl Try.func8 nm8 rfl rfl) Try.func8 rfl fun a11 he12 => ?_)
  have E13 : Env 6 a11 (enumA 0 [.slice p3 a0.length c4]) := he12 ▸ Env.init Try.ntmps8 rfl
  clear he12
  refine wp_seq_k fun _ hK14 => ?_
  refine wp_region_lit ?_
  refine wl_cons (wl_val E13 rfl (rn_assign E13 rfl rfl) rfl fun a15 E16 => ?_)
  clear E13
  refine wl_nil ?_
  refine then_normal (hK14 _ _ ?_)
  refine wp_seq_k fun _ hK17 => ?_
  refine wp_region_lit ?_
  refine wl_cons (wl_val E16 rfl (rn_move E16 rfl rfl) rfl fun a18 E19 => ?_)
  clear E16
  refine wl_cons (wl_val E19 rfl (rn_build (ps := [(0, .slice p3 a0.length c4)]) (cs := [.slice p3 a0.length c4, .int .i64 0]) E19 rfl rfl (by kernel_rfl)) rfl fun a20 E21 => ?_)
  clear E19
  refine wl_cons (wl_box (T := 59) (cs := [.slice p3 a0.length c4, .int .i64 0]) E21 H rfl rfl rfl rfl fun g22 w23 a24 E25 H' => ?_)
  clear H E21; have H := H'; clear H'
  refine wl_cons (wl_val E25 rfl (rn_assign E25 rfl rfl) rfl fun a26 E27 => ?_)
  clear E25
  refine wl_nil ?_
  refine then_normal (hK17 _ _ ?_)
  refine wp_ret ?_
  refine ?_
  refine wb_ret1 E27 rfl (rv_tmp E27 rfl) ⟨_, rfl, ?_⟩
  have E28 := Env.put E10 (d := 19) rfl (.pointer (some ⟨g22, 0, none⟩))
  generalize hae : Act.put _ (some 19) _ = a29 at E28 ⊢; clear hae
  refine wl_cons (wl_val E28 rfl (rn_assign E28 rfl rfl) rfl fun a30 E31 => ?_)
  clear E28
  refine wl_nil ?_
  refine then_normal (hK8 _ _ ?_)
  refine wp_seq_k fun _ hK32 => ?_
  refine wp_region_lit ?_
  refine wl_cons (wl_val E31 rfl (rn_move E31 rfl rfl) rfl fun a33 E34 => ?_)
  clear E31
  refine wl_cons (wl_val E34 rfl (rn_convInt E34 rfl Try.underlying23 Try.underlying3 rfl) rfl fun a35 E36 => ?_)
  clear E34
  refine wl_cons (wl_val E36 rfl (rn_int E36 rfl rfl rfl rfl) rfl fun a37 E38 => ?_)
  clear E36
  refine wl_cons (wl_val E38 rfl (rn_move E38 rfl rfl) rfl fun a39 E40 => ?_)
  clear E38
  refine wl_cons (wl_val E40 rfl (rn_convInt E40 rfl Try.underlying23 Try.underlying3 rfl) rfl fun a41 E42 => ?_)
  clear E40
  refine wl_cons (wl_val E42 rfl (rn_int E42 rfl rfl rfl rfl) rfl fun a43 E44 => ?_)
  clear E42
  refine wl_cons (wl_val E44 rfl (rn_assign E44 rfl rfl) rfl fun a45 E46 => ?_)
  clear E44
  refine wl_cons (wl_val E46 rfl (rn_assign E46 rfl rfl) rfl fun a47 E48 => ?_)
  clear E46
  refine wl_nil ?_
  refine then_normal (hK32 _ _ ?_)
  refine wp_seq_k fun _ hK49 => ?_
  refine wp_region_lit ?_
  refine wl_cons (wl_val E48 rfl (rn_build (ps := [(1, .int .i64 1)]) (cs := [.int .i64 0, .int .i64 1]) E48 rfl rfl (by kernel_rfl)) rfl fun a50 E51 => ?_)
  clear E48
  obtain ⟨y52, hy53, h⟩ := bs h
  refine wl_cons (wl_fun E51 H rfl (rn_call (args := [.agg #[.int .i64 0, .int .i64 1]]) E51 rfl rfl rfl Try.func9 nm9 rfl) rfl (by exact fun Z hA => trivial) (C9 (⟨0, 1⟩ : api_File) _ _ hy53) ?_)
  rintro v_ A_ N_ w59 a57 ⟨p54, c55, rfl, rfl, rfl⟩ E58 H'
  replace H := H'; clear H' E51
  refine wl_cons (wl_alloc (cs := [.int .i64 0, .int .i64 0, .slice none 0 0]) E58 H rfl ti28 rfl rfl fun g60 w61 a62 E63 H' => ?_)
  clear H E58; have H := H'; clear H'
  replace H : St w Nil Z w61 [vw (kSlice 3 (kInt .i64)) a0 [.slice p3 a0.length c4]] [[blk g22 [.slice p3 a0.length c4, .int .i64 0] 59], [row 38 k_api_Process y52.Processes (.slice p54 y52.Processes.length c55)], [blk g60 [.int .i64 0, .int .i64 0, .slice none 0 0] 28]] := H
  refine wl_cons (wl_store (i := 2) (vs := [.int .i64 y52.Next, .int .i64 y52.NextSession, .slice p54 y52.Processes.length c55]) (cs' := [.int .i64 y52.Next, .int .i64 y52.NextSession, .slice p54 y52.Processes.length c55]) E63 H rfl rfl rfl rfl ti28 rfl rfl rfl rfl rfl rfl fun w66 a64 E65 H' => ?_)
  clear H E63; have H := H'; clear H'
  refine wl_nil ?_
  refine then_normal (hK49 _ _ ?_)
  refine wp_seq_k fun _ hK67 => ?_
  refine wp_region_lit ?_
  refine wl_cons (wl_val E65 rfl (rn_ldN (i := 2) [.int .i64 y52.Next, .int .i64 y52.NextSession, .slice p54 y52.Processes.length c55] E65 H rfl Try.underlying28 rfl ti28 rfl rfl rfl rfl) rfl fun a68 E69 => ?_)
  clear E65
  replace H := H.share (i := 1) (A' := [vw (kSlice 38 k_api_Process) y52.Processes [.slice p54 y52.Processes.length c55]]) (by intro b h; exact h) rfl (fun Z S1 h => ⟨rowH.read h.1, trivial⟩)
  obtain ⟨y70, hy71, h⟩ := bs h
  refine wl_cons (wl_fun E69 H rfl (rn_call (args := [.agg #[.int .i64 y52.Next, .int .i64 y52.NextSession, .slice p54 y52.Processes.length c55], .int .i64 1]) E69 rfl rfl rfl Try.func10 nm10 rfl) rfl (by exact fun Z hA => ⟨(argHolds_get hA (k := 1) rfl), trivial⟩) (C10 y52 1 p54 c55 _ _ hy71) ?_)
  rintro v_ A_ N_ w77 a75 ⟨p72, c73, rfl, rfl, rfl⟩ E76 H'
  replace H := H'; clear H' E69
  refine wl_cons (wl_val E76 rfl (rn_move E76 rfl rfl) rfl fun a78 E79 => ?_)
  clear E76
  refine wl_cons (wl_val E79 rfl (rn_extract E79 rfl rfl rfl) rfl fun a80 E81 => ?_)
  clear E79
  refine wl_cons (wl_val E81 rfl (rn_extract E81 rfl rfl rfl) rfl fun a82 E83 => ?_)
  clear E81
  refine wl_cons (wl_val E83 rfl (rn_extract E83 rfl rfl rfl) rfl fun a84 E85 => ?_)
  clear E83
  refine wl_cons (wl_store (i := 2) (vs := [.int .i64 y70.1.Next, .int .i64 y70.1.NextSession, .slice p72 y70.1.Processes.length c73]) (cs' := [.int .i64 y70.1.Next, .int .i64 y70.1.NextSession, .slice p72 y70.1.Processes.length c73]) E85 H rfl rfl rfl rfl ti28 rfl rfl rfl rfl rfl rfl fun w88 a86 E87 H' => ?_)
  clear H E85; have H := H'; clear H'
  replace H : St w Nil Z w88 [vw (kSlice 3 (kInt .i64)) a0 [.slice p3 a0.length c4], vw (kSlice 38 k_api_Process) y52.Processes [.slice p54 y52.Processes.length c55]] [[blk g22 [.slice p3 a0.length c4, .int .i64 0] 59], [], [blk g60 [.int .i64 y70.1.Next, .int .i64 y70.1.NextSession, .slice p72 y70.1.Processes.length c73] 28], [row 38 k_api_Process y70.1.Processes (.slice p72 y70.1.Processes.length c73)]] := H
  refine wl_cons (wl_val E87 rfl (rn_assign E87 rfl rfl) rfl fun a89 E90 => ?_)
  clear E87
  refine wl_cons (wl_val E90 rfl (rn_assign E90 rfl rfl) rfl fun a91 E92 => ?_)
  clear E90
  refine wl_nil ?_
  refine then_normal (hK67 _ _ ?_)
  refine wp_seq_k fun _ hK93 => ?_
  refine wp_seq_k fun _ hK94 => ?_
  refine wp_region_lit ?_
  refine wl_cons (wl_val E92 rfl (rn_move E92 rfl rfl) rfl fun a95 E96 => ?_)
  clear E92
  refine wl_cons (wl_val E96 rfl (rn_int E96 rfl rfl rfl rfl) rfl fun a97 E98 => ?_)
  clear E96
  refine wl_cons (wl_val E98 rfl (rn_move E98 rfl rfl) rfl fun a99 E100 => ?_)
  clear E98
  rcases Bool.eq_false_or_eq_true (y70.2.2 != 0) with hb101 | hb101
  · replace h := itT hb101 h
    refine wl_cons (wl_pass E100 (E100.unwanted rfl rfl rfl hb101) rfl fun a102 E103 => ?_)
    clear E100
    refine wl_cons (wl_pass E103 (E103.unwanted rfl rfl rfl hb101) rfl fun a104 E105 => ?_)
    clear E103
    refine wl_cons (wl_pass E105 (E105.unwanted rfl rfl rfl hb101) rfl fun a106 E107 => ?_)
    clear E105
    refine wl_cons (wl_pass E107 (E107.unwanted rfl rfl rfl hb101) rfl fun a108 E109 => ?_)
    clear E107
    refine wl_cons (wl_val E109 rfl (rn_pickT E109 rfl rfl hb101 rfl) rfl fun a110 E111 => ?_)
    clear E109
    refine wl_nil ?_
    refine then_normal (hK94 _ _ ?_)
    refine wc_T E111 rfl rfl ?_
    refine wp_seq_k fun _ hK112 => ?_
    refine wp_region_lit ?_
    refine wl_cons (wl_val E111 rfl (rn_assign E111 rfl rfl) rfl fun a113 E114 => ?_)
    clear E111
    refine wl_nil ?_
    refine then_normal (hK112 _ _ ?_)
    refine wp_ret ?_
    refine then_ret (?_)
    obtain rfl := Option.some.inj h
    refine wb_ret1 E114 rfl (rv_tmp E114 rfl) ?_
    exact ⟨_, rfl, [], [], ⟨rfl, rfl, rfl⟩, H.leave (fun Z hA => trivial) (fun Z S hA hL => trivial)⟩
  · replace h := itF hb101 h
    refine wl_cons (wl_val E100 (E100.wantedB rfl rfl rfl hb101) (rn_fieldAddr E100 rfl Try.underlying28 rfl ti26 rfl rfl) rfl fun a115 E116 => ?_)
    clear E100
    refine wl_cons (wl_val E116 (E116.wantedB rfl rfl rfl hb101) (rn_ld1 (i := 2) E116 H rfl Try.underlying26 rfl rfl rfl rfl) rfl fun a117 E118 => ?_)
    clear E116
    refine wl_cons (wl_val E118 (E118.wantedB rfl rfl rfl hb101) (rn_len E118 rfl Try.underlying26 rfl) rfl fun a119 E120 => ?_)
    clear E118
    refine wl_cons (wl_val E120 (E120.wantedB rfl rfl rfl hb101) (rn_int E120 rfl rfl rfl rfl) rfl fun a121 E122 => ?_)
    clear E120
    refine wl_cons (wl_val E122 rfl (rn_pickF E122 rfl rfl hb101 rfl) rfl fun a123 E124 => ?_)
    clear E122
    refine wl_nil ?_
    refine then_normal (hK94 _ _ ?_)
    rcases Bool.eq_false_or_eq_true ((y70.1.Processes.length : Int) != 2) with hb125 | hb125
    · replace h := itT hb125 h
      refine wc_T E124 rfl hb125 ?_
      refine wp_seq_k fun _ hK126 => ?_
      refine wp_region_lit ?_
      refine wl_cons (wl_val E124 rfl (rn_assign E124 rfl rfl) rfl fun a127 E128 => ?_)
      clear E124
      refine wl_nil ?_
      refine then_normal (hK126 _ _ ?_)
      refine wp_ret ?_
      refine then_ret (?_)
      obtain rfl := Option.some.inj h
      refine wb_ret1 E128 rfl (rv_tmp E128 rfl) ?_
      exact ⟨_, rfl, [], [], ⟨rfl, rfl, rfl⟩, H.leave (fun Z hA => trivial) (fun Z S hA hL => trivial)⟩
    · replace h := itF hb125 h
      refine wc_F E124 rfl hb125 ?_
      refine wp_skip ?_
      refine then_normal (hK93 _ _ ?_)
      refine wp_seq_k fun _ hK129 => ?_
      refine wp_region_lit ?_
      refine wl_cons (wl_val E124 rfl (rn_ldN (i := 2) [.int .i64 y70.1.Next, .int .i64 y70.1.NextSession, .slice p72 y70.1.Processes.length c73] E124 H rfl Try.underlying28 rfl ti28 rfl rfl rfl rfl) rfl fun a130 E131 => ?_)
      clear E124
      replace H := H.share (i := 3) (A' := [vw (kSlice 38 k_api_Process) y70.1.Processes [.slice p72 y70.1.Processes.length c73]]) (by intro b h; exact h) rfl (fun Z S1 h => ⟨rowH.read h.1, trivial⟩)
      obtain ⟨y132, hy133, h⟩ := bs h
      refine wl_cons (wl_fun E131 H rfl (rn_call (args := [.agg #[.int .i64 y70.1.Next, .int .i64 y70.1.NextSession, .slice p72 y70.1.Processes.length c73]]) E131 rfl rfl rfl Try.func11 nm11 rfl) rfl (by exact fun Z hA => ⟨(argHolds_get hA (k := 2) rfl), trivial⟩) (C11 y70.1 p72 c73 _ _ hy133) ?_)
      rintro v_ A_ N_ w139 a137 ⟨p134, c135, rfl, rfl, rfl⟩ E138 H'
      replace H := H'; clear H' E131
      refine wl_cons (wl_store (i := 2) (vs := [.int .i64 y132.Next, .int .i64 y132.NextSession, .slice p134 y132.Processes.length c135]) (cs' := [.int .i64 y132.Next, .int .i64 y132.NextSession, .slice p134 y132.Processes.length c135]) E138 H rfl rfl rfl rfl ti28 rfl rfl rfl rfl rfl rfl fun w142 a140 E141 H' => ?_)
      clear H E138; have H := H'; clear H'
      refine wl_nil ?_
      refine then_normal (hK129 _ _ ?_)
      refine wp_seq_k fun _ hK143 => ?_
      refine wa_begin mixed (fun w_ => (∃ Z S, (blk g60 [.int .i64 y132.Next, .int .i64 y132.NextSession, .slice p134 y132.Processes.length c135] 28).holds w_ Z S) ∧ True) [3] [8, 11] H rfl fun w144 H' => ?_
      clear H; have H := H'; clear H'
      refine wa_take (i := 0) E141 rfl (by kernel_rfl) (panic_then panic_body) rfl (fun w_ => rn_fieldAddr E141 rfl Try.underlying28 rfl ti26 rfl rfl) rfl fun a145 E146 => ?_
      clear E141
      replace H : St w Nil Z w144 [vw (kSlice 3 (kInt .i64)) a0 [.slice p3 a0.length c4], vw (kSlice 38 k_api_Process) y52.Processes [.slice p54 y52.Processes.length c55], vw (kSlice 38 k_api_Process) y70.1.Processes [.slice p72 y70.1.Processes.length c73]] [[blk g22 [.slice p3 a0.length c4, .int .i64 0] 59], [], [blk g60 [.int .i64 y132.Next, .int .i64 y132.NextSession, .slice p134 y132.Processes.length c135] 28], [], [row 38 k_api_Process y132.Processes (.slice p134 y132.Processes.length c135)]] := H
      refine wa_takeU (i := 1) E146 rfl (by kernel_rfl) (by kernel_rfl) (panic_then panic_body) rfl (rn_ld1 (i := 2) E146 H rfl Try.underlying26 rfl rfl rfl rfl) rfl fun a147 E148 => ?_
      clear E146
      refine wa_take (i := 2) E148 rfl (by kernel_rfl) (panic_then panic_body) rfl (fun w_ => rn_fieldAddr E148 rfl Try.underlying28 rfl ti26 rfl rfl) rfl fun a149 E150 => ?_
      clear E148
      refine wa_takeS (i := 3) E150 rfl (by kernel_rfl) (by kernel_rfl) (panic_then panic_body) rfl (fun w_ hS => rn_load1 E150 rfl Try.underlying26 rfl rfl hS.1 rfl) ⟨H.get (i := 2) (k := 0) rfl rfl, trivial⟩ rfl fun a151 E152 => ?_
      clear E150
      refine wa_take (i := 4) E152 rfl (by kernel_rfl) (panic_then panic_body) rfl (fun w_ => rn_move E152 rfl rfl) rfl fun a153 E154 => ?_
      clear E152
      refine wa_take (i := 5) E154 rfl (by kernel_rfl) (panic_then panic_body) rfl (fun w_ => rn_move E154 rfl rfl) rfl fun a155 E156 => ?_
      clear E154
      obtain ⟨u157, hy158, h⟩ := bs h
      obtain ⟨q159, hq160, hr161⟩ := rn_idx (K := k_api_Process) (P := Try.prog) (o := ⟨some 50, .indexAddr 26 (.tmp 45) (.const (.int .i64 1)), 0, "", #[], none⟩) E156 rfl Try.underlying26 ti38 rfl rfl (H.readL (i := 4) rfl) hy158
      refine wa_take (i := 6) E156 rfl (by kernel_rfl) (panic_then panic_body) rfl (fun w_ => (hr161 _)) rfl fun a162 E163 => ?_
      clear E156
      obtain ⟨q164, hq165, hr166⟩ := rn_fieldAddrI (P := Try.prog) (o := ⟨some 51, .fieldAddr 38 (.tmp 50) 2, 0, "", #[], none⟩) E163 rfl Try.underlying38 rfl ti3 rfl hq160 (off' := 2) rfl
      refine wa_take (i := 7) E163 rfl (by kernel_rfl) (panic_then panic_body) rfl (fun w_ => (hr166 _)) rfl fun a167 E168 => ?_
      clear E163
      refine wa_only (i := 8) rfl (by kernel_rfl) (by kernel_rfl) (wl_storeI (k := 4) (vs := [.int .i64 (IntKind.wrap .i64 (1 + (IntKind.wrap .i64 a1)))]) (u' := (⟨u157.PID, u157.PPID, (IntKind.wrap .i64 (1 + (IntKind.wrap .i64 a1))), u157.EUID, u157.GID, u157.EGID, u157.AUID, u157.Session, u157.Cwd, u157.Comm, u157.Exe, u157.Open, u157.Audited⟩ : api_Process)) E168 H rfl rfl rfl rfl hq165 hy158 ti3 rfl rfl rfl (by decide) (fun Z cs hA hR => by obtain ⟨⟨p169, c170⟩, rfl, hB⟩ := k_api_Process_opens hR; exact k_api_Process_shuts (x := (⟨u157.PID, u157.PPID, (IntKind.wrap .i64 (1 + (IntKind.wrap .i64 a1))), u157.EUID, u157.GID, u157.EGID, u157.AUID, u157.Session, u157.Cwd, u157.Comm, u157.Exe, u157.Open, u157.Audited⟩ : api_Process)) (t := (p169, c170)) ⟨(argHolds_get hB (k := 0) rfl), trivial⟩) rfl fun w173 a171 E172 H' => ?_)
      clear H E168; have H := H'; clear H'
      refine ⟨fun _ => ⟨H.get (i := 2) (k := 0) rfl rfl, trivial⟩, ?_⟩
      obtain ⟨u174, hy175, h⟩ := bs h
      obtain ⟨q176, hq177, hr178⟩ := rn_idx (K := k_api_Process) (P := Try.prog) (o := ⟨some 52, .indexAddr 26 (.tmp 47) (.const (.int .i64 1)), 0, "", #[], none⟩) E172 rfl Try.underlying26 ti38 rfl rfl (H.readL (i := 4) rfl) hy175
      refine wa_take (i := 9) E172 rfl (by kernel_rfl) (panic_then panic_body) rfl (fun w_ => (hr178 _)) rfl fun a179 E180 => ?_
      clear E172
      obtain ⟨q181, hq182, hr183⟩ := rn_fieldAddrI (P := Try.prog) (o := ⟨some 53, .fieldAddr 38 (.tmp 52) 3, 0, "", #[], none⟩) E180 rfl Try.underlying38 rfl ti3 rfl hq177 (off' := 3) rfl
      refine wa_take (i := 10) E180 rfl (by kernel_rfl) (panic_then panic_body) rfl (fun w_ => (hr183 _)) rfl fun a184 E185 => ?_
      clear E180
      refine wa_only (i := 11) rfl (by kernel_rfl) (by kernel_rfl) (wl_storeI (k := 4) (vs := [.int .i64 (IntKind.wrap .i64 (1 + (IntKind.wrap .i64 a2)))]) (u' := (⟨u174.PID, u174.PPID, u174.UID, (IntKind.wrap .i64 (1 + (IntKind.wrap .i64 a2))), u174.GID, u174.EGID, u174.AUID, u174.Session, u174.Cwd, u174.Comm, u174.Exe, u174.Open, u174.Audited⟩ : api_Process)) E185 H rfl rfl rfl rfl hq182 hy175 ti3 rfl rfl rfl (by decide) (fun Z cs hA hR => by obtain ⟨⟨p186, c187⟩, rfl, hB⟩ := k_api_Process_opens hR; exact k_api_Process_shuts (x := (⟨u174.PID, u174.PPID, u174.UID, (IntKind.wrap .i64 (1 + (IntKind.wrap .i64 a2))), u174.GID, u174.EGID, u174.AUID, u174.Session, u174.Cwd, u174.Comm, u174.Exe, u174.Open, u174.Audited⟩ : api_Process)) (t := (p186, c187)) ⟨(argHolds_get hB (k := 0) rfl), trivial⟩) rfl fun w190 a188 E189 H' => ?_)
      clear H E185; have H := H'; clear H'
      refine ⟨fun h_ => (needs_no (by kernel_rfl) h_).elim, ?_⟩
      refine wa_done (by kernel_rfl) ?_
      have hl191 : ((y132.Processes.set (1 : Int).toNat (⟨u157.PID, u157.PPID, (IntKind.wrap .i64 (1 + (IntKind.wrap .i64 a1))), u157.EUID, u157.GID, u157.EGID, u157.AUID, u157.Session, u157.Cwd, u157.Comm, u157.Exe, u157.Open, u157.Audited⟩ : api_Process)).set (1 : Int).toNat (⟨u174.PID, u174.PPID, u174.UID, (IntKind.wrap .i64 (1 + (IntKind.wrap .i64 a2))), u174.GID, u174.EGID, u174.AUID, u174.Session, u174.Cwd, u174.Comm, u174.Exe, u174.Open, u174.Audited⟩ : api_Process)).length = y132.Processes.length := by first | exact List.length_set | (simp only [List.length_set])
      replace H : St w Nil Z w190 [vw (kSlice 3 (kInt .i64)) a0 [.slice p3 a0.length c4], vw (kSlice 38 k_api_Process) y52.Processes [.slice p54 y52.Processes.length c55], vw (kSlice 38 k_api_Process) y70.1.Processes [.slice p72 y70.1.Processes.length c73]] [[blk g22 [.slice p3 a0.length c4, .int .i64 0] 59], [], [blk g60 [.int .i64 y132.Next, .int .i64 y132.NextSession, .slice p134 (((y132.Processes.set (1 : Int).toNat (⟨u157.PID, u157.PPID, (IntKind.wrap .i64 (1 + (IntKind.wrap .i64 a1))), u157.EUID, u157.GID, u157.EGID, u157.AUID, u157.Session, u157.Cwd, u157.Comm, u157.Exe, u157.Open, u157.Audited⟩ : api_Process)).set (1 : Int).toNat (⟨u174.PID, u174.PPID, u174.UID, (IntKind.wrap .i64 (1 + (IntKind.wrap .i64 a2))), u174.GID, u174.EGID, u174.AUID, u174.Session, u174.Cwd, u174.Comm, u174.Exe, u174.Open, u174.Audited⟩ : api_Process)).length) c135] 28], [], [row 38 k_api_Process ((y132.Processes.set (1 : Int).toNat (⟨u157.PID, u157.PPID, (IntKind.wrap .i64 (1 + (IntKind.wrap .i64 a1))), u157.EUID, u157.GID, u157.EGID, u157.AUID, u157.Session, u157.Cwd, u157.Comm, u157.Exe, u157.Open, u157.Audited⟩ : api_Process)).set (1 : Int).toNat (⟨u174.PID, u174.PPID, u174.UID, (IntKind.wrap .i64 (1 + (IntKind.wrap .i64 a2))), u174.GID, u174.EGID, u174.AUID, u174.Session, u174.Cwd, u174.Comm, u174.Exe, u174.Open, u174.Audited⟩ : api_Process)) (.slice p134 (((y132.Processes.set (1 : Int).toNat (⟨u157.PID, u157.PPID, (IntKind.wrap .i64 (1 + (IntKind.wrap .i64 a1))), u157.EUID, u157.GID, u157.EGID, u157.AUID, u157.Session, u157.Cwd, u157.Comm, u157.Exe, u157.Open, u157.Audited⟩ : api_Process)).set (1 : Int).toNat (⟨u174.PID, u174.PPID, u174.UID, (IntKind.wrap .i64 (1 + (IntKind.wrap .i64 a2))), u174.GID, u174.EGID, u174.AUID, u174.Session, u174.Cwd, u174.Comm, u174.Exe, u174.Open, u174.Audited⟩ : api_Process)).length) c135)]] := by rw [hl191]; exact H
      replace E189 : Env 99 a188 [(0, .slice p3 a0.length c4), (1, .int .u16 a1), (2, .int .u16 a2), (6, .bool false), (18, .slice p3 a0.length c4), (19, .pointer (some ⟨g22, 0, none⟩)), (7, .pointer (some ⟨g22, 0, none⟩)), (20, .int .u16 a1), (21, .int .i64 (IntKind.wrap .i64 a1)), (22, .int .i64 (IntKind.wrap .i64 (1 + (IntKind.wrap .i64 a1)))), (23, .int .u16 a2), (24, .int .i64 (IntKind.wrap .i64 a2)), (25, .int .i64 (IntKind.wrap .i64 (1 + (IntKind.wrap .i64 a2)))), (8, .int .i64 (IntKind.wrap .i64 (1 + (IntKind.wrap .i64 a1)))), (9, .int .i64 (IntKind.wrap .i64 (1 + (IntKind.wrap .i64 a2)))), (26, .agg #[.int .i64 0, .int .i64 1]), (27, .agg #[.int .i64 y52.Next, .int .i64 y52.NextSession, .slice p54 y52.Processes.length c55]), (10, .pointer (some ⟨g60, 0, none⟩)), (29, .agg #[.int .i64 y52.Next, .int .i64 y52.NextSession, .slice p54 y52.Processes.length c55]), (30, .tuple #[.agg #[.int .i64 y70.1.Next, .int .i64 y70.1.NextSession, .slice p72 y70.1.Processes.length c73], .int .i64 y70.2.1, .int .i64 y70.2.2]), (28, .tuple #[.agg #[.int .i64 y70.1.Next, .int .i64 y70.1.NextSession, .slice p72 y70.1.Processes.length c73], .int .i64 y70.2.1, .int .i64 y70.2.2]), (31, .agg #[.int .i64 y70.1.Next, .int .i64 y70.1.NextSession, .slice p72 y70.1.Processes.length c73]), (32, .int .i64 y70.2.1), (33, .int .i64 y70.2.2), (11, .int .i64 y70.2.1), (12, .int .i64 y70.2.2), (34, .int .i64 y70.2.2), (35, .bool (y70.2.2 != 0)), (36, .bool (y70.2.2 != 0)), (37, .pointer (some ⟨g60, 2, none⟩)), (38, .slice p72 y70.1.Processes.length c73), (39, .int .i64 (y70.1.Processes.length : Int)), (40, .bool ((y70.1.Processes.length : Int) != 2)), (41, .bool ((y70.1.Processes.length : Int) != 2)), (42, .agg #[.int .i64 y70.1.Next, .int .i64 y70.1.NextSession, .slice p72 y70.1.Processes.length c73]), (43, .agg #[.int .i64 y132.Next, .int .i64 y132.NextSession, .slice p134 (((y132.Processes.set (1 : Int).toNat (⟨u157.PID, u157.PPID, (IntKind.wrap .i64 (1 + (IntKind.wrap .i64 a1))), u157.EUID, u157.GID, u157.EGID, u157.AUID, u157.Session, u157.Cwd, u157.Comm, u157.Exe, u157.Open, u157.Audited⟩ : api_Process)).set (1 : Int).toNat (⟨u174.PID, u174.PPID, u174.UID, (IntKind.wrap .i64 (1 + (IntKind.wrap .i64 a2))), u174.GID, u174.EGID, u174.AUID, u174.Session, u174.Cwd, u174.Comm, u174.Exe, u174.Open, u174.Audited⟩ : api_Process)).length) c135]), (44, .pointer (some ⟨g60, 2, none⟩)), (45, .slice p134 (((y132.Processes.set (1 : Int).toNat (⟨u157.PID, u157.PPID, (IntKind.wrap .i64 (1 + (IntKind.wrap .i64 a1))), u157.EUID, u157.GID, u157.EGID, u157.AUID, u157.Session, u157.Cwd, u157.Comm, u157.Exe, u157.Open, u157.Audited⟩ : api_Process)).set (1 : Int).toNat (⟨u174.PID, u174.PPID, u174.UID, (IntKind.wrap .i64 (1 + (IntKind.wrap .i64 a2))), u174.GID, u174.EGID, u174.AUID, u174.Session, u174.Cwd, u174.Comm, u174.Exe, u174.Open, u174.Audited⟩ : api_Process)).length) c135), (46, .pointer (some ⟨g60, 2, none⟩)), (47, .slice p134 (((y132.Processes.set (1 : Int).toNat (⟨u157.PID, u157.PPID, (IntKind.wrap .i64 (1 + (IntKind.wrap .i64 a1))), u157.EUID, u157.GID, u157.EGID, u157.AUID, u157.Session, u157.Cwd, u157.Comm, u157.Exe, u157.Open, u157.Audited⟩ : api_Process)).set (1 : Int).toNat (⟨u174.PID, u174.PPID, u174.UID, (IntKind.wrap .i64 (1 + (IntKind.wrap .i64 a2))), u174.GID, u174.EGID, u174.AUID, u174.Session, u174.Cwd, u174.Comm, u174.Exe, u174.Open, u174.Audited⟩ : api_Process)).length) c135), (48, .int .i64 (IntKind.wrap .i64 (1 + (IntKind.wrap .i64 a1)))), (49, .int .i64 (IntKind.wrap .i64 (1 + (IntKind.wrap .i64 a2)))), (50, .pointer (some q159)), (51, .pointer (some q164)), (52, .pointer (some q176)), (53, .pointer (some q181))] := by rw [hl191]; exact E189.pick ⟨rfl, rfl, rfl, rfl, rfl, rfl, rfl, rfl, rfl, rfl, rfl, rfl, rfl, rfl, rfl, rfl, rfl, rfl, rfl, rfl, rfl, rfl, rfl, rfl, rfl, rfl, rfl, rfl, rfl, rfl, rfl, rfl, rfl, rfl, rfl, rfl, rfl, rfl, rfl, rfl, rfl, rfl, rfl, rfl, rfl, rfl, trivial⟩
      clear hl191
      refine then_normal (hK143 _ _ ?_)
      refine wp_seq_k fun _ hK192 => ?_
      refine wp_seq_k fun _ hK193 => ?_
      refine wp_region_lit ?_
      refine wl_cons (wl_val E189 rfl (rn_assign E189 rfl rfl) rfl fun a194 E195 => ?_)
      clear E189
      refine wl_nil ?_
      refine then_normal (hK193 _ _ ?_)
      refine wp_block ?_
      replace H := H.share (i := 4) (A' := [vw (kSlice 38 k_api_Process) ((y132.Processes.set (1 : Int).toNat (⟨u157.PID, u157.PPID, (IntKind.wrap .i64 (1 + (IntKind.wrap .i64 a1))), u157.EUID, u157.GID, u157.EGID, u157.AUID, u157.Session, u157.Cwd, u157.Comm, u157.Exe, u157.Open, u157.Audited⟩ : api_Process)).set (1 : Int).toNat (⟨u174.PID, u174.PPID, u174.UID, (IntKind.wrap .i64 (1 + (IntKind.wrap .i64 a2))), u174.GID, u174.EGID, u174.AUID, u174.Session, u174.Cwd, u174.Comm, u174.Exe, u174.Open, u174.Audited⟩ : api_Process)) [.slice p134 (((y132.Processes.set (1 : Int).toNat (⟨u157.PID, u157.PPID, (IntKind.wrap .i64 (1 + (IntKind.wrap .i64 a1))), u157.EUID, u157.GID, u157.EGID, u157.AUID, u157.Session, u157.Cwd, u157.Comm, u157.Exe, u157.Open, u157.Audited⟩ : api_Process)).set (1 : Int).toNat (⟨u174.PID, u174.PPID, u174.UID, (IntKind.wrap .i64 (1 + (IntKind.wrap .i64 a2))), u174.GID, u174.EGID, u174.AUID, u174.Session, u174.Cwd, u174.Comm, u174.Exe, u174.Open, u174.Audited⟩ : api_Process)).length) c135]]) (by intro b h; exact h) rfl (fun Z S1 h => ⟨rowH.read h.1, trivial⟩)
      obtain ⟨o2295, ho2296, h⟩ := bs h
      refine wc_loop (fun k_ a_ w_ => ∃ (x2288 : Int) (x2289 : Int) (x2290 : Int) (x2291 : Int) (x2292 : List api_Process) (p2293 : Option Addr) (c2294 : Nat), Env 99 a_ [(0, .slice p3 a0.length c4), (1, .int .u16 a1), (2, .int .u16 a2), (6, .bool false), (7, .pointer (some ⟨g22, 0, none⟩)), (8, .int .i64 (IntKind.wrap .i64 (1 + (IntKind.wrap .i64 a1)))), (9, .int .i64 (IntKind.wrap .i64 (1 + (IntKind.wrap .i64 a2)))), (10, .pointer (some ⟨g60, 0, none⟩)), (11, .int .i64 y70.2.1), (12, .int .i64 y70.2.2), (13, .int .i64 x2288), (18, .slice p3 a0.length c4), (19, .pointer (some ⟨g22, 0, none⟩)), (20, .int .u16 a1), (21, .int .i64 (IntKind.wrap .i64 a1)), (22, .int .i64 (IntKind.wrap .i64 (1 + (IntKind.wrap .i64 a1)))), (23, .int .u16 a2), (24, .int .i64 (IntKind.wrap .i64 a2)), (25, .int .i64 (IntKind.wrap .i64 (1 + (IntKind.wrap .i64 a2)))), (26, .agg #[.int .i64 0, .int .i64 1]), (27, .agg #[.int .i64 y52.Next, .int .i64 y52.NextSession, .slice p54 y52.Processes.length c55]), (28, .tuple #[.agg #[.int .i64 y70.1.Next, .int .i64 y70.1.NextSession, .slice p72 y70.1.Processes.length c73], .int .i64 y70.2.1, .int .i64 y70.2.2]), (29, .agg #[.int .i64 y52.Next, .int .i64 y52.NextSession, .slice p54 y52.Processes.length c55]), (30, .tuple #[.agg #[.int .i64 y70.1.Next, .int .i64 y70.1.NextSession, .slice p72 y70.1.Processes.length c73], .int .i64 y70.2.1, .int .i64 y70.2.2]), (31, .agg #[.int .i64 y70.1.Next, .int .i64 y70.1.NextSession, .slice p72 y70.1.Processes.length c73]), (32, .int .i64 y70.2.1), (33, .int .i64 y70.2.2), (34, .int .i64 y70.2.2), (35, .bool (y70.2.2 != 0)), (36, .bool (y70.2.2 != 0)), (37, .pointer (some ⟨g60, 2, none⟩)), (38, .slice p72 y70.1.Processes.length c73), (39, .int .i64 (y70.1.Processes.length : Int)), (40, .bool ((y70.1.Processes.length : Int) != 2)), (41, .bool ((y70.1.Processes.length : Int) != 2)), (42, .agg #[.int .i64 y70.1.Next, .int .i64 y70.1.NextSession, .slice p72 y70.1.Processes.length c73]), (43, .agg #[.int .i64 y132.Next, .int .i64 y132.NextSession, .slice p134 (((y132.Processes.set (1 : Int).toNat (⟨u157.PID, u157.PPID, (IntKind.wrap .i64 (1 + (IntKind.wrap .i64 a1))), u157.EUID, u157.GID, u157.EGID, u157.AUID, u157.Session, u157.Cwd, u157.Comm, u157.Exe, u157.Open, u157.Audited⟩ : api_Process)).set (1 : Int).toNat (⟨u174.PID, u174.PPID, u174.UID, (IntKind.wrap .i64 (1 + (IntKind.wrap .i64 a2))), u174.GID, u174.EGID, u174.AUID, u174.Session, u174.Cwd, u174.Comm, u174.Exe, u174.Open, u174.Audited⟩ : api_Process)).length) c135]), (44, .pointer (some ⟨g60, 2, none⟩)), (45, .slice p134 (((y132.Processes.set (1 : Int).toNat (⟨u157.PID, u157.PPID, (IntKind.wrap .i64 (1 + (IntKind.wrap .i64 a1))), u157.EUID, u157.GID, u157.EGID, u157.AUID, u157.Session, u157.Cwd, u157.Comm, u157.Exe, u157.Open, u157.Audited⟩ : api_Process)).set (1 : Int).toNat (⟨u174.PID, u174.PPID, u174.UID, (IntKind.wrap .i64 (1 + (IntKind.wrap .i64 a2))), u174.GID, u174.EGID, u174.AUID, u174.Session, u174.Cwd, u174.Comm, u174.Exe, u174.Open, u174.Audited⟩ : api_Process)).length) c135), (46, .pointer (some ⟨g60, 2, none⟩)), (47, .slice p134 (((y132.Processes.set (1 : Int).toNat (⟨u157.PID, u157.PPID, (IntKind.wrap .i64 (1 + (IntKind.wrap .i64 a1))), u157.EUID, u157.GID, u157.EGID, u157.AUID, u157.Session, u157.Cwd, u157.Comm, u157.Exe, u157.Open, u157.Audited⟩ : api_Process)).set (1 : Int).toNat (⟨u174.PID, u174.PPID, u174.UID, (IntKind.wrap .i64 (1 + (IntKind.wrap .i64 a2))), u174.GID, u174.EGID, u174.AUID, u174.Session, u174.Cwd, u174.Comm, u174.Exe, u174.Open, u174.Audited⟩ : api_Process)).length) c135), (48, .int .i64 (IntKind.wrap .i64 (1 + (IntKind.wrap .i64 a1)))), (49, .int .i64 (IntKind.wrap .i64 (1 + (IntKind.wrap .i64 a2))))] ∧ St w Nil Z w_ [vw (kSlice 3 (kInt .i64)) a0 [.slice p3 a0.length c4], vw (kSlice 38 k_api_Process) y52.Processes [.slice p54 y52.Processes.length c55], vw (kSlice 38 k_api_Process) y70.1.Processes [.slice p72 y70.1.Processes.length c73], vw (kSlice 38 k_api_Process) ((y132.Processes.set (1 : Int).toNat (⟨u157.PID, u157.PPID, (IntKind.wrap .i64 (1 + (IntKind.wrap .i64 a1))), u157.EUID, u157.GID, u157.EGID, u157.AUID, u157.Session, u157.Cwd, u157.Comm, u157.Exe, u157.Open, u157.Audited⟩ : api_Process)).set (1 : Int).toNat (⟨u174.PID, u174.PPID, u174.UID, (IntKind.wrap .i64 (1 + (IntKind.wrap .i64 a2))), u174.GID, u174.EGID, u174.AUID, u174.Session, u174.Cwd, u174.Comm, u174.Exe, u174.Open, u174.Audited⟩ : api_Process)) [.slice p134 (((y132.Processes.set (1 : Int).toNat (⟨u157.PID, u157.PPID, (IntKind.wrap .i64 (1 + (IntKind.wrap .i64 a1))), u157.EUID, u157.GID, u157.EGID, u157.AUID, u157.Session, u157.Cwd, u157.Comm, u157.Exe, u157.Open, u157.Audited⟩ : api_Process)).set (1 : Int).toNat (⟨u174.PID, u174.PPID, u174.UID, (IntKind.wrap .i64 (1 + (IntKind.wrap .i64 a2))), u174.GID, u174.EGID, u174.AUID, u174.Session, u174.Cwd, u174.Comm, u174.Exe, u174.Open, u174.Audited⟩ : api_Process)).length) c135], vw (kSlice 38 k_api_Process) x2292 [.slice p2293 x2292.length c2294]] [[blk g22 [.slice p3 a0.length c4, .int .i64 x2289] 59], [], [blk g60 [.int .i64 x2290, .int .i64 x2291, .slice p2293 x2292.length c2294] 28], [], []] ∧ f_kauditlaw09_ProcessDrops_l1 a0 a1 a2 y70 k_ x2288 x2289 x2290 x2291 x2292 = some o2295) ((((8 : Int) - (0)).toNat + 1)) ?_ ?_ ?_
      · exact ⟨0, 0, y132.Next, y132.NextSession, ((y132.Processes.set (1 : Int).toNat (⟨u157.PID, u157.PPID, (IntKind.wrap .i64 (1 + (IntKind.wrap .i64 a1))), u157.EUID, u157.GID, u157.EGID, u157.AUID, u157.Session, u157.Cwd, u157.Comm, u157.Exe, u157.Open, u157.Audited⟩ : api_Process)).set (1 : Int).toNat (⟨u174.PID, u174.PPID, u174.UID, (IntKind.wrap .i64 (1 + (IntKind.wrap .i64 a2))), u174.GID, u174.EGID, u174.AUID, u174.Session, u174.Cwd, u174.Comm, u174.Exe, u174.Open, u174.Audited⟩ : api_Process)), p134, c135, E195.pick ⟨rfl, rfl, rfl, rfl, rfl, rfl, rfl, rfl, rfl, rfl, rfl, rfl, rfl, rfl, rfl, rfl, rfl, rfl, rfl, rfl, rfl, rfl, rfl, rfl, rfl, rfl, rfl, rfl, rfl, rfl, rfl, rfl, rfl, rfl, rfl, rfl, rfl, rfl, rfl, rfl, rfl, rfl, rfl, trivial⟩, H.sel (fun Z hA => ⟨(argHolds_get hA (k := 0) rfl), (argHolds_get hA (k := 1) rfl), (argHolds_get hA (k := 2) rfl), (argHolds_get hA (k := 3) rfl), (argHolds_get hA (k := 3) rfl), trivial⟩), ho2296⟩
      · rintro _ _ ⟨_, _, _, _, _, _, _, _, _, h_⟩
        rw [f_kauditlaw09_ProcessDrops_l1] at h_; cases h_
      · rintro k2297 a2298 w2299 ⟨x2288, x2289, x2290, x2291, x2292, p2293, c2294, E2300, H', h2301⟩
        rw [f_kauditlaw09_ProcessDrops_l1] at h2301
        clear H; have H := H'; clear H'
        refine wp_seq_k fun _ hK2302 => ?_
        refine wp_seq_k fun _ hK2303 => ?_
        refine wp_region_lit ?_
        refine wl_cons (wl_val E2300 rfl (rn_move E2300 rfl rfl) rfl fun a2304 E2305 => ?_)
        clear E2300
        replace H : St w Nil Z w2299 [vw (kSlice 3 (kInt .i64)) a0 [.slice p3 a0.length c4], vw (kSlice 38 k_api_Process) y52.Processes [.slice p54 y52.Processes.length c55], vw (kSlice 38 k_api_Process) y70.1.Processes [.slice p72 y70.1.Processes.length c73], vw (kSlice 38 k_api_Process) ((y132.Processes.set (1 : Int).toNat (⟨u157.PID, u157.PPID, (IntKind.wrap .i64 (1 + (IntKind.wrap .i64 a1))), u157.EUID, u157.GID, u157.EGID, u157.AUID, u157.Session, u157.Cwd, u157.Comm, u157.Exe, u157.Open, u157.Audited⟩ : api_Process)).set (1 : Int).toNat (⟨u174.PID, u174.PPID, u174.UID, (IntKind.wrap .i64 (1 + (IntKind.wrap .i64 a2))), u174.GID, u174.EGID, u174.AUID, u174.Session, u174.Cwd, u174.Comm, u174.Exe, u174.Open, u174.Audited⟩ : api_Process)) [.slice p134 (((y132.Processes.set (1 : Int).toNat (⟨u157.PID, u157.PPID, (IntKind.wrap .i64 (1 + (IntKind.wrap .i64 a1))), u157.EUID, u157.GID, u157.EGID, u157.AUID, u157.Session, u157.Cwd, u157.Comm, u157.Exe, u157.Open, u157.Audited⟩ : api_Process)).set (1 : Int).toNat (⟨u174.PID, u174.PPID, u174.UID, (IntKind.wrap .i64 (1 + (IntKind.wrap .i64 a2))), u174.GID, u174.EGID, u174.AUID, u174.Session, u174.Cwd, u174.Comm, u174.Exe, u174.Open, u174.Audited⟩ : api_Process)).length) c135], vw (kSlice 38 k_api_Process) x2292 [.slice p2293 x2292.length c2294]] [[blk g22 [.slice p3 a0.length c4, .int .i64 x2289] 59], [], [blk g60 [.int .i64 x2290, .int .i64 x2291, .slice p2293 x2292.length c2294] 28], [], []] := H
        refine wl_cons (wl_val E2305 rfl (rn_int E2305 rfl rfl rfl rfl) rfl fun a2306 E2307 => ?_)
        clear E2305
        refine wl_nil ?_
        refine then_normal (hK2303 _ _ ?_)
        rcases Bool.eq_false_or_eq_true (decide (x2288 < 8)) with hb2308 | hb2308
        · replace h2301 := itT hb2308 h2301
          refine wc_T E2307 rfl hb2308 ?_
          refine wp_skip ?_
          refine then_normal (hK2302 _ _ ?_)
          refine wp_seq_k fun _ hK2309 => ?_
          refine wp_block ?_
          refine wp_seq_k fun _ hK2310 => ?_
          refine wp_seq_k fun _ hK2311 => ?_
          refine wa_join (fun a_ w_ => ∃ (g2347 : Nat), ∃ (y2333 : api_Table × Int), ∃ (p2335 : Option Addr), ∃ (c2336 : Nat), ∃ (g2323 : Nat), ∃ (y2328 : Int × Int), Env 99 a_ [(0, .slice p3 a0.length c4), (1, .int .u16 a1), (2, .int .u16 a2), (6, .bool false), (7, .pointer (some ⟨g22, 0, none⟩)), (8, .int .i64 (IntKind.wrap .i64 (1 + (IntKind.wrap .i64 a1)))), (9, .int .i64 (IntKind.wrap .i64 (1 + (IntKind.wrap .i64 a2)))), (10, .pointer (some ⟨g60, 0, none⟩)), (11, .int .i64 y70.2.1), (12, .int .i64 y70.2.2), (13, .int .i64 x2288), (14, .pointer (some ⟨g2347, 0, none⟩)), (15, .int .i64 y2333.2), (18, .slice p3 a0.length c4), (19, .pointer (some ⟨g22, 0, none⟩)), (20, .int .u16 a1), (21, .int .i64 (IntKind.wrap .i64 a1)), (22, .int .i64 (IntKind.wrap .i64 (1 + (IntKind.wrap .i64 a1)))), (23, .int .u16 a2), (24, .int .i64 (IntKind.wrap .i64 a2)), (25, .int .i64 (IntKind.wrap .i64 (1 + (IntKind.wrap .i64 a2)))), (26, .agg #[.int .i64 0, .int .i64 1]), (27, .agg #[.int .i64 y52.Next, .int .i64 y52.NextSession, .slice p54 y52.Processes.length c55]), (28, .tuple #[.agg #[.int .i64 y70.1.Next, .int .i64 y70.1.NextSession, .slice p72 y70.1.Processes.length c73], .int .i64 y70.2.1, .int .i64 y70.2.2]), (29, .agg #[.int .i64 y52.Next, .int .i64 y52.NextSession, .slice p54 y52.Processes.length c55]), (30, .tuple #[.agg #[.int .i64 y70.1.Next, .int .i64 y70.1.NextSession, .slice p72 y70.1.Processes.length c73], .int .i64 y70.2.1, .int .i64 y70.2.2]), (31, .agg #[.int .i64 y70.1.Next, .int .i64 y70.1.NextSession, .slice p72 y70.1.Processes.length c73]), (32, .int .i64 y70.2.1), (33, .int .i64 y70.2.2), (34, .int .i64 y70.2.2), (35, .bool (y70.2.2 != 0)), (36, .bool (y70.2.2 != 0)), (37, .pointer (some ⟨g60, 2, none⟩)), (38, .slice p72 y70.1.Processes.length c73), (39, .int .i64 (y70.1.Processes.length : Int)), (40, .bool ((y70.1.Processes.length : Int) != 2)), (41, .bool ((y70.1.Processes.length : Int) != 2)), (42, .agg #[.int .i64 y70.1.Next, .int .i64 y70.1.NextSession, .slice p72 y70.1.Processes.length c73]), (43, .agg #[.int .i64 y132.Next, .int .i64 y132.NextSession, .slice p134 (((y132.Processes.set (1 : Int).toNat (⟨u157.PID, u157.PPID, (IntKind.wrap .i64 (1 + (IntKind.wrap .i64 a1))), u157.EUID, u157.GID, u157.EGID, u157.AUID, u157.Session, u157.Cwd, u157.Comm, u157.Exe, u157.Open, u157.Audited⟩ : api_Process)).set (1 : Int).toNat (⟨u174.PID, u174.PPID, u174.UID, (IntKind.wrap .i64 (1 + (IntKind.wrap .i64 a2))), u174.GID, u174.EGID, u174.AUID, u174.Session, u174.Cwd, u174.Comm, u174.Exe, u174.Open, u174.Audited⟩ : api_Process)).length) c135]), (44, .pointer (some ⟨g60, 2, none⟩)), (45, .slice p134 (((y132.Processes.set (1 : Int).toNat (⟨u157.PID, u157.PPID, (IntKind.wrap .i64 (1 + (IntKind.wrap .i64 a1))), u157.EUID, u157.GID, u157.EGID, u157.AUID, u157.Session, u157.Cwd, u157.Comm, u157.Exe, u157.Open, u157.Audited⟩ : api_Process)).set (1 : Int).toNat (⟨u174.PID, u174.PPID, u174.UID, (IntKind.wrap .i64 (1 + (IntKind.wrap .i64 a2))), u174.GID, u174.EGID, u174.AUID, u174.Session, u174.Cwd, u174.Comm, u174.Exe, u174.Open, u174.Audited⟩ : api_Process)).length) c135), (46, .pointer (some ⟨g60, 2, none⟩)), (47, .slice p134 (((y132.Processes.set (1 : Int).toNat (⟨u157.PID, u157.PPID, (IntKind.wrap .i64 (1 + (IntKind.wrap .i64 a1))), u157.EUID, u157.GID, u157.EGID, u157.AUID, u157.Session, u157.Cwd, u157.Comm, u157.Exe, u157.Open, u157.Audited⟩ : api_Process)).set (1 : Int).toNat (⟨u174.PID, u174.PPID, u174.UID, (IntKind.wrap .i64 (1 + (IntKind.wrap .i64 a2))), u174.GID, u174.EGID, u174.AUID, u174.Session, u174.Cwd, u174.Comm, u174.Exe, u174.Open, u174.Audited⟩ : api_Process)).length) c135), (48, .int .i64 (IntKind.wrap .i64 (1 + (IntKind.wrap .i64 a1)))), (49, .int .i64 (IntKind.wrap .i64 (1 + (IntKind.wrap .i64 a2)))), (54, .int .i64 x2288), (55, .bool (decide (x2288 < 8))), (58, .tuple #[.agg #[.int .i64 y2333.1.Next, .int .i64 y2333.1.NextSession, .slice p2335 y2333.1.Processes.length c2336], .int .i64 y2333.2]), (59, .agg #[.int .i64 x2290, .int .i64 x2291, .slice p2293 x2292.length c2294]), (60, .int .i64 y70.2.1), (61, .pointer (some ⟨g22, 0, none⟩)), (62, .int .i64 (IntKind.wrap .i64 (1 + (IntKind.wrap .i64 a1)))), (63, .int .i64 (IntKind.wrap .i64 (1 + (IntKind.wrap .i64 a2)))), (64, .slice (some ⟨g2323, 0, none⟩) 5 5), (65, .int .i64 y2328.1), (66, .tuple #[.agg #[.int .i64 y2333.1.Next, .int .i64 y2333.1.NextSession, .slice p2335 y2333.1.Processes.length c2336], .int .i64 y2333.2]), (67, .agg #[.int .i64 y2333.1.Next, .int .i64 y2333.1.NextSession, .slice p2335 y2333.1.Processes.length c2336]), (68, .int .i64 y2333.2)] ∧ St w Nil Z w_ [vw (kSlice 3 (kInt .i64)) a0 [.slice p3 a0.length c4], vw (kSlice 38 k_api_Process) y52.Processes [.slice p54 y52.Processes.length c55], vw (kSlice 38 k_api_Process) y70.1.Processes [.slice p72 y70.1.Processes.length c73], vw (kSlice 38 k_api_Process) ((y132.Processes.set (1 : Int).toNat (⟨u157.PID, u157.PPID, (IntKind.wrap .i64 (1 + (IntKind.wrap .i64 a1))), u157.EUID, u157.GID, u157.EGID, u157.AUID, u157.Session, u157.Cwd, u157.Comm, u157.Exe, u157.Open, u157.Audited⟩ : api_Process)).set (1 : Int).toNat (⟨u174.PID, u174.PPID, u174.UID, (IntKind.wrap .i64 (1 + (IntKind.wrap .i64 a2))), u174.GID, u174.EGID, u174.AUID, u174.Session, u174.Cwd, u174.Comm, u174.Exe, u174.Open, u174.Audited⟩ : api_Process)) [.slice p134 (((y132.Processes.set (1 : Int).toNat (⟨u157.PID, u157.PPID, (IntKind.wrap .i64 (1 + (IntKind.wrap .i64 a1))), u157.EUID, u157.GID, u157.EGID, u157.AUID, u157.Session, u157.Cwd, u157.Comm, u157.Exe, u157.Open, u157.Audited⟩ : api_Process)).set (1 : Int).toNat (⟨u174.PID, u174.PPID, u174.UID, (IntKind.wrap .i64 (1 + (IntKind.wrap .i64 a2))), u174.GID, u174.EGID, u174.AUID, u174.Session, u174.Cwd, u174.Comm, u174.Exe, u174.Open, u174.Audited⟩ : api_Process)).length) c135], vw (kSlice 38 k_api_Process) x2292 [.slice p2293 x2292.length c2294], vw (kSlice 3 (kInt .i64)) [0, (IntKind.wrap .i64 (1 + (IntKind.wrap .i64 a1))), (IntKind.wrap .i64 (1 + (IntKind.wrap .i64 a2))), 7, 4294967294] [.slice (some ⟨g2323, 0, none⟩) 5 5]] [[blk g22 [.slice p3 a0.length c4, .int .i64 (y2328.2)] 59], [], [blk g60 [.int .i64 x2290, .int .i64 x2291, .slice p2293 x2292.length c2294] 28], [], [], [], [row 38 k_api_Process y2333.1.Processes (.slice p2335 y2333.1.Processes.length c2336)], [blk g2347 [.int .i64 y2333.1.Next, .int .i64 y2333.1.NextSession, .slice p2335 y2333.1.Processes.length c2336] 28]] ∧ (if (y2333.2 == 0) = true then ((f_process_Get y2333.1 y70.2.1).bind fun y2376 => if y2376.2 = true then (if (y2376.1.UID != (IntKind.wrap .i64 (1 + (IntKind.wrap .i64 a1)))) = true then (some (Sum.inr (false))) else (if (y2376.1.EUID != (IntKind.wrap .i64 (1 + (IntKind.wrap .i64 a1)))) = true then (if (y2376.1.EUID != (IntKind.wrap .i64 (1 + (IntKind.wrap .i64 a2)))) = true then (some (Sum.inr (false))) else (f_kauditlaw09_ProcessDrops_l1 a0 a1 a2 y70 k2297 (IntKind.wrap .i64 (x2288 + 1)) (y2328.2) y2333.1.Next y2333.1.NextSession y2333.1.Processes)) else (f_kauditlaw09_ProcessDrops_l1 a0 a1 a2 y70 k2297 (IntKind.wrap .i64 (x2288 + 1)) (y2328.2) y2333.1.Next y2333.1.NextSession y2333.1.Processes))) else (some (Sum.inr (false)))) else ((f_process_Get (⟨x2290, x2291, x2292⟩ : api_Table) y70.2.1).bind fun y2538 => if y2538.2 = true then (if (y2538.1.UID != (IntKind.wrap .i64 (1 + (IntKind.wrap .i64 a1)))) = true then (some (Sum.inr (false))) else (if (y2538.1.EUID != (IntKind.wrap .i64 (1 + (IntKind.wrap .i64 a1)))) = true then (if (y2538.1.EUID != (IntKind.wrap .i64 (1 + (IntKind.wrap .i64 a2)))) = true then (some (Sum.inr (false))) else (f_kauditlaw09_ProcessDrops_l1 a0 a1 a2 y70 k2297 (IntKind.wrap .i64 (x2288 + 1)) (y2328.2) x2290 x2291 x2292)) else (f_kauditlaw09_ProcessDrops_l1 a0 a1 a2 y70 k2297 (IntKind.wrap .i64 (x2288 + 1)) (y2328.2) x2290 x2291 x2292))) else (some (Sum.inr (false))))) = some o2295) ?_ ?_
          · rintro a2356 w2357 ⟨g2347, y2333, p2335, c2336, g2323, y2328, E2358, H', h2359⟩
            clear H E2307; have H := H'; clear H'
            refine then_normal (hK2311 _ _ ?_)
            refine wp_seq_k fun _ hK2360 => ?_
            refine wp_region_lit ?_
            refine wl_cons (wl_val E2358 rfl (rn_move E2358 rfl rfl) rfl fun a2361 E2362 => ?_)
            clear E2358
            refine wl_cons (wl_val E2362 rfl (rn_int E2362 rfl rfl rfl rfl) rfl fun a2363 E2364 => ?_)
            clear E2362
            refine wl_nil ?_
            refine then_normal (hK2360 _ _ ?_)
            rcases Bool.eq_false_or_eq_true (y2333.2 == 0) with hb2365 | hb2365
            · replace h2359 := itT hb2365 h2359
              refine wc_T E2364 rfl hb2365 ?_
              refine wp_region_lit ?_
              refine wl_cons (wl_val E2364 rfl (rn_ldN (i := 7) [.int .i64 y2333.1.Next, .int .i64 y2333.1.NextSession, .slice p2335 y2333.1.Processes.length c2336] E2364 H rfl Try.underlying28 rfl ti28 rfl rfl rfl rfl) rfl fun a2366 E2367 => ?_)
              clear E2364
              refine wl_cons (wl_store (i := 2) (vs := [.int .i64 y2333.1.Next, .int .i64 y2333.1.NextSession, .slice p2335 y2333.1.Processes.length c2336]) (cs' := [.int .i64 y2333.1.Next, .int .i64 y2333.1.NextSession, .slice p2335 y2333.1.Processes.length c2336]) E2367 H rfl rfl rfl rfl ti28 rfl rfl rfl rfl rfl rfl fun w2370 a2368 E2369 H' => ?_)
              clear H E2367; have H := H'; clear H'
              refine wl_nil ?_
              refine then_normal (hK2310 _ _ ?_)
              refine wp_seq_k fun _ hK2371 => ?_
              refine wp_region_lit ?_
              refine wl_cons (wl_val E2369 rfl (rn_ldN (i := 2) [.int .i64 y2333.1.Next, .int .i64 y2333.1.NextSession, .slice p2335 y2333.1.Processes.length c2336] E2369 H rfl Try.underlying28 rfl ti28 rfl rfl rfl rfl) rfl fun a2372 E2373 => ?_)
              clear E2369
              refine wl_cons (wl_val E2373 rfl (rn_move E2373 rfl rfl) rfl fun a2374 E2375 => ?_)
              clear E2373
              obtain ⟨y2376, hy2377, h2359⟩ := bs h2359
              refine wl_cons (wl_funFlat E2375 H rfl (rn_call (args := [.agg #[.int .i64 y2333.1.Next, .int .i64 y2333.1.NextSession, .slice p2335 y2333.1.Processes.length c2336], .int .i64 y70.2.1]) E2375 rfl rfl rfl Try.func14 nm14 rfl) rfl (by exact fun Z S hA hL => ⟨(Holds_row hL (i := 6) rfl), trivial⟩) (C14 y2333.1 y70.2.1 p2335 c2336 _ _ hy2377) C14_flat ?_)
              rintro v_ A_ N_ w2383 a2381 ⟨p2378, c2379, rfl, rfl, rfl⟩ E2382 H'
              replace H := H'; clear H' E2375
              replace H : St w Nil Z w2383 [vw (kSlice 3 (kInt .i64)) a0 [.slice p3 a0.length c4], vw (kSlice 38 k_api_Process) y52.Processes [.slice p54 y52.Processes.length c55], vw (kSlice 38 k_api_Process) y70.1.Processes [.slice p72 y70.1.Processes.length c73], vw (kSlice 38 k_api_Process) ((y132.Processes.set (1 : Int).toNat (⟨u157.PID, u157.PPID, (IntKind.wrap .i64 (1 + (IntKind.wrap .i64 a1))), u157.EUID, u157.GID, u157.EGID, u157.AUID, u157.Session, u157.Cwd, u157.Comm, u157.Exe, u157.Open, u157.Audited⟩ : api_Process)).set (1 : Int).toNat (⟨u174.PID, u174.PPID, u174.UID, (IntKind.wrap .i64 (1 + (IntKind.wrap .i64 a2))), u174.GID, u174.EGID, u174.AUID, u174.Session, u174.Cwd, u174.Comm, u174.Exe, u174.Open, u174.Audited⟩ : api_Process)) [.slice p134 (((y132.Processes.set (1 : Int).toNat (⟨u157.PID, u157.PPID, (IntKind.wrap .i64 (1 + (IntKind.wrap .i64 a1))), u157.EUID, u157.GID, u157.EGID, u157.AUID, u157.Session, u157.Cwd, u157.Comm, u157.Exe, u157.Open, u157.Audited⟩ : api_Process)).set (1 : Int).toNat (⟨u174.PID, u174.PPID, u174.UID, (IntKind.wrap .i64 (1 + (IntKind.wrap .i64 a2))), u174.GID, u174.EGID, u174.AUID, u174.Session, u174.Cwd, u174.Comm, u174.Exe, u174.Open, u174.Audited⟩ : api_Process)).length) c135], vw (kSlice 38 k_api_Process) x2292 [.slice p2293 x2292.length c2294], vw (kSlice 3 (kInt .i64)) [0, (IntKind.wrap .i64 (1 + (IntKind.wrap .i64 a1))), (IntKind.wrap .i64 (1 + (IntKind.wrap .i64 a2))), 7, 4294967294] [.slice (some ⟨g2323, 0, none⟩) 5 5]] [[blk g22 [.slice p3 a0.length c4, .int .i64 (y2328.2)] 59], [], [blk g60 [.int .i64 y2333.1.Next, .int .i64 y2333.1.NextSession, .slice p2335 y2333.1.Processes.length c2336] 28], [], [], [], [row 38 k_api_Process y2333.1.Processes (.slice p2335 y2333.1.Processes.length c2336)], [blk g2347 [.int .i64 y2333.1.Next, .int .i64 y2333.1.NextSession, .slice p2335 y2333.1.Processes.length c2336] 28], [row 81 k_api_Descriptor y2376.1.Open (.slice p2378 y2376.1.Open.length c2379)]] := H
              refine wl_cons (wl_val E2382 rfl (rn_move E2382 rfl rfl) rfl fun a2384 E2385 => ?_)
              clear E2382
              refine wl_cons (wl_val E2385 rfl (rn_extract E2385 rfl rfl rfl) rfl fun a2386 E2387 => ?_)
              clear E2385
              refine wl_cons (wl_val E2387 rfl (rn_extract E2387 rfl rfl rfl) rfl fun a2388 E2389 => ?_)
              clear E2387
              refine wl_cons (wl_alloc (cs := [.int .i64 0, .int .i64 0, .int .i64 0, .int .i64 0, .int .i64 0, .int .i64 0, .int .i64 0, .int .i64 0, .int .i64 0, .int .i64 0, .string (⟨#[]⟩ : ByteArray), .string (⟨#[]⟩ : ByteArray), .slice none 0 0, .bool false]) E2389 H rfl ti38 rfl rfl fun g2390 w2391 a2392 E2393 H' => ?_)
              clear H E2389; have H := H'; clear H'
              refine wl_cons (wl_store (i := 9) (vs := [.int .i64 y2376.1.PID, .int .i64 y2376.1.PPID, .int .i64 y2376.1.UID, .int .i64 y2376.1.EUID, .int .i64 y2376.1.GID, .int .i64 y2376.1.EGID, .int .i64 y2376.1.AUID, .int .i64 y2376.1.Session, .int .i64 y2376.1.Cwd.Dev, .int .i64 y2376.1.Cwd.Ino, .string y2376.1.Comm, .string y2376.1.Exe, .slice p2378 y2376.1.Open.length c2379, .bool y2376.1.Audited]) (cs' := [.int .i64 y2376.1.PID, .int .i64 y2376.1.PPID, .int .i64 y2376.1.UID, .int .i64 y2376.1.EUID, .int .i64 y2376.1.GID, .int .i64 y2376.1.EGID, .int .i64 y2376.1.AUID, .int .i64 y2376.1.Session, .int .i64 y2376.1.Cwd.Dev, .int .i64 y2376.1.Cwd.Ino, .string y2376.1.Comm, .string y2376.1.Exe, .slice p2378 y2376.1.Open.length c2379, .bool y2376.1.Audited]) E2393 H rfl rfl rfl rfl ti38 rfl rfl rfl rfl rfl rfl fun w2396 a2394 E2395 H' => ?_)
              clear H E2393; have H := H'; clear H'
              refine wl_cons (wl_val E2395 rfl (rn_assign E2395 rfl rfl) rfl fun a2397 E2398 => ?_)
              clear E2395
              refine wl_nil ?_
              refine then_normal (hK2371 _ _ ?_)
              refine wp_seq_k fun _ hK2399 => ?_
              refine wp_region_lit ?_
              refine wl_cons (wl_val E2398 rfl (rn_move E2398 rfl rfl) rfl fun a2400 E2401 => ?_)
              clear E2398
              refine wl_cons (wl_val E2401 rfl (rn_not E2401 rfl rfl) rfl fun a2402 E2403 => ?_)
              clear E2401
              refine wl_cons (wl_val E2403 rfl (rn_move E2403 rfl rfl) rfl fun a2404 E2405 => ?_)
              clear E2403
              rcases Bool.eq_false_or_eq_true y2376.2 with hb2406 | hb2406
              · replace h2359 := itT hb2406 h2359
                refine wl_cons (wl_val E2405 (E2405.wantedB rfl rfl rfl (congrArg Bool.not hb2406)) (rn_fieldAddr E2405 rfl Try.underlying38 rfl ti3 rfl rfl) rfl fun a2407 E2408 => ?_)
                clear E2405
                refine wl_cons (wl_val E2408 (E2408.wantedB rfl rfl rfl (congrArg Bool.not hb2406)) (rn_ld1 (i := 9) E2408 H rfl Try.underlying3 rfl rfl rfl rfl) rfl fun a2409 E2410 => ?_)
                clear E2408
                refine wl_cons (wl_val E2410 (E2410.wantedB rfl rfl rfl (congrArg Bool.not hb2406)) (rn_move E2410 rfl rfl) rfl fun a2411 E2412 => ?_)
                clear E2410
                refine wl_cons (wl_val E2412 (E2412.wantedB rfl rfl rfl (congrArg Bool.not hb2406)) (rn_int E2412 rfl rfl rfl rfl) rfl fun a2413 E2414 => ?_)
                clear E2412
                refine wl_cons (wl_val E2414 rfl (rn_pickF E2414 rfl rfl (congrArg Bool.not hb2406) rfl) rfl fun a2415 E2416 => ?_)
                clear E2414
                refine wl_cons (wl_val E2416 rfl (rn_move E2416 rfl rfl) rfl fun a2417 E2418 => ?_)
                clear E2416
                rcases Bool.eq_false_or_eq_true (y2376.1.UID != (IntKind.wrap .i64 (1 + (IntKind.wrap .i64 a1)))) with hb2419 | hb2419
                · replace h2359 := itT hb2419 h2359
                  refine wl_cons (wl_pass E2418 (E2418.unwanted rfl rfl rfl hb2419) rfl fun a2420 E2421 => ?_)
                  clear E2418
                  refine wl_cons (wl_pass E2421 (E2421.unwanted rfl rfl rfl hb2419) rfl fun a2422 E2423 => ?_)
                  clear E2421
                  refine wl_cons (wl_pass E2423 (E2423.unwanted rfl rfl rfl hb2419) rfl fun a2424 E2425 => ?_)
                  clear E2423
                  refine wl_cons (wl_pass E2425 (E2425.unwanted rfl rfl rfl hb2419) rfl fun a2426 E2427 => ?_)
                  clear E2425
                  refine wl_cons (wl_pass E2427 (E2427.unwanted rfl rfl rfl hb2419) rfl fun a2428 E2429 => ?_)
                  clear E2427
                  refine wl_cons (wl_pass E2429 (E2429.unwanted0 rfl rfl rfl) rfl fun a2430 E2431 => ?_)
                  clear E2429
                  refine wl_cons (wl_pass E2431 (E2431.unwanted0 rfl rfl rfl) rfl fun a2432 E2433 => ?_)
                  clear E2431
                  refine wl_cons (wl_pass E2433 (E2433.unwanted0 rfl rfl rfl) rfl fun a2434 E2435 => ?_)
                  clear E2433
                  refine wl_cons (wl_pass E2435 (E2435.unwanted0 rfl rfl rfl) rfl fun a2436 E2437 => ?_)
                  clear E2435
                  refine wl_cons (wl_pass E2437 (E2437.unwanted rfl rfl rfl hb2419) rfl fun a2438 E2439 => ?_)
                  clear E2437
                  refine wl_cons (wl_val E2439 rfl (rn_pickT E2439 rfl rfl hb2419 rfl) rfl fun a2440 E2441 => ?_)
                  clear E2439
                  refine wl_nil ?_
                  refine then_normal (hK2399 _ _ ?_)
                  refine wc_T E2441 rfl rfl ?_
                  refine wp_seq_k fun _ hK2442 => ?_
                  refine wp_region_lit ?_
                  refine wl_cons (wl_val E2441 rfl (rn_assign E2441 rfl rfl) rfl fun a2443 E2444 => ?_)
                  clear E2441
                  refine wl_nil ?_
                  refine then_normal (hK2442 _ _ ?_)
                  refine wp_ret ?_
                  obtain rfl := Option.some.inj h2359
                  try dsimp only at h
                  refine block_ret (then_ret (then_ret (block_ret (then_ret (?_)))))
                  obtain rfl := Option.some.inj h
                  refine wb_ret1 E2444 rfl (rv_tmp E2444 rfl) ?_
                  exact ⟨_, rfl, [], [], ⟨rfl, rfl, rfl⟩, H.leave (fun Z hA => trivial) (fun Z S hA hL => trivial)⟩
                · replace h2359 := itF hb2419 h2359
                  refine wl_cons (wl_val E2418 (E2418.wantedB rfl rfl rfl hb2419) (rn_fieldAddr E2418 rfl Try.underlying38 rfl ti3 rfl rfl) rfl fun a2445 E2446 => ?_)
                  clear E2418
                  refine wl_cons (wl_val E2446 (E2446.wantedB rfl rfl rfl hb2419) (rn_ld1 (i := 9) E2446 H rfl Try.underlying3 rfl rfl rfl rfl) rfl fun a2447 E2448 => ?_)
                  clear E2446
                  refine wl_cons (wl_val E2448 (E2448.wantedB rfl rfl rfl hb2419) (rn_move E2448 rfl rfl) rfl fun a2449 E2450 => ?_)
                  clear E2448
                  refine wl_cons (wl_val E2450 (E2450.wantedB rfl rfl rfl hb2419) (rn_int E2450 rfl rfl rfl rfl) rfl fun a2451 E2452 => ?_)
                  clear E2450
                  refine wl_cons (wl_val E2452 (E2452.wantedB rfl rfl rfl hb2419) (rn_move E2452 rfl rfl) rfl fun a2453 E2454 => ?_)
                  clear E2452
                  rcases Bool.eq_false_or_eq_true (y2376.1.EUID != (IntKind.wrap .i64 (1 + (IntKind.wrap .i64 a1)))) with hb2455 | hb2455
                  · replace h2359 := itT hb2455 h2359
                    refine wl_cons (wl_val E2454 (E2454.wantedB rfl rfl rfl hb2455) (rn_fieldAddr E2454 rfl Try.underlying38 rfl ti3 rfl rfl) rfl fun a2456 E2457 => ?_)
                    clear E2454
                    refine wl_cons (wl_val E2457 (E2457.wantedB rfl rfl rfl hb2455) (rn_ld1 (i := 9) E2457 H rfl Try.underlying3 rfl rfl rfl rfl) rfl fun a2458 E2459 => ?_)
                    clear E2457
                    refine wl_cons (wl_val E2459 (E2459.wantedB rfl rfl rfl hb2455) (rn_move E2459 rfl rfl) rfl fun a2460 E2461 => ?_)
                    clear E2459
                    refine wl_cons (wl_val E2461 (E2461.wantedB rfl rfl rfl hb2455) (rn_int E2461 rfl rfl rfl rfl) rfl fun a2462 E2463 => ?_)
                    clear E2461
                    refine wl_cons (wl_val E2463 (E2463.wantedB rfl rfl rfl hb2419) (rn_pickT E2463 rfl rfl hb2455 rfl) rfl fun a2464 E2465 => ?_)
                    clear E2463
                    refine wl_cons (wl_val E2465 rfl (rn_pickF E2465 rfl rfl hb2419 rfl) rfl fun a2466 E2467 => ?_)
                    clear E2465
                    refine wl_nil ?_
                    refine then_normal (hK2399 _ _ ?_)
                    rcases Bool.eq_false_or_eq_true (y2376.1.EUID != (IntKind.wrap .i64 (1 + (IntKind.wrap .i64 a2)))) with hb2468 | hb2468
                    · replace h2359 := itT hb2468 h2359
                      refine wc_T E2467 rfl hb2468 ?_
                      refine wp_seq_k fun _ hK2469 => ?_
                      refine wp_region_lit ?_
                      refine wl_cons (wl_val E2467 rfl (rn_assign E2467 rfl rfl) rfl fun a2470 E2471 => ?_)
                      clear E2467
                      refine wl_nil ?_
                      refine then_normal (hK2469 _ _ ?_)
                      refine wp_ret ?_
                      obtain rfl := Option.some.inj h2359
                      try dsimp only at h
                      refine block_ret (then_ret (then_ret (block_ret (then_ret (?_)))))
                      obtain rfl := Option.some.inj h
                      refine wb_ret1 E2471 rfl (rv_tmp E2471 rfl) ?_
                      exact ⟨_, rfl, [], [], ⟨rfl, rfl, rfl⟩, H.leave (fun Z hA => trivial) (fun Z S hA hL => trivial)⟩
                    · replace h2359 := itF hb2468 h2359
                      refine wc_F E2467 rfl hb2468 ?_
                      refine wp_skip ?_
                      refine block_normal ?_
                      refine then_normal (hK2309 _ _ ?_)
                      refine wp_region_lit ?_
                      refine wl_cons (wl_val E2467 rfl (rn_move E2467 rfl rfl) rfl fun a2472 E2473 => ?_)
                      clear E2467
                      refine wl_cons (wl_val E2473 rfl (rn_int E2473 rfl rfl rfl rfl) rfl fun a2474 E2475 => ?_)
                      clear E2473
                      refine wl_cons (wl_val E2475 rfl (rn_assign E2475 rfl rfl) rfl fun a2476 E2477 => ?_)
                      clear E2475
                      refine wl_nil ?_
                      replace H := H.share (i := 6) (A' := [vw (kSlice 38 k_api_Process) y2333.1.Processes [.slice p2335 y2333.1.Processes.length c2336]]) (by intro b h; exact h) rfl (fun Z S1 h => ⟨rowH.read h.1, trivial⟩)
                      replace H : St w Nil Z w2396 [vw (kSlice 3 (kInt .i64)) a0 [.slice p3 a0.length c4], vw (kSlice 38 k_api_Process) y52.Processes [.slice p54 y52.Processes.length c55], vw (kSlice 38 k_api_Process) y70.1.Processes [.slice p72 y70.1.Processes.length c73], vw (kSlice 38 k_api_Process) ((y132.Processes.set (1 : Int).toNat (⟨u157.PID, u157.PPID, (IntKind.wrap .i64 (1 + (IntKind.wrap .i64 a1))), u157.EUID, u157.GID, u157.EGID, u157.AUID, u157.Session, u157.Cwd, u157.Comm, u157.Exe, u157.Open, u157.Audited⟩ : api_Process)).set (1 : Int).toNat (⟨u174.PID, u174.PPID, u174.UID, (IntKind.wrap .i64 (1 + (IntKind.wrap .i64 a2))), u174.GID, u174.EGID, u174.AUID, u174.Session, u174.Cwd, u174.Comm, u174.Exe, u174.Open, u174.Audited⟩ : api_Process)) [.slice p134 (((y132.Processes.set (1 : Int).toNat (⟨u157.PID, u157.PPID, (IntKind.wrap .i64 (1 + (IntKind.wrap .i64 a1))), u157.EUID, u157.GID, u157.EGID, u157.AUID, u157.Session, u157.Cwd, u157.Comm, u157.Exe, u157.Open, u157.Audited⟩ : api_Process)).set (1 : Int).toNat (⟨u174.PID, u174.PPID, u174.UID, (IntKind.wrap .i64 (1 + (IntKind.wrap .i64 a2))), u174.GID, u174.EGID, u174.AUID, u174.Session, u174.Cwd, u174.Comm, u174.Exe, u174.Open, u174.Audited⟩ : api_Process)).length) c135], vw (kSlice 38 k_api_Process) x2292 [.slice p2293 x2292.length c2294], vw (kSlice 3 (kInt .i64)) [0, (IntKind.wrap .i64 (1 + (IntKind.wrap .i64 a1))), (IntKind.wrap .i64 (1 + (IntKind.wrap .i64 a2))), 7, 4294967294] [.slice (some ⟨g2323, 0, none⟩) 5 5], vw (kSlice 38 k_api_Process) y2333.1.Processes [.slice p2335 y2333.1.Processes.length c2336]] ([[blk g22 [.slice p3 a0.length c4, .int .i64 (y2328.2)] 59], [], [blk g60 [.int .i64 y2333.1.Next, .int .i64 y2333.1.NextSession, .slice p2335 y2333.1.Processes.length c2336] 28], [], []] ++ [[], [], [blk g2347 [.int .i64 y2333.1.Next, .int .i64 y2333.1.NextSession, .slice p2335 y2333.1.Processes.length c2336] 28], [row 81 k_api_Descriptor y2376.1.Open (.slice p2378 y2376.1.Open.length c2379)], [blk g2390 [.int .i64 y2376.1.PID, .int .i64 y2376.1.PPID, .int .i64 y2376.1.UID, .int .i64 y2376.1.EUID, .int .i64 y2376.1.GID, .int .i64 y2376.1.EGID, .int .i64 y2376.1.AUID, .int .i64 y2376.1.Session, .int .i64 y2376.1.Cwd.Dev, .int .i64 y2376.1.Cwd.Ino, .string y2376.1.Comm, .string y2376.1.Exe, .slice p2378 y2376.1.Open.length c2379, .bool y2376.1.Audited] 38]]) := H
                      exact ⟨(IntKind.wrap .i64 (x2288 + 1)), (y2328.2), y2333.1.Next, y2333.1.NextSession, y2333.1.Processes, p2335, c2336, E2477.pick ⟨rfl, rfl, rfl, rfl, rfl, rfl, rfl, rfl, rfl, rfl, rfl, rfl, rfl, rfl, rfl, rfl, rfl, rfl, rfl, rfl, rfl, rfl, rfl, rfl, rfl, rfl, rfl, rfl, rfl, rfl, rfl, rfl, rfl, rfl, rfl, rfl, rfl, rfl, rfl, rfl, rfl, rfl, rfl, trivial⟩, H.front.sel (fun Z hA => ⟨(argHolds_get hA (k := 0) rfl), (argHolds_get hA (k := 1) rfl), (argHolds_get hA (k := 2) rfl), (argHolds_get hA (k := 3) rfl), (argHolds_get hA (k := 6) rfl), trivial⟩), h2359⟩
                  · replace h2359 := itF hb2455 h2359
                    refine wl_cons (wl_pass E2454 (E2454.unwanted rfl rfl rfl hb2455) rfl fun a2478 E2479 => ?_)
                    clear E2454
                    refine wl_cons (wl_pass E2479 (E2479.unwanted rfl rfl rfl hb2455) rfl fun a2480 E2481 => ?_)
                    clear E2479
                    refine wl_cons (wl_pass E2481 (E2481.unwanted rfl rfl rfl hb2455) rfl fun a2482 E2483 => ?_)
                    clear E2481
                    refine wl_cons (wl_pass E2483 (E2483.unwanted rfl rfl rfl hb2455) rfl fun a2484 E2485 => ?_)
                    clear E2483
                    refine wl_cons (wl_val E2485 (E2485.wantedB rfl rfl rfl hb2419) (rn_pickF E2485 rfl rfl hb2455 rfl) rfl fun a2486 E2487 => ?_)
                    clear E2485
                    refine wl_cons (wl_val E2487 rfl (rn_pickF E2487 rfl rfl hb2419 rfl) rfl fun a2488 E2489 => ?_)
                    clear E2487
                    refine wl_nil ?_
                    refine then_normal (hK2399 _ _ ?_)
                    refine wc_F E2489 rfl rfl ?_
                    refine wp_skip ?_
                    refine block_normal ?_
                    refine then_normal (hK2309 _ _ ?_)
                    refine wp_region_lit ?_
                    refine wl_cons (wl_val E2489 rfl (rn_move E2489 rfl rfl) rfl fun a2490 E2491 => ?_)
                    clear E2489
                    refine wl_cons (wl_val E2491 rfl (rn_int E2491 rfl rfl rfl rfl) rfl fun a2492 E2493 => ?_)
                    clear E2491
                    refine wl_cons (wl_val E2493 rfl (rn_assign E2493 rfl rfl) rfl fun a2494 E2495 => ?_)
                    clear E2493
                    refine wl_nil ?_
                    replace H := H.share (i := 6) (A' := [vw (kSlice 38 k_api_Process) y2333.1.Processes [.slice p2335 y2333.1.Processes.length c2336]]) (by intro b h; exact h) rfl (fun Z S1 h => ⟨rowH.read h.1, trivial⟩)
                    replace H : St w Nil Z w2396 [vw (kSlice 3 (kInt .i64)) a0 [.slice p3 a0.length c4], vw (kSlice 38 k_api_Process) y52.Processes [.slice p54 y52.Processes.length c55], vw (kSlice 38 k_api_Process) y70.1.Processes [.slice p72 y70.1.Processes.length c73], vw (kSlice 38 k_api_Process) ((y132.Processes.set (1 : Int).toNat (⟨u157.PID, u157.PPID, (IntKind.wrap .i64 (1 + (IntKind.wrap .i64 a1))), u157.EUID, u157.GID, u157.EGID, u157.AUID, u157.Session, u157.Cwd, u157.Comm, u157.Exe, u157.Open, u157.Audited⟩ : api_Process)).set (1 : Int).toNat (⟨u174.PID, u174.PPID, u174.UID, (IntKind.wrap .i64 (1 + (IntKind.wrap .i64 a2))), u174.GID, u174.EGID, u174.AUID, u174.Session, u174.Cwd, u174.Comm, u174.Exe, u174.Open, u174.Audited⟩ : api_Process)) [.slice p134 (((y132.Processes.set (1 : Int).toNat (⟨u157.PID, u157.PPID, (IntKind.wrap .i64 (1 + (IntKind.wrap .i64 a1))), u157.EUID, u157.GID, u157.EGID, u157.AUID, u157.Session, u157.Cwd, u157.Comm, u157.Exe, u157.Open, u157.Audited⟩ : api_Process)).set (1 : Int).toNat (⟨u174.PID, u174.PPID, u174.UID, (IntKind.wrap .i64 (1 + (IntKind.wrap .i64 a2))), u174.GID, u174.EGID, u174.AUID, u174.Session, u174.Cwd, u174.Comm, u174.Exe, u174.Open, u174.Audited⟩ : api_Process)).length) c135], vw (kSlice 38 k_api_Process) x2292 [.slice p2293 x2292.length c2294], vw (kSlice 3 (kInt .i64)) [0, (IntKind.wrap .i64 (1 + (IntKind.wrap .i64 a1))), (IntKind.wrap .i64 (1 + (IntKind.wrap .i64 a2))), 7, 4294967294] [.slice (some ⟨g2323, 0, none⟩) 5 5], vw (kSlice 38 k_api_Process) y2333.1.Processes [.slice p2335 y2333.1.Processes.length c2336]] ([[blk g22 [.slice p3 a0.length c4, .int .i64 (y2328.2)] 59], [], [blk g60 [.int .i64 y2333.1.Next, .int .i64 y2333.1.NextSession, .slice p2335 y2333.1.Processes.length c2336] 28], [], []] ++ [[], [], [blk g2347 [.int .i64 y2333.1.Next, .int .i64 y2333.1.NextSession, .slice p2335 y2333.1.Processes.length c2336] 28], [row 81 k_api_Descriptor y2376.1.Open (.slice p2378 y2376.1.Open.length c2379)], [blk g2390 [.int .i64 y2376.1.PID, .int .i64 y2376.1.PPID, .int .i64 y2376.1.UID, .int .i64 y2376.1.EUID, .int .i64 y2376.1.GID, .int .i64 y2376.1.EGID, .int .i64 y2376.1.AUID, .int .i64 y2376.1.Session, .int .i64 y2376.1.Cwd.Dev, .int .i64 y2376.1.Cwd.Ino, .string y2376.1.Comm, .string y2376.1.Exe, .slice p2378 y2376.1.Open.length c2379, .bool y2376.1.Audited] 38]]) := H
                    exact ⟨(IntKind.wrap .i64 (x2288 + 1)), (y2328.2), y2333.1.Next, y2333.1.NextSession, y2333.1.Processes, p2335, c2336, E2495.pick ⟨rfl, rfl, rfl, rfl, rfl, rfl, rfl, rfl, rfl, rfl, rfl, rfl, rfl, rfl, rfl, rfl, rfl, rfl, rfl, rfl, rfl, rfl, rfl, rfl, rfl, rfl, rfl, rfl, rfl, rfl, rfl, rfl, rfl, rfl, rfl, rfl, rfl, rfl, rfl, rfl, rfl, rfl, rfl, trivial⟩, H.front.sel (fun Z hA => ⟨(argHolds_get hA (k := 0) rfl), (argHolds_get hA (k := 1) rfl), (argHolds_get hA (k := 2) rfl), (argHolds_get hA (k := 3) rfl), (argHolds_get hA (k := 6) rfl), trivial⟩), h2359⟩
              · replace h2359 := itF hb2406 h2359
                refine wl_cons (wl_pass E2405 (E2405.unwanted rfl rfl rfl (congrArg Bool.not hb2406)) rfl fun a2496 E2497 => ?_)
                clear E2405
                refine wl_cons (wl_pass E2497 (E2497.unwanted rfl rfl rfl (congrArg Bool.not hb2406)) rfl fun a2498 E2499 => ?_)
                clear E2497
                refine wl_cons (wl_pass E2499 (E2499.unwanted rfl rfl rfl (congrArg Bool.not hb2406)) rfl fun a2500 E2501 => ?_)
                clear E2499
                refine wl_cons (wl_pass E2501 (E2501.unwanted rfl rfl rfl (congrArg Bool.not hb2406)) rfl fun a2502 E2503 => ?_)
                clear E2501
                refine wl_cons (wl_val E2503 rfl (rn_pickT E2503 rfl rfl (congrArg Bool.not hb2406) rfl) rfl fun a2504 E2505 => ?_)
                clear E2503
                refine wl_cons (wl_val E2505 rfl (rn_move E2505 rfl rfl) rfl fun a2506 E2507 => ?_)
                clear E2505
                refine wl_cons (wl_pass E2507 (E2507.unwanted rfl rfl rfl rfl) rfl fun a2508 E2509 => ?_)
                clear E2507
                refine wl_cons (wl_pass E2509 (E2509.unwanted rfl rfl rfl rfl) rfl fun a2510 E2511 => ?_)
                clear E2509
                refine wl_cons (wl_pass E2511 (E2511.unwanted rfl rfl rfl rfl) rfl fun a2512 E2513 => ?_)
                clear E2511
                refine wl_cons (wl_pass E2513 (E2513.unwanted rfl rfl rfl rfl) rfl fun a2514 E2515 => ?_)
                clear E2513
                refine wl_cons (wl_pass E2515 (E2515.unwanted rfl rfl rfl rfl) rfl fun a2516 E2517 => ?_)
                clear E2515
                refine wl_cons (wl_pass E2517 (E2517.unwanted0 rfl rfl rfl) rfl fun a2518 E2519 => ?_)
                clear E2517
                refine wl_cons (wl_pass E2519 (E2519.unwanted0 rfl rfl rfl) rfl fun a2520 E2521 => ?_)
                clear E2519
                refine wl_cons (wl_pass E2521 (E2521.unwanted0 rfl rfl rfl) rfl fun a2522 E2523 => ?_)
                clear E2521
                refine wl_cons (wl_pass E2523 (E2523.unwanted0 rfl rfl rfl) rfl fun a2524 E2525 => ?_)
                clear E2523
                refine wl_cons (wl_pass E2525 (E2525.unwanted rfl rfl rfl rfl) rfl fun a2526 E2527 => ?_)
                clear E2525
                refine wl_cons (wl_val E2527 rfl (rn_pickT E2527 rfl rfl rfl rfl) rfl fun a2528 E2529 => ?_)
                clear E2527
                refine wl_nil ?_
                refine then_normal (hK2399 _ _ ?_)
                refine wc_T E2529 rfl rfl ?_
                refine wp_seq_k fun _ hK2530 => ?_
                refine wp_region_lit ?_
                refine wl_cons (wl_val E2529 rfl (rn_assign E2529 rfl rfl) rfl fun a2531 E2532 => ?_)
                clear E2529
                refine wl_nil ?_
                refine then_normal (hK2530 _ _ ?_)
                refine wp_ret ?_
                obtain rfl := Option.some.inj h2359
                try dsimp only at h
                refine block_ret (then_ret (then_ret (block_ret (then_ret (?_)))))
                obtain rfl := Option.some.inj h
                refine wb_ret1 E2532 rfl (rv_tmp E2532 rfl) ?_
                exact ⟨_, rfl, [], [], ⟨rfl, rfl, rfl⟩, H.leave (fun Z hA => trivial) (fun Z S hA hL => trivial)⟩
            · replace h2359 := itF hb2365 h2359
              refine wc_F E2364 rfl hb2365 ?_
              refine wp_skip ?_
              refine then_normal (hK2310 _ _ ?_)
              refine wp_seq_k fun _ hK2533 => ?_
              refine wp_region_lit ?_
              refine wl_cons (wl_val E2364 rfl (rn_ldN (i := 2) [.int .i64 x2290, .int .i64 x2291, .slice p2293 x2292.length c2294] E2364 H rfl Try.underlying28 rfl ti28 rfl rfl rfl rfl) rfl fun a2534 E2535 => ?_)
              clear E2364
              refine wl_cons (wl_val E2535 rfl (rn_move E2535 rfl rfl) rfl fun a2536 E2537 => ?_)
              clear E2535
              obtain ⟨y2538, hy2539, h2359⟩ := bs h2359
              refine wl_cons (wl_fun E2537 H rfl (rn_call (args := [.agg #[.int .i64 x2290, .int .i64 x2291, .slice p2293 x2292.length c2294], .int .i64 y70.2.1]) E2537 rfl rfl rfl Try.func14 nm14 rfl) rfl (by exact fun Z hA => ⟨(argHolds_get hA (k := 4) rfl), trivial⟩) (C14 (⟨x2290, x2291, x2292⟩ : api_Table) y70.2.1 p2293 c2294 _ _ hy2539) ?_)
              rintro v_ A_ N_ w2545 a2543 ⟨p2540, c2541, rfl, rfl, rfl⟩ E2544 H'
              replace H := H'; clear H' E2537
              refine wl_cons (wl_val E2544 rfl (rn_move E2544 rfl rfl) rfl fun a2546 E2547 => ?_)
              clear E2544
              refine wl_cons (wl_val E2547 rfl (rn_extract E2547 rfl rfl rfl) rfl fun a2548 E2549 => ?_)
              clear E2547
              refine wl_cons (wl_val E2549 rfl (rn_extract E2549 rfl rfl rfl) rfl fun a2550 E2551 => ?_)
              clear E2549
              refine wl_cons (wl_alloc (cs := [.int .i64 0, .int .i64 0, .int .i64 0, .int .i64 0, .int .i64 0, .int .i64 0, .int .i64 0, .int .i64 0, .int .i64 0, .int .i64 0, .string (⟨#[]⟩ : ByteArray), .string (⟨#[]⟩ : ByteArray), .slice none 0 0, .bool false]) E2551 H rfl ti38 rfl rfl fun g2552 w2553 a2554 E2555 H' => ?_)
              clear H E2551; have H := H'; clear H'
              replace H : St w Nil Z w2553 [vw (kSlice 3 (kInt .i64)) a0 [.slice p3 a0.length c4], vw (kSlice 38 k_api_Process) y52.Processes [.slice p54 y52.Processes.length c55], vw (kSlice 38 k_api_Process) y70.1.Processes [.slice p72 y70.1.Processes.length c73], vw (kSlice 38 k_api_Process) ((y132.Processes.set (1 : Int).toNat (⟨u157.PID, u157.PPID, (IntKind.wrap .i64 (1 + (IntKind.wrap .i64 a1))), u157.EUID, u157.GID, u157.EGID, u157.AUID, u157.Session, u157.Cwd, u157.Comm, u157.Exe, u157.Open, u157.Audited⟩ : api_Process)).set (1 : Int).toNat (⟨u174.PID, u174.PPID, u174.UID, (IntKind.wrap .i64 (1 + (IntKind.wrap .i64 a2))), u174.GID, u174.EGID, u174.AUID, u174.Session, u174.Cwd, u174.Comm, u174.Exe, u174.Open, u174.Audited⟩ : api_Process)) [.slice p134 (((y132.Processes.set (1 : Int).toNat (⟨u157.PID, u157.PPID, (IntKind.wrap .i64 (1 + (IntKind.wrap .i64 a1))), u157.EUID, u157.GID, u157.EGID, u157.AUID, u157.Session, u157.Cwd, u157.Comm, u157.Exe, u157.Open, u157.Audited⟩ : api_Process)).set (1 : Int).toNat (⟨u174.PID, u174.PPID, u174.UID, (IntKind.wrap .i64 (1 + (IntKind.wrap .i64 a2))), u174.GID, u174.EGID, u174.AUID, u174.Session, u174.Cwd, u174.Comm, u174.Exe, u174.Open, u174.Audited⟩ : api_Process)).length) c135], vw (kSlice 38 k_api_Process) x2292 [.slice p2293 x2292.length c2294], vw (kSlice 3 (kInt .i64)) [0, (IntKind.wrap .i64 (1 + (IntKind.wrap .i64 a1))), (IntKind.wrap .i64 (1 + (IntKind.wrap .i64 a2))), 7, 4294967294] [.slice (some ⟨g2323, 0, none⟩) 5 5]] [[blk g22 [.slice p3 a0.length c4, .int .i64 (y2328.2)] 59], [], [blk g60 [.int .i64 x2290, .int .i64 x2291, .slice p2293 x2292.length c2294] 28], [], [], [], [row 38 k_api_Process y2333.1.Processes (.slice p2335 y2333.1.Processes.length c2336)], [blk g2347 [.int .i64 y2333.1.Next, .int .i64 y2333.1.NextSession, .slice p2335 y2333.1.Processes.length c2336] 28], [row 81 k_api_Descriptor y2538.1.Open (.slice p2540 y2538.1.Open.length c2541)], [blk g2552 [.int .i64 0, .int .i64 0, .int .i64 0, .int .i64 0, .int .i64 0, .int .i64 0, .int .i64 0, .int .i64 0, .int .i64 0, .int .i64 0, .string (⟨#[]⟩ : ByteArray), .string (⟨#[]⟩ : ByteArray), .slice none 0 0, .bool false] 38]] := H
              refine wl_cons (wl_store (i := 9) (vs := [.int .i64 y2538.1.PID, .int .i64 y2538.1.PPID, .int .i64 y2538.1.UID, .int .i64 y2538.1.EUID, .int .i64 y2538.1.GID, .int .i64 y2538.1.EGID, .int .i64 y2538.1.AUID, .int .i64 y2538.1.Session, .int .i64 y2538.1.Cwd.Dev, .int .i64 y2538.1.Cwd.Ino, .string y2538.1.Comm, .string y2538.1.Exe, .slice p2540 y2538.1.Open.length c2541, .bool y2538.1.Audited]) (cs' := [.int .i64 y2538.1.PID, .int .i64 y2538.1.PPID, .int .i64 y2538.1.UID, .int .i64 y2538.1.EUID, .int .i64 y2538.1.GID, .int .i64 y2538.1.EGID, .int .i64 y2538.1.AUID, .int .i64 y2538.1.Session, .int .i64 y2538.1.Cwd.Dev, .int .i64 y2538.1.Cwd.Ino, .string y2538.1.Comm, .string y2538.1.Exe, .slice p2540 y2538.1.Open.length c2541, .bool y2538.1.Audited]) E2555 H rfl rfl rfl rfl ti38 rfl rfl rfl rfl rfl rfl fun w2558 a2556 E2557 H' => ?_)
              clear H E2555; have H := H'; clear H'
              refine wl_cons (wl_val E2557 rfl (rn_assign E2557 rfl rfl) rfl fun a2559 E2560 => ?_)
              clear E2557
              refine wl_nil ?_
              refine then_normal (hK2533 _ _ ?_)
              refine wp_seq_k fun _ hK2561 => ?_
              refine wp_region_lit ?_
              refine wl_cons (wl_val E2560 rfl (rn_move E2560 rfl rfl) rfl fun a2562 E2563 => ?_)
              clear E2560
              refine wl_cons (wl_val E2563 rfl (rn_not E2563 rfl rfl) rfl fun a2564 E2565 => ?_)
              clear E2563
              refine wl_cons (wl_val E2565 rfl (rn_move E2565 rfl rfl) rfl fun a2566 E2567 => ?_)
              clear E2565
              rcases Bool.eq_false_or_eq_true y2538.2 with hb2568 | hb2568
              · replace h2359 := itT hb2568 h2359
                refine wl_cons (wl_val E2567 (E2567.wantedB rfl rfl rfl (congrArg Bool.not hb2568)) (rn_fieldAddr E2567 rfl Try.underlying38 rfl ti3 rfl rfl) rfl fun a2569 E2570 => ?_)
                clear E2567
                refine wl_cons (wl_val E2570 (E2570.wantedB rfl rfl rfl (congrArg Bool.not hb2568)) (rn_ld1 (i := 9) E2570 H rfl Try.underlying3 rfl rfl rfl rfl) rfl fun a2571 E2572 => ?_)
                clear E2570
                refine wl_cons (wl_val E2572 (E2572.wantedB rfl rfl rfl (congrArg Bool.not hb2568)) (rn_move E2572 rfl rfl) rfl fun a2573 E2574 => ?_)
                clear E2572
                refine wl_cons (wl_val E2574 (E2574.wantedB rfl rfl rfl (congrArg Bool.not hb2568)) (rn_int E2574 rfl rfl rfl rfl) rfl fun a2575 E2576 => ?_)
                clear E2574
                refine wl_cons (wl_val E2576 rfl (rn_pickF E2576 rfl rfl (congrArg Bool.not hb2568) rfl) rfl fun a2577 E2578 => ?_)
                clear E2576
                refine wl_cons (wl_val E2578 rfl (rn_move E2578 rfl rfl) rfl fun a2579 E2580 => ?_)
                clear E2578
                rcases Bool.eq_false_or_eq_true (y2538.1.UID != (IntKind.wrap .i64 (1 + (IntKind.wrap .i64 a1)))) with hb2581 | hb2581
                · replace h2359 := itT hb2581 h2359
                  refine wl_cons (wl_pass E2580 (E2580.unwanted rfl rfl rfl hb2581) rfl fun a2582 E2583 => ?_)
                  clear E2580
                  refine wl_cons (wl_pass E2583 (E2583.unwanted rfl rfl rfl hb2581) rfl fun a2584 E2585 => ?_)
                  clear E2583
                  refine wl_cons (wl_pass E2585 (E2585.unwanted rfl rfl rfl hb2581) rfl fun a2586 E2587 => ?_)
                  clear E2585
                  refine wl_cons (wl_pass E2587 (E2587.unwanted rfl rfl rfl hb2581) rfl fun a2588 E2589 => ?_)
                  clear E2587
                  refine wl_cons (wl_pass E2589 (E2589.unwanted rfl rfl rfl hb2581) rfl fun a2590 E2591 => ?_)
                  clear E2589
                  refine wl_cons (wl_pass E2591 (E2591.unwanted0 rfl rfl rfl) rfl fun a2592 E2593 => ?_)
                  clear E2591
                  refine wl_cons (wl_pass E2593 (E2593.unwanted0 rfl rfl rfl) rfl fun a2594 E2595 => ?_)
                  clear E2593
                  refine wl_cons (wl_pass E2595 (E2595.unwanted0 rfl rfl rfl) rfl fun a2596 E2597 => ?_)
                  clear E2595
                  refine wl_cons (wl_pass E2597 (E2597.unwanted0 rfl rfl rfl) rfl fun a2598 E2599 => ?_)
                  clear E2597
                  refine wl_cons (wl_pass E2599 (E2599.unwanted rfl rfl rfl hb2581) rfl fun a2600 E2601 => ?_)
                  clear E2599
                  refine wl_cons (wl_val E2601 rfl (rn_pickT E2601 rfl rfl hb2581 rfl) rfl fun a2602 E2603 => ?_)
                  clear E2601
                  refine wl_nil ?_
                  refine then_normal (hK2561 _ _ ?_)
                  refine wc_T E2603 rfl rfl ?_
                  refine wp_seq_k fun _ hK2604 => ?_
                  refine wp_region_lit ?_
                  refine wl_cons (wl_val E2603 rfl (rn_assign E2603 rfl rfl) rfl fun a2605 E2606 => ?_)
                  clear E2603
                  refine wl_nil ?_
                  refine then_normal (hK2604 _ _ ?_)
                  refine wp_ret ?_
                  obtain rfl := Option.some.inj h2359
                  try dsimp only at h
                  refine block_ret (then_ret (then_ret (block_ret (then_ret (?_)))))
                  obtain rfl := Option.some.inj h
                  refine wb_ret1 E2606 rfl (rv_tmp E2606 rfl) ?_
                  exact ⟨_, rfl, [], [], ⟨rfl, rfl, rfl⟩, H.leave (fun Z hA => trivial) (fun Z S hA hL => trivial)⟩
                · replace h2359 := itF hb2581 h2359
                  refine wl_cons (wl_val E2580 (E2580.wantedB rfl rfl rfl hb2581) (rn_fieldAddr E2580 rfl Try.underlying38 rfl ti3 rfl rfl) rfl fun a2607 E2608 => ?_)
                  clear E2580
                  refine wl_cons (wl_val E2608 (E2608.wantedB rfl rfl rfl hb2581) (rn_ld1 (i := 9) E2608 H rfl Try.underlying3 rfl rfl rfl rfl) rfl fun a2609 E2610 => ?_)
                  clear E2608
                  refine wl_cons (wl_val E2610 (E2610.wantedB rfl rfl rfl hb2581) (rn_move E2610 rfl rfl) rfl fun a2611 E2612 => ?_)
                  clear E2610
                  refine wl_cons (wl_val E2612 (E2612.wantedB rfl rfl rfl hb2581) (rn_int E2612 rfl rfl rfl rfl) rfl fun a2613 E2614 => ?_)
                  clear E2612
                  refine wl_cons (wl_val E2614 (E2614.wantedB rfl rfl rfl hb2581) (rn_move E2614 rfl rfl) rfl fun a2615 E2616 => ?_)
                  clear E2614
                  rcases Bool.eq_false_or_eq_true (y2538.1.EUID != (IntKind.wrap .i64 (1 + (IntKind.wrap .i64 a1)))) with hb2617 | hb2617
                  · replace h2359 := itT hb2617 h2359
                    refine wl_cons (wl_val E2616 (E2616.wantedB rfl rfl rfl hb2617) (rn_fieldAddr E2616 rfl Try.underlying38 rfl ti3 rfl rfl) rfl fun a2618 E2619 => ?_)
                    clear E2616
                    refine wl_cons (wl_val E2619 (E2619.wantedB rfl rfl rfl hb2617) (rn_ld1 (i := 9) E2619 H rfl Try.underlying3 rfl rfl rfl rfl) rfl fun a2620 E2621 => ?_)
                    clear E2619
                    refine wl_cons (wl_val E2621 (E2621.wantedB rfl rfl rfl hb2617) (rn_move E2621 rfl rfl) rfl fun a2622 E2623 => ?_)
                    clear E2621
                    refine wl_cons (wl_val E2623 (E2623.wantedB rfl rfl rfl hb2617) (rn_int E2623 rfl rfl rfl rfl) rfl fun a2624 E2625 => ?_)
                    clear E2623
                    refine wl_cons (wl_val E2625 (E2625.wantedB rfl rfl rfl hb2581) (rn_pickT E2625 rfl rfl hb2617 rfl) rfl fun a2626 E2627 => ?_)
                    clear E2625
                    refine wl_cons (wl_val E2627 rfl (rn_pickF E2627 rfl rfl hb2581 rfl) rfl fun a2628 E2629 => ?_)
                    clear E2627
                    refine wl_nil ?_
                    refine then_normal (hK2561 _ _ ?_)
                    rcases Bool.eq_false_or_eq_true (y2538.1.EUID != (IntKind.wrap .i64 (1 + (IntKind.wrap .i64 a2)))) with hb2630 | hb2630
                    · replace h2359 := itT hb2630 h2359
                      refine wc_T E2629 rfl hb2630 ?_
                      refine wp_seq_k fun _ hK2631 => ?_
                      refine wp_region_lit ?_
                      refine wl_cons (wl_val E2629 rfl (rn_assign E2629 rfl rfl) rfl fun a2632 E2633 => ?_)
                      clear E2629
                      refine wl_nil ?_
                      refine then_normal (hK2631 _ _ ?_)
                      refine wp_ret ?_
                      obtain rfl := Option.some.inj h2359
                      try dsimp only at h
                      refine block_ret (then_ret (then_ret (block_ret (then_ret (?_)))))
                      obtain rfl := Option.some.inj h
                      refine wb_ret1 E2633 rfl (rv_tmp E2633 rfl) ?_
                      exact ⟨_, rfl, [], [], ⟨rfl, rfl, rfl⟩, H.leave (fun Z hA => trivial) (fun Z S hA hL => trivial)⟩
                    · replace h2359 := itF hb2630 h2359
                      refine wc_F E2629 rfl hb2630 ?_
                      refine wp_skip ?_
                      refine block_normal ?_
                      refine then_normal (hK2309 _ _ ?_)
                      refine wp_region_lit ?_
                      refine wl_cons (wl_val E2629 rfl (rn_move E2629 rfl rfl) rfl fun a2634 E2635 => ?_)
                      clear E2629
                      refine wl_cons (wl_val E2635 rfl (rn_int E2635 rfl rfl rfl rfl) rfl fun a2636 E2637 => ?_)
                      clear E2635
                      refine wl_cons (wl_val E2637 rfl (rn_assign E2637 rfl rfl) rfl fun a2638 E2639 => ?_)
                      clear E2637
                      refine wl_nil ?_
                      replace H : St w Nil Z w2558 [vw (kSlice 3 (kInt .i64)) a0 [.slice p3 a0.length c4], vw (kSlice 38 k_api_Process) y52.Processes [.slice p54 y52.Processes.length c55], vw (kSlice 38 k_api_Process) y70.1.Processes [.slice p72 y70.1.Processes.length c73], vw (kSlice 38 k_api_Process) ((y132.Processes.set (1 : Int).toNat (⟨u157.PID, u157.PPID, (IntKind.wrap .i64 (1 + (IntKind.wrap .i64 a1))), u157.EUID, u157.GID, u157.EGID, u157.AUID, u157.Session, u157.Cwd, u157.Comm, u157.Exe, u157.Open, u157.Audited⟩ : api_Process)).set (1 : Int).toNat (⟨u174.PID, u174.PPID, u174.UID, (IntKind.wrap .i64 (1 + (IntKind.wrap .i64 a2))), u174.GID, u174.EGID, u174.AUID, u174.Session, u174.Cwd, u174.Comm, u174.Exe, u174.Open, u174.Audited⟩ : api_Process)) [.slice p134 (((y132.Processes.set (1 : Int).toNat (⟨u157.PID, u157.PPID, (IntKind.wrap .i64 (1 + (IntKind.wrap .i64 a1))), u157.EUID, u157.GID, u157.EGID, u157.AUID, u157.Session, u157.Cwd, u157.Comm, u157.Exe, u157.Open, u157.Audited⟩ : api_Process)).set (1 : Int).toNat (⟨u174.PID, u174.PPID, u174.UID, (IntKind.wrap .i64 (1 + (IntKind.wrap .i64 a2))), u174.GID, u174.EGID, u174.AUID, u174.Session, u174.Cwd, u174.Comm, u174.Exe, u174.Open, u174.Audited⟩ : api_Process)).length) c135], vw (kSlice 38 k_api_Process) x2292 [.slice p2293 x2292.length c2294], vw (kSlice 3 (kInt .i64)) [0, (IntKind.wrap .i64 (1 + (IntKind.wrap .i64 a1))), (IntKind.wrap .i64 (1 + (IntKind.wrap .i64 a2))), 7, 4294967294] [.slice (some ⟨g2323, 0, none⟩) 5 5]] ([[blk g22 [.slice p3 a0.length c4, .int .i64 (y2328.2)] 59], [], [blk g60 [.int .i64 x2290, .int .i64 x2291, .slice p2293 x2292.length c2294] 28], [], []] ++ [[], [row 38 k_api_Process y2333.1.Processes (.slice p2335 y2333.1.Processes.length c2336)], [blk g2347 [.int .i64 y2333.1.Next, .int .i64 y2333.1.NextSession, .slice p2335 y2333.1.Processes.length c2336] 28], [row 81 k_api_Descriptor y2538.1.Open (.slice p2540 y2538.1.Open.length c2541)], [blk g2552 [.int .i64 y2538.1.PID, .int .i64 y2538.1.PPID, .int .i64 y2538.1.UID, .int .i64 y2538.1.EUID, .int .i64 y2538.1.GID, .int .i64 y2538.1.EGID, .int .i64 y2538.1.AUID, .int .i64 y2538.1.Session, .int .i64 y2538.1.Cwd.Dev, .int .i64 y2538.1.Cwd.Ino, .string y2538.1.Comm, .string y2538.1.Exe, .slice p2540 y2538.1.Open.length c2541, .bool y2538.1.Audited] 38]]) := H
                      exact ⟨(IntKind.wrap .i64 (x2288 + 1)), (y2328.2), x2290, x2291, x2292, p2293, c2294, E2639.pick ⟨rfl, rfl, rfl, rfl, rfl, rfl, rfl, rfl, rfl, rfl, rfl, rfl, rfl, rfl, rfl, rfl, rfl, rfl, rfl, rfl, rfl, rfl, rfl, rfl, rfl, rfl, rfl, rfl, rfl, rfl, rfl, rfl, rfl, rfl, rfl, rfl, rfl, rfl, rfl, rfl, rfl, rfl, rfl, trivial⟩, H.front.sel (fun Z hA => ⟨(argHolds_get hA (k := 0) rfl), (argHolds_get hA (k := 1) rfl), (argHolds_get hA (k := 2) rfl), (argHolds_get hA (k := 3) rfl), (argHolds_get hA (k := 4) rfl), trivial⟩), h2359⟩
                  · replace h2359 := itF hb2617 h2359
                    refine wl_cons (wl_pass E2616 (E2616.unwanted rfl rfl rfl hb2617) rfl fun a2640 E2641 => ?_)
                    clear E2616
                    refine wl_cons (wl_pass E2641 (E2641.unwanted rfl rfl rfl hb2617) rfl fun a2642 E2643 => ?_)
                    clear E2641
                    refine wl_cons (wl_pass E2643 (E2643.unwanted rfl rfl rfl hb2617) rfl fun a2644 E2645 => ?_)
                    clear E2643
                    refine wl_cons (wl_pass E2645 (E2645.unwanted rfl rfl rfl hb2617) rfl fun a2646 E2647 => ?_)
                    clear E2645
                    refine wl_cons (wl_val E2647 (E2647.wantedB rfl rfl rfl hb2581) (rn_pickF E2647 rfl rfl hb2617 rfl) rfl fun a2648 E2649 => ?_)
                    clear E2647
                    refine wl_cons (wl_val E2649 rfl (rn_pickF E2649 rfl rfl hb2581 rfl) rfl fun a2650 E2651 => ?_)
                    clear E2649
                    refine wl_nil ?_
                    refine then_normal (hK2561 _ _ ?_)
                    refine wc_F E2651 rfl rfl ?_
                    refine wp_skip ?_
                    refine block_normal ?_
                    refine then_normal (hK2309 _ _ ?_)
                    refine wp_region_lit ?_
                    refine wl_cons (wl_val E2651 rfl (rn_move E2651 rfl rfl) rfl fun a2652 E2653 => ?_)
                    clear E2651
                    refine wl_cons (wl_val E2653 rfl (rn_int E2653 rfl rfl rfl rfl) rfl fun a2654 E2655 => ?_)
                    clear E2653
                    refine wl_cons (wl_val E2655 rfl (rn_assign E2655 rfl rfl) rfl fun a2656 E2657 => ?_)
                    clear E2655
                    refine wl_nil ?_
                    replace H : St w Nil Z w2558 [vw (kSlice 3 (kInt .i64)) a0 [.slice p3 a0.length c4], vw (kSlice 38 k_api_Process) y52.Processes [.slice p54 y52.Processes.length c55], vw (kSlice 38 k_api_Process) y70.1.Processes [.slice p72 y70.1.Processes.length c73], vw (kSlice 38 k_api_Process) ((y132.Processes.set (1 : Int).toNat (⟨u157.PID, u157.PPID, (IntKind.wrap .i64 (1 + (IntKind.wrap .i64 a1))), u157.EUID, u157.GID, u157.EGID, u157.AUID, u157.Session, u157.Cwd, u157.Comm, u157.Exe, u157.Open, u157.Audited⟩ : api_Process)).set (1 : Int).toNat (⟨u174.PID, u174.PPID, u174.UID, (IntKind.wrap .i64 (1 + (IntKind.wrap .i64 a2))), u174.GID, u174.EGID, u174.AUID, u174.Session, u174.Cwd, u174.Comm, u174.Exe, u174.Open, u174.Audited⟩ : api_Process)) [.slice p134 (((y132.Processes.set (1 : Int).toNat (⟨u157.PID, u157.PPID, (IntKind.wrap .i64 (1 + (IntKind.wrap .i64 a1))), u157.EUID, u157.GID, u157.EGID, u157.AUID, u157.Session, u157.Cwd, u157.Comm, u157.Exe, u157.Open, u157.Audited⟩ : api_Process)).set (1 : Int).toNat (⟨u174.PID, u174.PPID, u174.UID, (IntKind.wrap .i64 (1 + (IntKind.wrap .i64 a2))), u174.GID, u174.EGID, u174.AUID, u174.Session, u174.Cwd, u174.Comm, u174.Exe, u174.Open, u174.Audited⟩ : api_Process)).length) c135], vw (kSlice 38 k_api_Process) x2292 [.slice p2293 x2292.length c2294], vw (kSlice 3 (kInt .i64)) [0, (IntKind.wrap .i64 (1 + (IntKind.wrap .i64 a1))), (IntKind.wrap .i64 (1 + (IntKind.wrap .i64 a2))), 7, 4294967294] [.slice (some ⟨g2323, 0, none⟩) 5 5]] ([[blk g22 [.slice p3 a0.length c4, .int .i64 (y2328.2)] 59], [], [blk g60 [.int .i64 x2290, .int .i64 x2291, .slice p2293 x2292.length c2294] 28], [], []] ++ [[], [row 38 k_api_Process y2333.1.Processes (.slice p2335 y2333.1.Processes.length c2336)], [blk g2347 [.int .i64 y2333.1.Next, .int .i64 y2333.1.NextSession, .slice p2335 y2333.1.Processes.length c2336] 28], [row 81 k_api_Descriptor y2538.1.Open (.slice p2540 y2538.1.Open.length c2541)], [blk g2552 [.int .i64 y2538.1.PID, .int .i64 y2538.1.PPID, .int .i64 y2538.1.UID, .int .i64 y2538.1.EUID, .int .i64 y2538.1.GID, .int .i64 y2538.1.EGID, .int .i64 y2538.1.AUID, .int .i64 y2538.1.Session, .int .i64 y2538.1.Cwd.Dev, .int .i64 y2538.1.Cwd.Ino, .string y2538.1.Comm, .string y2538.1.Exe, .slice p2540 y2538.1.Open.length c2541, .bool y2538.1.Audited] 38]]) := H
                    exact ⟨(IntKind.wrap .i64 (x2288 + 1)), (y2328.2), x2290, x2291, x2292, p2293, c2294, E2657.pick ⟨rfl, rfl, rfl, rfl, rfl, rfl, rfl, rfl, rfl, rfl, rfl, rfl, rfl, rfl, rfl, rfl, rfl, rfl, rfl, rfl, rfl, rfl, rfl, rfl, rfl, rfl, rfl, rfl, rfl, rfl, rfl, rfl, rfl, rfl, rfl, rfl, rfl, rfl, rfl, rfl, rfl, rfl, rfl, trivial⟩, H.front.sel (fun Z hA => ⟨(argHolds_get hA (k := 0) rfl), (argHolds_get hA (k := 1) rfl), (argHolds_get hA (k := 2) rfl), (argHolds_get hA (k := 3) rfl), (argHolds_get hA (k := 4) rfl), trivial⟩), h2359⟩
              · replace h2359 := itF hb2568 h2359
                refine wl_cons (wl_pass E2567 (E2567.unwanted rfl rfl rfl (congrArg Bool.not hb2568)) rfl fun a2658 E2659 => ?_)
                clear E2567
                refine wl_cons (wl_pass E2659 (E2659.unwanted rfl rfl rfl (congrArg Bool.not hb2568)) rfl fun a2660 E2661 => ?_)
                clear E2659
                refine wl_cons (wl_pass E2661 (E2661.unwanted rfl rfl rfl (congrArg Bool.not hb2568)) rfl fun a2662 E2663 => ?_)
                clear E2661
                refine wl_cons (wl_pass E2663 (E2663.unwanted rfl rfl rfl (congrArg Bool.not hb2568)) rfl fun a2664 E2665 => ?_)
                clear E2663
                refine wl_cons (wl_val E2665 rfl (rn_pickT E2665 rfl rfl (congrArg Bool.not hb2568) rfl) rfl fun a2666 E2667 => ?_)
                clear E2665
                refine wl_cons (wl_val E2667 rfl (rn_move E2667 rfl rfl) rfl fun a2668 E2669 => ?_)
                clear E2667
                refine wl_cons (wl_pass E2669 (E2669.unwanted rfl rfl rfl rfl) rfl fun a2670 E2671 => ?_)
                clear E2669
                refine wl_cons (wl_pass E2671 (E2671.unwanted rfl rfl rfl rfl) rfl fun a2672 E2673 => ?_)
                clear E2671
                refine wl_cons (wl_pass E2673 (E2673.unwanted rfl rfl rfl rfl) rfl fun a2674 E2675 => ?_)
                clear E2673
                refine wl_cons (wl_pass E2675 (E2675.unwanted rfl rfl rfl rfl) rfl fun a2676 E2677 => ?_)
                clear E2675
                refine wl_cons (wl_pass E2677 (E2677.unwanted rfl rfl rfl rfl) rfl fun a2678 E2679 => ?_)
                clear E2677
                refine wl_cons (wl_pass E2679 (E2679.unwanted0 rfl rfl rfl) rfl fun a2680 E2681 => ?_)
                clear E2679
                refine wl_cons (wl_pass E2681 (E2681.unwanted0 rfl rfl rfl) rfl fun a2682 E2683 => ?_)
                clear E2681
                refine wl_cons (wl_pass E2683 (E2683.unwanted0 rfl rfl rfl) rfl fun a2684 E2685 => ?_)
                clear E2683
                refine wl_cons (wl_pass E2685 (E2685.unwanted0 rfl rfl rfl) rfl fun a2686 E2687 => ?_)
                clear E2685
                refine wl_cons (wl_pass E2687 (E2687.unwanted rfl rfl rfl rfl) rfl fun a2688 E2689 => ?_)
                clear E2687
                refine wl_cons (wl_val E2689 rfl (rn_pickT E2689 rfl rfl rfl rfl) rfl fun a2690 E2691 => ?_)
                clear E2689
                refine wl_nil ?_
                refine then_normal (hK2561 _ _ ?_)
                refine wc_T E2691 rfl rfl ?_
                refine wp_seq_k fun _ hK2692 => ?_
                refine wp_region_lit ?_
                refine wl_cons (wl_val E2691 rfl (rn_assign E2691 rfl rfl) rfl fun a2693 E2694 => ?_)
                clear E2691
                refine wl_nil ?_
                refine then_normal (hK2692 _ _ ?_)
                refine wp_ret ?_
                obtain rfl := Option.some.inj h2359
                try dsimp only at h
                refine block_ret (then_ret (then_ret (block_ret (then_ret (?_)))))
                obtain rfl := Option.some.inj h
                refine wb_ret1 E2694 rfl (rv_tmp E2694 rfl) ?_
                exact ⟨_, rfl, [], [], ⟨rfl, rfl, rfl⟩, H.leave (fun Z hA => trivial) (fun Z S hA hL => trivial)⟩
          · refine wa_begin mixed (fun w_ => (∃ Z S, (blk g60 [.int .i64 x2290, .int .i64 x2291, .slice p2293 x2292.length c2294] 28).holds w_ Z S) ∧ True) [0] [5, 6, 7, 11, 12] H rfl fun w2695 H' => ?_
            clear H; have H := H'; clear H'
            refine wa_takeS (i := 0) E2307 rfl (by kernel_rfl) (by kernel_rfl) (panic_join (panic_then (panic_then (panic_block (panic_then (panic_then (panic_block (panic_then panic_body)))))))) rfl (fun w_ hS => rn_loadN (vs := [.int .i64 x2290, .int .i64 x2291, .slice p2293 x2292.length c2294]) E2307 rfl Try.underlying28 rfl ti28 rfl hS.1 rfl rfl) ⟨H.get (i := 2) (k := 0) rfl rfl, trivial⟩ rfl fun a2696 E2697 => ?_
            clear E2307
            refine wa_take (i := 1) E2697 rfl (by kernel_rfl) (panic_join (panic_then (panic_then (panic_block (panic_then (panic_then (panic_block (panic_then panic_body)))))))) rfl (fun w_ => rn_move E2697 rfl rfl) rfl fun a2698 E2699 => ?_
            clear E2697
            refine wa_take (i := 2) E2699 rfl (by kernel_rfl) (panic_join (panic_then (panic_then (panic_block (panic_then (panic_then (panic_block (panic_then panic_body)))))))) rfl (fun w_ => rn_move E2699 rfl rfl) rfl fun a2700 E2701 => ?_
            clear E2699
            refine wa_take (i := 3) E2701 rfl (by kernel_rfl) (panic_join (panic_then (panic_then (panic_block (panic_then (panic_then (panic_block (panic_then panic_body)))))))) rfl (fun w_ => rn_move E2701 rfl rfl) rfl fun a2702 E2703 => ?_
            clear E2701
            refine wa_take (i := 4) E2703 rfl (by kernel_rfl) (panic_join (panic_then (panic_then (panic_block (panic_then (panic_then (panic_block (panic_then panic_body)))))))) rfl (fun w_ => rn_move E2703 rfl rfl) rfl fun a2704 E2705 => ?_
            clear E2703
            refine wa_two (i := 5) (j := 11) rfl rfl (by kernel_rfl) (by kernel_rfl) ?_ ?_
            · refine  (wl_buildSlice (ps := [(0, .int .i64 0), (1, .int .i64 (IntKind.wrap .i64 (1 + (IntKind.wrap .i64 a1)))), (2, .int .i64 (IntKind.wrap .i64 (1 + (IntKind.wrap .i64 a2)))), (3, .int .i64 7), (4, .int .i64 4294967294)]) (cs := [.int .i64 0, .int .i64 (IntKind.wrap .i64 (1 + (IntKind.wrap .i64 a1))), .int .i64 (IntKind.wrap .i64 (1 + (IntKind.wrap .i64 a2))), .int .i64 7, .int .i64 4294967294]) E2705 H rfl Try.underlying22 ti3 rfl rfl (by kernel_rfl) rfl fun g2706 w2707 a2708 E2709 H' => ?_)
              clear H E2705; have H := H'; clear H'
              refine ⟨fun _ => ⟨H.get (i := 2) (k := 0) rfl rfl, trivial⟩, ?_⟩
              refine wa_two (i := 6) (j := 11) rfl rfl (by kernel_rfl) (by kernel_rfl) ?_ ?_
              · replace H := H.toRow (i := 5) (K := (kInt .i64)) (xs := [0, (IntKind.wrap .i64 (1 + (IntKind.wrap .i64 a1))), (IntKind.wrap .i64 (1 + (IntKind.wrap .i64 a2))), 7, 4294967294]) rfl rfl (fun Z hA => ⟨[.int .i64 0], _, rfl, rfl, ⟨[.int .i64 (IntKind.wrap .i64 (1 + (IntKind.wrap .i64 a1)))], _, rfl, rfl, ⟨[.int .i64 (IntKind.wrap .i64 (1 + (IntKind.wrap .i64 a2)))], _, rfl, rfl, ⟨[.int .i64 7], _, rfl, rfl, ⟨[.int .i64 4294967294], _, rfl, rfl, rfl⟩⟩⟩⟩⟩)
                replace H := H.share (i := 5) (A' := [vw (kSlice 3 (kInt .i64)) [0, (IntKind.wrap .i64 (1 + (IntKind.wrap .i64 a1))), (IntKind.wrap .i64 (1 + (IntKind.wrap .i64 a2))), 7, 4294967294] [.slice (some ⟨g2706, 0, none⟩) 5 5]]) (by intro b h; exact h) rfl (fun Z S1 h => ⟨rowH.read h.1, trivial⟩)
                obtain ⟨y2711, hy2712, h2301⟩ := bs h2301
                refine  (wl_funM (i := 0) E2709 H rfl (rn_call (args := [.pointer (some ⟨g22, 0, none⟩), .slice (some ⟨g2706, 0, none⟩) 5 5]) E2709 rfl rfl rfl Try.func13 nm13 rfl) rfl rfl (by exact fun Z hA => ⟨(argHolds_get hA (k := 0) rfl), (argHolds_get hA (k := 5) rfl), trivial⟩) (C13 (⟨a0, x2289⟩ : kauditmake_Src) [0, (IntKind.wrap .i64 (1 + (IntKind.wrap .i64 a1))), (IntKind.wrap .i64 (1 + (IntKind.wrap .i64 a2))), 7, 4294967294] g22 p3 c4 (some ⟨g2706, 0, none⟩) 5 _ _ hy2712) ?_)
                rintro v_ A_ I_ N_ w2715 a2713 ⟨rfl, rfl, rfl, rfl⟩ E2714 H'
                replace H := H'; clear H' E2709
                replace H : St w Nil Z w2715 [vw (kSlice 3 (kInt .i64)) a0 [.slice p3 a0.length c4], vw (kSlice 38 k_api_Process) y52.Processes [.slice p54 y52.Processes.length c55], vw (kSlice 38 k_api_Process) y70.1.Processes [.slice p72 y70.1.Processes.length c73], vw (kSlice 38 k_api_Process) ((y132.Processes.set (1 : Int).toNat (⟨u157.PID, u157.PPID, (IntKind.wrap .i64 (1 + (IntKind.wrap .i64 a1))), u157.EUID, u157.GID, u157.EGID, u157.AUID, u157.Session, u157.Cwd, u157.Comm, u157.Exe, u157.Open, u157.Audited⟩ : api_Process)).set (1 : Int).toNat (⟨u174.PID, u174.PPID, u174.UID, (IntKind.wrap .i64 (1 + (IntKind.wrap .i64 a2))), u174.GID, u174.EGID, u174.AUID, u174.Session, u174.Cwd, u174.Comm, u174.Exe, u174.Open, u174.Audited⟩ : api_Process)) [.slice p134 (((y132.Processes.set (1 : Int).toNat (⟨u157.PID, u157.PPID, (IntKind.wrap .i64 (1 + (IntKind.wrap .i64 a1))), u157.EUID, u157.GID, u157.EGID, u157.AUID, u157.Session, u157.Cwd, u157.Comm, u157.Exe, u157.Open, u157.Audited⟩ : api_Process)).set (1 : Int).toNat (⟨u174.PID, u174.PPID, u174.UID, (IntKind.wrap .i64 (1 + (IntKind.wrap .i64 a2))), u174.GID, u174.EGID, u174.AUID, u174.Session, u174.Cwd, u174.Comm, u174.Exe, u174.Open, u174.Audited⟩ : api_Process)).length) c135], vw (kSlice 38 k_api_Process) x2292 [.slice p2293 x2292.length c2294], vw (kSlice 3 (kInt .i64)) [0, (IntKind.wrap .i64 (1 + (IntKind.wrap .i64 a1))), (IntKind.wrap .i64 (1 + (IntKind.wrap .i64 a2))), 7, 4294967294] [.slice (some ⟨g2706, 0, none⟩) 5 5]] [[blk g22 [.slice p3 a0.length c4, .int .i64 (y2711.2)] 59], [], [blk g60 [.int .i64 x2290, .int .i64 x2291, .slice p2293 x2292.length c2294] 28], [], [], []] := H
                replace H : St w Nil Z w2715 [vw (kSlice 3 (kInt .i64)) a0 [.slice p3 a0.length c4], vw (kSlice 38 k_api_Process) y52.Processes [.slice p54 y52.Processes.length c55], vw (kSlice 38 k_api_Process) y70.1.Processes [.slice p72 y70.1.Processes.length c73], vw (kSlice 38 k_api_Process) ((y132.Processes.set (1 : Int).toNat (⟨u157.PID, u157.PPID, (IntKind.wrap .i64 (1 + (IntKind.wrap .i64 a1))), u157.EUID, u157.GID, u157.EGID, u157.AUID, u157.Session, u157.Cwd, u157.Comm, u157.Exe, u157.Open, u157.Audited⟩ : api_Process)).set (1 : Int).toNat (⟨u174.PID, u174.PPID, u174.UID, (IntKind.wrap .i64 (1 + (IntKind.wrap .i64 a2))), u174.GID, u174.EGID, u174.AUID, u174.Session, u174.Cwd, u174.Comm, u174.Exe, u174.Open, u174.Audited⟩ : api_Process)) [.slice p134 (((y132.Processes.set (1 : Int).toNat (⟨u157.PID, u157.PPID, (IntKind.wrap .i64 (1 + (IntKind.wrap .i64 a1))), u157.EUID, u157.GID, u157.EGID, u157.AUID, u157.Session, u157.Cwd, u157.Comm, u157.Exe, u157.Open, u157.Audited⟩ : api_Process)).set (1 : Int).toNat (⟨u174.PID, u174.PPID, u174.UID, (IntKind.wrap .i64 (1 + (IntKind.wrap .i64 a2))), u174.GID, u174.EGID, u174.AUID, u174.Session, u174.Cwd, u174.Comm, u174.Exe, u174.Open, u174.Audited⟩ : api_Process)).length) c135], vw (kSlice 38 k_api_Process) x2292 [.slice p2293 x2292.length c2294], vw (kSlice 3 (kInt .i64)) [0, (IntKind.wrap .i64 (1 + (IntKind.wrap .i64 a1))), (IntKind.wrap .i64 (1 + (IntKind.wrap .i64 a2))), 7, 4294967294] [.slice (some ⟨g2706, 0, none⟩) 5 5]] [[blk g22 [.slice p3 a0.length c4, .int .i64 (y2711.2)] 59], [], [blk g60 [.int .i64 x2290, .int .i64 x2291, .slice p2293 x2292.length c2294] 28], [], [], []] := H
                refine ⟨fun _ => ⟨H.get (i := 2) (k := 0) rfl rfl, trivial⟩, ?_⟩
                refine wa_two (i := 7) (j := 11) rfl rfl (by kernel_rfl) (by kernel_rfl) ?_ ?_
                · obtain ⟨y2716, hy2717, h2301⟩ := bs h2301
                  refine  (wl_fun E2714 H rfl (rn_call (args := [.agg #[.int .i64 x2290, .int .i64 x2291, .slice p2293 x2292.length c2294], .int .i64 y70.2.1, .int .i64 y2711.1]) E2714 rfl rfl rfl Try.func12 nm12 rfl) rfl (by exact fun Z hA => ⟨(argHolds_get hA (k := 4) rfl), trivial⟩) (C12 (⟨x2290, x2291, x2292⟩ : api_Table) y70.2.1 y2711.1 p2293 c2294 _ _ hy2717) ?_)
                  rintro v_ A_ N_ w2723 a2721 ⟨p2718, c2719, rfl, rfl, rfl⟩ E2722 H'
                  replace H := H'; clear H' E2714
                  refine ⟨fun h_ => (needs_no (by kernel_rfl) h_).elim, ?_⟩
                  refine wa_take (i := 8) E2722 rfl (by kernel_rfl) (panic_join (panic_then (panic_then (panic_block (panic_then (panic_then (panic_block (panic_then panic_body)))))))) rfl (fun w_ => rn_move E2722 rfl rfl) rfl fun a2724 E2725 => ?_
                  clear E2722
                  refine wa_take (i := 9) E2725 rfl (by kernel_rfl) (panic_join (panic_then (panic_then (panic_block (panic_then (panic_then (panic_block (panic_then panic_body)))))))) rfl (fun w_ => rn_extract E2725 rfl rfl rfl) rfl fun a2726 E2727 => ?_
                  clear E2725
                  refine wa_take (i := 10) E2727 rfl (by kernel_rfl) (panic_join (panic_then (panic_then (panic_block (panic_then (panic_then (panic_block (panic_then panic_body)))))))) rfl (fun w_ => rn_extract E2727 rfl rfl rfl) rfl fun a2728 E2729 => ?_
                  clear E2727
                  refine wa_only (i := 11) rfl (by kernel_rfl) (by kernel_rfl) (wl_alloc (cs := [.int .i64 0, .int .i64 0, .slice none 0 0]) E2729 H rfl ti28 rfl rfl fun g2730 w2731 a2732 E2733 H' => ?_)
                  clear H E2729; have H := H'; clear H'
                  refine ⟨fun _ => ⟨H.get (i := 2) (k := 0) rfl rfl, trivial⟩, ?_⟩
                  refine wa_only (i := 12) rfl (by kernel_rfl) (by kernel_rfl) (wl_store (i := 7) (vs := [.int .i64 y2716.1.Next, .int .i64 y2716.1.NextSession, .slice p2718 y2716.1.Processes.length c2719]) (cs' := [.int .i64 y2716.1.Next, .int .i64 y2716.1.NextSession, .slice p2718 y2716.1.Processes.length c2719]) E2733 H rfl rfl rfl rfl ti28 rfl rfl rfl rfl rfl rfl fun w2736 a2734 E2735 H' => ?_)
                  clear H E2733; have H := H'; clear H'
                  replace H : St w Nil Z w2736 [vw (kSlice 3 (kInt .i64)) a0 [.slice p3 a0.length c4], vw (kSlice 38 k_api_Process) y52.Processes [.slice p54 y52.Processes.length c55], vw (kSlice 38 k_api_Process) y70.1.Processes [.slice p72 y70.1.Processes.length c73], vw (kSlice 38 k_api_Process) ((y132.Processes.set (1 : Int).toNat (⟨u157.PID, u157.PPID, (IntKind.wrap .i64 (1 + (IntKind.wrap .i64 a1))), u157.EUID, u157.GID, u157.EGID, u157.AUID, u157.Session, u157.Cwd, u157.Comm, u157.Exe, u157.Open, u157.Audited⟩ : api_Process)).set (1 : Int).toNat (⟨u174.PID, u174.PPID, u174.UID, (IntKind.wrap .i64 (1 + (IntKind.wrap .i64 a2))), u174.GID, u174.EGID, u174.AUID, u174.Session, u174.Cwd, u174.Comm, u174.Exe, u174.Open, u174.Audited⟩ : api_Process)) [.slice p134 (((y132.Processes.set (1 : Int).toNat (⟨u157.PID, u157.PPID, (IntKind.wrap .i64 (1 + (IntKind.wrap .i64 a1))), u157.EUID, u157.GID, u157.EGID, u157.AUID, u157.Session, u157.Cwd, u157.Comm, u157.Exe, u157.Open, u157.Audited⟩ : api_Process)).set (1 : Int).toNat (⟨u174.PID, u174.PPID, u174.UID, (IntKind.wrap .i64 (1 + (IntKind.wrap .i64 a2))), u174.GID, u174.EGID, u174.AUID, u174.Session, u174.Cwd, u174.Comm, u174.Exe, u174.Open, u174.Audited⟩ : api_Process)).length) c135], vw (kSlice 38 k_api_Process) x2292 [.slice p2293 x2292.length c2294], vw (kSlice 3 (kInt .i64)) [0, (IntKind.wrap .i64 (1 + (IntKind.wrap .i64 a1))), (IntKind.wrap .i64 (1 + (IntKind.wrap .i64 a2))), 7, 4294967294] [.slice (some ⟨g2706, 0, none⟩) 5 5]] [[blk g22 [.slice p3 a0.length c4, .int .i64 (y2711.2)] 59], [], [blk g60 [.int .i64 x2290, .int .i64 x2291, .slice p2293 x2292.length c2294] 28], [], [], [], [row 38 k_api_Process y2716.1.Processes (.slice p2718 y2716.1.Processes.length c2719)], [blk g2730 [.int .i64 y2716.1.Next, .int .i64 y2716.1.NextSession, .slice p2718 y2716.1.Processes.length c2719] 28]] := H
                  refine ⟨fun h_ => (needs_no (by kernel_rfl) h_).elim, ?_⟩
                  refine wa_take (i := 13) E2735 rfl (by kernel_rfl) (panic_join (panic_then (panic_then (panic_block (panic_then (panic_then (panic_block (panic_then panic_body)))))))) rfl (fun w_ => rn_assign E2735 rfl rfl) rfl fun a2737 E2738 => ?_
                  clear E2735
                  refine wa_done (by kernel_rfl) ?_
                  exact ⟨g2730, y2716, p2718, c2719, g2706, y2711, E2738.pick ⟨rfl, rfl, rfl, rfl, rfl, rfl, rfl, rfl, rfl, rfl, rfl, rfl, rfl, rfl, rfl, rfl, rfl, rfl, rfl, rfl, rfl, rfl, rfl, rfl, rfl, rfl, rfl, rfl, rfl, rfl, rfl, rfl, rfl, rfl, rfl, rfl, rfl, rfl, rfl, rfl, rfl, rfl, rfl, rfl, rfl, rfl, rfl, rfl, rfl, rfl, rfl, rfl, rfl, rfl, rfl, rfl, rfl, rfl, trivial⟩, H.sel (fun Z hA => ⟨(argHolds_get hA (k := 0) rfl), (argHolds_get hA (k := 1) rfl), (argHolds_get hA (k := 2) rfl), (argHolds_get hA (k := 3) rfl), (argHolds_get hA (k := 4) rfl), (argHolds_get hA (k := 5) rfl), trivial⟩), h2301⟩
                · refine  (wl_alloc (cs := [.int .i64 0, .int .i64 0, .slice none 0 0]) E2714 H rfl ti28 rfl rfl fun g2739 w2740 a2741 E2742 H' => ?_)
                  clear H E2714; have H := H'; clear H'
                  refine ⟨fun _ => ⟨H.get (i := 2) (k := 0) rfl rfl, trivial⟩, ?_⟩
                  obtain ⟨y2743, hy2744, h2301⟩ := bs h2301
                  refine wa_only (i := 7) rfl (by kernel_rfl) (by kernel_rfl) (wl_fun E2742 H rfl (rn_call (args := [.agg #[.int .i64 x2290, .int .i64 x2291, .slice p2293 x2292.length c2294], .int .i64 y70.2.1, .int .i64 y2711.1]) E2742 rfl rfl rfl Try.func12 nm12 rfl) rfl (by exact fun Z hA => ⟨(argHolds_get hA (k := 4) rfl), trivial⟩) (C12 (⟨x2290, x2291, x2292⟩ : api_Table) y70.2.1 y2711.1 p2293 c2294 _ _ hy2744) ?_)
                  rintro v_ A_ N_ w2750 a2748 ⟨p2745, c2746, rfl, rfl, rfl⟩ E2749 H'
                  replace H := H'; clear H' E2742
                  refine ⟨fun h_ => (needs_no (by kernel_rfl) h_).elim, ?_⟩
                  refine wa_take (i := 8) E2749 rfl (by kernel_rfl) (panic_join (panic_then (panic_then (panic_block (panic_then (panic_then (panic_block (panic_then panic_body)))))))) rfl (fun w_ => rn_move E2749 rfl rfl) rfl fun a2751 E2752 => ?_
                  clear E2749
                  refine wa_take (i := 9) E2752 rfl (by kernel_rfl) (panic_join (panic_then (panic_then (panic_block (panic_then (panic_then (panic_block (panic_then panic_body)))))))) rfl (fun w_ => rn_extract E2752 rfl rfl rfl) rfl fun a2753 E2754 => ?_
                  clear E2752
                  refine wa_take (i := 10) E2754 rfl (by kernel_rfl) (panic_join (panic_then (panic_then (panic_block (panic_then (panic_then (panic_block (panic_then panic_body)))))))) rfl (fun w_ => rn_extract E2754 rfl rfl rfl) rfl fun a2755 E2756 => ?_
                  clear E2754
                  refine wa_only (i := 12) rfl (by kernel_rfl) (by kernel_rfl) (wl_store (i := 6) (vs := [.int .i64 y2743.1.Next, .int .i64 y2743.1.NextSession, .slice p2745 y2743.1.Processes.length c2746]) (cs' := [.int .i64 y2743.1.Next, .int .i64 y2743.1.NextSession, .slice p2745 y2743.1.Processes.length c2746]) E2756 H rfl rfl rfl rfl ti28 rfl rfl rfl rfl rfl rfl fun w2759 a2757 E2758 H' => ?_)
                  clear H E2756; have H := H'; clear H'
                  replace H : St w Nil Z w2759 [vw (kSlice 3 (kInt .i64)) a0 [.slice p3 a0.length c4], vw (kSlice 38 k_api_Process) y52.Processes [.slice p54 y52.Processes.length c55], vw (kSlice 38 k_api_Process) y70.1.Processes [.slice p72 y70.1.Processes.length c73], vw (kSlice 38 k_api_Process) ((y132.Processes.set (1 : Int).toNat (⟨u157.PID, u157.PPID, (IntKind.wrap .i64 (1 + (IntKind.wrap .i64 a1))), u157.EUID, u157.GID, u157.EGID, u157.AUID, u157.Session, u157.Cwd, u157.Comm, u157.Exe, u157.Open, u157.Audited⟩ : api_Process)).set (1 : Int).toNat (⟨u174.PID, u174.PPID, u174.UID, (IntKind.wrap .i64 (1 + (IntKind.wrap .i64 a2))), u174.GID, u174.EGID, u174.AUID, u174.Session, u174.Cwd, u174.Comm, u174.Exe, u174.Open, u174.Audited⟩ : api_Process)) [.slice p134 (((y132.Processes.set (1 : Int).toNat (⟨u157.PID, u157.PPID, (IntKind.wrap .i64 (1 + (IntKind.wrap .i64 a1))), u157.EUID, u157.GID, u157.EGID, u157.AUID, u157.Session, u157.Cwd, u157.Comm, u157.Exe, u157.Open, u157.Audited⟩ : api_Process)).set (1 : Int).toNat (⟨u174.PID, u174.PPID, u174.UID, (IntKind.wrap .i64 (1 + (IntKind.wrap .i64 a2))), u174.GID, u174.EGID, u174.AUID, u174.Session, u174.Cwd, u174.Comm, u174.Exe, u174.Open, u174.Audited⟩ : api_Process)).length) c135], vw (kSlice 38 k_api_Process) x2292 [.slice p2293 x2292.length c2294], vw (kSlice 3 (kInt .i64)) [0, (IntKind.wrap .i64 (1 + (IntKind.wrap .i64 a1))), (IntKind.wrap .i64 (1 + (IntKind.wrap .i64 a2))), 7, 4294967294] [.slice (some ⟨g2706, 0, none⟩) 5 5]] [[blk g22 [.slice p3 a0.length c4, .int .i64 (y2711.2)] 59], [], [blk g60 [.int .i64 x2290, .int .i64 x2291, .slice p2293 x2292.length c2294] 28], [], [], [], [blk g2739 [.int .i64 y2743.1.Next, .int .i64 y2743.1.NextSession, .slice p2745 y2743.1.Processes.length c2746] 28], [row 38 k_api_Process y2743.1.Processes (.slice p2745 y2743.1.Processes.length c2746)]] := H
                  refine ⟨fun h_ => (needs_no (by kernel_rfl) h_).elim, ?_⟩
                  refine wa_take (i := 13) E2758 rfl (by kernel_rfl) (panic_join (panic_then (panic_then (panic_block (panic_then (panic_then (panic_block (panic_then panic_body)))))))) rfl (fun w_ => rn_assign E2758 rfl rfl) rfl fun a2760 E2761 => ?_
                  clear E2758
                  refine wa_done (by kernel_rfl) ?_
                  replace H := H.toEnd 5 rfl
                  replace H := H.toEnd 6 rfl
                  replace H := H.toEnd 5 rfl
                  replace H : St w Nil Z w2759 [vw (kSlice 3 (kInt .i64)) a0 [.slice p3 a0.length c4], vw (kSlice 38 k_api_Process) y52.Processes [.slice p54 y52.Processes.length c55], vw (kSlice 38 k_api_Process) y70.1.Processes [.slice p72 y70.1.Processes.length c73], vw (kSlice 38 k_api_Process) ((y132.Processes.set (1 : Int).toNat (⟨u157.PID, u157.PPID, (IntKind.wrap .i64 (1 + (IntKind.wrap .i64 a1))), u157.EUID, u157.GID, u157.EGID, u157.AUID, u157.Session, u157.Cwd, u157.Comm, u157.Exe, u157.Open, u157.Audited⟩ : api_Process)).set (1 : Int).toNat (⟨u174.PID, u174.PPID, u174.UID, (IntKind.wrap .i64 (1 + (IntKind.wrap .i64 a2))), u174.GID, u174.EGID, u174.AUID, u174.Session, u174.Cwd, u174.Comm, u174.Exe, u174.Open, u174.Audited⟩ : api_Process)) [.slice p134 (((y132.Processes.set (1 : Int).toNat (⟨u157.PID, u157.PPID, (IntKind.wrap .i64 (1 + (IntKind.wrap .i64 a1))), u157.EUID, u157.GID, u157.EGID, u157.AUID, u157.Session, u157.Cwd, u157.Comm, u157.Exe, u157.Open, u157.Audited⟩ : api_Process)).set (1 : Int).toNat (⟨u174.PID, u174.PPID, u174.UID, (IntKind.wrap .i64 (1 + (IntKind.wrap .i64 a2))), u174.GID, u174.EGID, u174.AUID, u174.Session, u174.Cwd, u174.Comm, u174.Exe, u174.Open, u174.Audited⟩ : api_Process)).length) c135], vw (kSlice 38 k_api_Process) x2292 [.slice p2293 x2292.length c2294], vw (kSlice 3 (kInt .i64)) [0, (IntKind.wrap .i64 (1 + (IntKind.wrap .i64 a1))), (IntKind.wrap .i64 (1 + (IntKind.wrap .i64 a2))), 7, 4294967294] [.slice (some ⟨g2706, 0, none⟩) 5 5]] [[blk g22 [.slice p3 a0.length c4, .int .i64 (y2711.2)] 59], [], [blk g60 [.int .i64 x2290, .int .i64 x2291, .slice p2293 x2292.length c2294] 28], [], [], [], [row 38 k_api_Process y2743.1.Processes (.slice p2745 y2743.1.Processes.length c2746)], [blk g2739 [.int .i64 y2743.1.Next, .int .i64 y2743.1.NextSession, .slice p2745 y2743.1.Processes.length c2746] 28]] := H
                  exact ⟨g2739, y2743, p2745, c2746, g2706, y2711, E2761.pick ⟨rfl, rfl, rfl, rfl, rfl, rfl, rfl, rfl, rfl, rfl, rfl, rfl, rfl, rfl, rfl, rfl, rfl, rfl, rfl, rfl, rfl, rfl, rfl, rfl, rfl, rfl, rfl, rfl, rfl, rfl, rfl, rfl, rfl, rfl, rfl, rfl, rfl, rfl, rfl, rfl, rfl, rfl, rfl, rfl, rfl, rfl, rfl, rfl, rfl, rfl, rfl, rfl, rfl, rfl, rfl, rfl, rfl, rfl, trivial⟩, H.sel (fun Z hA => ⟨(argHolds_get hA (k := 0) rfl), (argHolds_get hA (k := 1) rfl), (argHolds_get hA (k := 2) rfl), (argHolds_get hA (k := 3) rfl), (argHolds_get hA (k := 4) rfl), (argHolds_get hA (k := 5) rfl), trivial⟩), h2301⟩
              · refine  (wl_alloc (cs := [.int .i64 0, .int .i64 0, .slice none 0 0]) E2709 H rfl ti28 rfl rfl fun g2762 w2763 a2764 E2765 H' => ?_)
                clear H E2709; have H := H'; clear H'
                replace H : St w Nil Z w2763 [vw (kSlice 3 (kInt .i64)) a0 [.slice p3 a0.length c4], vw (kSlice 38 k_api_Process) y52.Processes [.slice p54 y52.Processes.length c55], vw (kSlice 38 k_api_Process) y70.1.Processes [.slice p72 y70.1.Processes.length c73], vw (kSlice 38 k_api_Process) ((y132.Processes.set (1 : Int).toNat (⟨u157.PID, u157.PPID, (IntKind.wrap .i64 (1 + (IntKind.wrap .i64 a1))), u157.EUID, u157.GID, u157.EGID, u157.AUID, u157.Session, u157.Cwd, u157.Comm, u157.Exe, u157.Open, u157.Audited⟩ : api_Process)).set (1 : Int).toNat (⟨u174.PID, u174.PPID, u174.UID, (IntKind.wrap .i64 (1 + (IntKind.wrap .i64 a2))), u174.GID, u174.EGID, u174.AUID, u174.Session, u174.Cwd, u174.Comm, u174.Exe, u174.Open, u174.Audited⟩ : api_Process)) [.slice p134 (((y132.Processes.set (1 : Int).toNat (⟨u157.PID, u157.PPID, (IntKind.wrap .i64 (1 + (IntKind.wrap .i64 a1))), u157.EUID, u157.GID, u157.EGID, u157.AUID, u157.Session, u157.Cwd, u157.Comm, u157.Exe, u157.Open, u157.Audited⟩ : api_Process)).set (1 : Int).toNat (⟨u174.PID, u174.PPID, u174.UID, (IntKind.wrap .i64 (1 + (IntKind.wrap .i64 a2))), u174.GID, u174.EGID, u174.AUID, u174.Session, u174.Cwd, u174.Comm, u174.Exe, u174.Open, u174.Audited⟩ : api_Process)).length) c135], vw (kSlice 38 k_api_Process) x2292 [.slice p2293 x2292.length c2294]] [[blk g22 [.slice p3 a0.length c4, .int .i64 x2289] 59], [], [blk g60 [.int .i64 x2290, .int .i64 x2291, .slice p2293 x2292.length c2294] 28], [], [], [blk g2706 [.int .i64 0, .int .i64 (IntKind.wrap .i64 (1 + (IntKind.wrap .i64 a1))), .int .i64 (IntKind.wrap .i64 (1 + (IntKind.wrap .i64 a2))), .int .i64 7, .int .i64 4294967294] 3], [blk g2762 [.int .i64 0, .int .i64 0, .slice none 0 0] 28]] := H
                refine ⟨fun _ => ⟨H.get (i := 2) (k := 0) rfl rfl, trivial⟩, ?_⟩
                replace H := H.toRow (i := 5) (K := (kInt .i64)) (xs := [0, (IntKind.wrap .i64 (1 + (IntKind.wrap .i64 a1))), (IntKind.wrap .i64 (1 + (IntKind.wrap .i64 a2))), 7, 4294967294]) rfl rfl (fun Z hA => ⟨[.int .i64 0], _, rfl, rfl, ⟨[.int .i64 (IntKind.wrap .i64 (1 + (IntKind.wrap .i64 a1)))], _, rfl, rfl, ⟨[.int .i64 (IntKind.wrap .i64 (1 + (IntKind.wrap .i64 a2)))], _, rfl, rfl, ⟨[.int .i64 7], _, rfl, rfl, ⟨[.int .i64 4294967294], _, rfl, rfl, rfl⟩⟩⟩⟩⟩)
                replace H := H.share (i := 5) (A' := [vw (kSlice 3 (kInt .i64)) [0, (IntKind.wrap .i64 (1 + (IntKind.wrap .i64 a1))), (IntKind.wrap .i64 (1 + (IntKind.wrap .i64 a2))), 7, 4294967294] [.slice (some ⟨g2706, 0, none⟩) 5 5]]) (by intro b h; exact h) rfl (fun Z S1 h => ⟨rowH.read h.1, trivial⟩)
                obtain ⟨y2767, hy2768, h2301⟩ := bs h2301
                refine wa_only (i := 6) rfl (by kernel_rfl) (by kernel_rfl) (wl_funM (i := 0) E2765 H rfl (rn_call (args := [.pointer (some ⟨g22, 0, none⟩), .slice (some ⟨g2706, 0, none⟩) 5 5]) E2765 rfl rfl rfl Try.func13 nm13 rfl) rfl rfl (by exact fun Z hA => ⟨(argHolds_get hA (k := 0) rfl), (argHolds_get hA (k := 5) rfl), trivial⟩) (C13 (⟨a0, x2289⟩ : kauditmake_Src) [0, (IntKind.wrap .i64 (1 + (IntKind.wrap .i64 a1))), (IntKind.wrap .i64 (1 + (IntKind.wrap .i64 a2))), 7, 4294967294] g22 p3 c4 (some ⟨g2706, 0, none⟩) 5 _ _ hy2768) ?_)
                rintro v_ A_ I_ N_ w2771 a2769 ⟨rfl, rfl, rfl, rfl⟩ E2770 H'
                replace H := H'; clear H' E2765
                replace H : St w Nil Z w2771 [vw (kSlice 3 (kInt .i64)) a0 [.slice p3 a0.length c4], vw (kSlice 38 k_api_Process) y52.Processes [.slice p54 y52.Processes.length c55], vw (kSlice 38 k_api_Process) y70.1.Processes [.slice p72 y70.1.Processes.length c73], vw (kSlice 38 k_api_Process) ((y132.Processes.set (1 : Int).toNat (⟨u157.PID, u157.PPID, (IntKind.wrap .i64 (1 + (IntKind.wrap .i64 a1))), u157.EUID, u157.GID, u157.EGID, u157.AUID, u157.Session, u157.Cwd, u157.Comm, u157.Exe, u157.Open, u157.Audited⟩ : api_Process)).set (1 : Int).toNat (⟨u174.PID, u174.PPID, u174.UID, (IntKind.wrap .i64 (1 + (IntKind.wrap .i64 a2))), u174.GID, u174.EGID, u174.AUID, u174.Session, u174.Cwd, u174.Comm, u174.Exe, u174.Open, u174.Audited⟩ : api_Process)) [.slice p134 (((y132.Processes.set (1 : Int).toNat (⟨u157.PID, u157.PPID, (IntKind.wrap .i64 (1 + (IntKind.wrap .i64 a1))), u157.EUID, u157.GID, u157.EGID, u157.AUID, u157.Session, u157.Cwd, u157.Comm, u157.Exe, u157.Open, u157.Audited⟩ : api_Process)).set (1 : Int).toNat (⟨u174.PID, u174.PPID, u174.UID, (IntKind.wrap .i64 (1 + (IntKind.wrap .i64 a2))), u174.GID, u174.EGID, u174.AUID, u174.Session, u174.Cwd, u174.Comm, u174.Exe, u174.Open, u174.Audited⟩ : api_Process)).length) c135], vw (kSlice 38 k_api_Process) x2292 [.slice p2293 x2292.length c2294], vw (kSlice 3 (kInt .i64)) [0, (IntKind.wrap .i64 (1 + (IntKind.wrap .i64 a1))), (IntKind.wrap .i64 (1 + (IntKind.wrap .i64 a2))), 7, 4294967294] [.slice (some ⟨g2706, 0, none⟩) 5 5]] [[blk g22 [.slice p3 a0.length c4, .int .i64 (y2767.2)] 59], [], [blk g60 [.int .i64 x2290, .int .i64 x2291, .slice p2293 x2292.length c2294] 28], [], [], [], [blk g2762 [.int .i64 0, .int .i64 0, .slice none 0 0] 28]] := H
                refine ⟨fun _ => ⟨H.get (i := 2) (k := 0) rfl rfl, trivial⟩, ?_⟩
                obtain ⟨y2772, hy2773, h2301⟩ := bs h2301
                refine wa_only (i := 7) rfl (by kernel_rfl) (by kernel_rfl) (wl_fun E2770 H rfl (rn_call (args := [.agg #[.int .i64 x2290, .int .i64 x2291, .slice p2293 x2292.length c2294], .int .i64 y70.2.1, .int .i64 y2767.1]) E2770 rfl rfl rfl Try.func12 nm12 rfl) rfl (by exact fun Z hA => ⟨(argHolds_get hA (k := 4) rfl), trivial⟩) (C12 (⟨x2290, x2291, x2292⟩ : api_Table) y70.2.1 y2767.1 p2293 c2294 _ _ hy2773) ?_)
                rintro v_ A_ N_ w2779 a2777 ⟨p2774, c2775, rfl, rfl, rfl⟩ E2778 H'
                replace H := H'; clear H' E2770
                refine ⟨fun h_ => (needs_no (by kernel_rfl) h_).elim, ?_⟩
                refine wa_take (i := 8) E2778 rfl (by kernel_rfl) (panic_join (panic_then (panic_then (panic_block (panic_then (panic_then (panic_block (panic_then panic_body)))))))) rfl (fun w_ => rn_move E2778 rfl rfl) rfl fun a2780 E2781 => ?_
                clear E2778
                refine wa_take (i := 9) E2781 rfl (by kernel_rfl) (panic_join (panic_then (panic_then (panic_block (panic_then (panic_then (panic_block (panic_then panic_body)))))))) rfl (fun w_ => rn_extract E2781 rfl rfl rfl) rfl fun a2782 E2783 => ?_
                clear E2781
                refine wa_take (i := 10) E2783 rfl (by kernel_rfl) (panic_join (panic_then (panic_then (panic_block (panic_then (panic_then (panic_block (panic_then panic_body)))))))) rfl (fun w_ => rn_extract E2783 rfl rfl rfl) rfl fun a2784 E2785 => ?_
                clear E2783
                refine wa_only (i := 12) rfl (by kernel_rfl) (by kernel_rfl) (wl_store (i := 6) (vs := [.int .i64 y2772.1.Next, .int .i64 y2772.1.NextSession, .slice p2774 y2772.1.Processes.length c2775]) (cs' := [.int .i64 y2772.1.Next, .int .i64 y2772.1.NextSession, .slice p2774 y2772.1.Processes.length c2775]) E2785 H rfl rfl rfl rfl ti28 rfl rfl rfl rfl rfl rfl fun w2788 a2786 E2787 H' => ?_)
                clear H E2785; have H := H'; clear H'
                replace H : St w Nil Z w2788 [vw (kSlice 3 (kInt .i64)) a0 [.slice p3 a0.length c4], vw (kSlice 38 k_api_Process) y52.Processes [.slice p54 y52.Processes.length c55], vw (kSlice 38 k_api_Process) y70.1.Processes [.slice p72 y70.1.Processes.length c73], vw (kSlice 38 k_api_Process) ((y132.Processes.set (1 : Int).toNat (⟨u157.PID, u157.PPID, (IntKind.wrap .i64 (1 + (IntKind.wrap .i64 a1))), u157.EUID, u157.GID, u157.EGID, u157.AUID, u157.Session, u157.Cwd, u157.Comm, u157.Exe, u157.Open, u157.Audited⟩ : api_Process)).set (1 : Int).toNat (⟨u174.PID, u174.PPID, u174.UID, (IntKind.wrap .i64 (1 + (IntKind.wrap .i64 a2))), u174.GID, u174.EGID, u174.AUID, u174.Session, u174.Cwd, u174.Comm, u174.Exe, u174.Open, u174.Audited⟩ : api_Process)) [.slice p134 (((y132.Processes.set (1 : Int).toNat (⟨u157.PID, u157.PPID, (IntKind.wrap .i64 (1 + (IntKind.wrap .i64 a1))), u157.EUID, u157.GID, u157.EGID, u157.AUID, u157.Session, u157.Cwd, u157.Comm, u157.Exe, u157.Open, u157.Audited⟩ : api_Process)).set (1 : Int).toNat (⟨u174.PID, u174.PPID, u174.UID, (IntKind.wrap .i64 (1 + (IntKind.wrap .i64 a2))), u174.GID, u174.EGID, u174.AUID, u174.Session, u174.Cwd, u174.Comm, u174.Exe, u174.Open, u174.Audited⟩ : api_Process)).length) c135], vw (kSlice 38 k_api_Process) x2292 [.slice p2293 x2292.length c2294], vw (kSlice 3 (kInt .i64)) [0, (IntKind.wrap .i64 (1 + (IntKind.wrap .i64 a1))), (IntKind.wrap .i64 (1 + (IntKind.wrap .i64 a2))), 7, 4294967294] [.slice (some ⟨g2706, 0, none⟩) 5 5]] [[blk g22 [.slice p3 a0.length c4, .int .i64 (y2767.2)] 59], [], [blk g60 [.int .i64 x2290, .int .i64 x2291, .slice p2293 x2292.length c2294] 28], [], [], [], [blk g2762 [.int .i64 y2772.1.Next, .int .i64 y2772.1.NextSession, .slice p2774 y2772.1.Processes.length c2775] 28], [row 38 k_api_Process y2772.1.Processes (.slice p2774 y2772.1.Processes.length c2775)]] := H
                refine ⟨fun h_ => (needs_no (by kernel_rfl) h_).elim, ?_⟩
                refine wa_take (i := 13) E2787 rfl (by kernel_rfl) (panic_join (panic_then (panic_then (panic_block (panic_then (panic_then (panic_block (panic_then panic_body)))))))) rfl (fun w_ => rn_assign E2787 rfl rfl) rfl fun a2789 E2790 => ?_
                clear E2787
                refine wa_done (by kernel_rfl) ?_
                replace H := H.toEnd 5 rfl
                replace H := H.toEnd 6 rfl
                replace H := H.toEnd 5 rfl
                replace H : St w Nil Z w2788 [vw (kSlice 3 (kInt .i64)) a0 [.slice p3 a0.length c4], vw (kSlice 38 k_api_Process) y52.Processes [.slice p54 y52.Processes.length c55], vw (kSlice 38 k_api_Process) y70.1.Processes [.slice p72 y70.1.Processes.length c73], vw (kSlice 38 k_api_Process) ((y132.Processes.set (1 : Int).toNat (⟨u157.PID, u157.PPID, (IntKind.wrap .i64 (1 + (IntKind.wrap .i64 a1))), u157.EUID, u157.GID, u157.EGID, u157.AUID, u157.Session, u157.Cwd, u157.Comm, u157.Exe, u157.Open, u157.Audited⟩ : api_Process)).set (1 : Int).toNat (⟨u174.PID, u174.PPID, u174.UID, (IntKind.wrap .i64 (1 + (IntKind.wrap .i64 a2))), u174.GID, u174.EGID, u174.AUID, u174.Session, u174.Cwd, u174.Comm, u174.Exe, u174.Open, u174.Audited⟩ : api_Process)) [.slice p134 (((y132.Processes.set (1 : Int).toNat (⟨u157.PID, u157.PPID, (IntKind.wrap .i64 (1 + (IntKind.wrap .i64 a1))), u157.EUID, u157.GID, u157.EGID, u157.AUID, u157.Session, u157.Cwd, u157.Comm, u157.Exe, u157.Open, u157.Audited⟩ : api_Process)).set (1 : Int).toNat (⟨u174.PID, u174.PPID, u174.UID, (IntKind.wrap .i64 (1 + (IntKind.wrap .i64 a2))), u174.GID, u174.EGID, u174.AUID, u174.Session, u174.Cwd, u174.Comm, u174.Exe, u174.Open, u174.Audited⟩ : api_Process)).length) c135], vw (kSlice 38 k_api_Process) x2292 [.slice p2293 x2292.length c2294], vw (kSlice 3 (kInt .i64)) [0, (IntKind.wrap .i64 (1 + (IntKind.wrap .i64 a1))), (IntKind.wrap .i64 (1 + (IntKind.wrap .i64 a2))), 7, 4294967294] [.slice (some ⟨g2706, 0, none⟩) 5 5]] [[blk g22 [.slice p3 a0.length c4, .int .i64 (y2767.2)] 59], [], [blk g60 [.int .i64 x2290, .int .i64 x2291, .slice p2293 x2292.length c2294] 28], [], [], [], [row 38 k_api_Process y2772.1.Processes (.slice p2774 y2772.1.Processes.length c2775)], [blk g2762 [.int .i64 y2772.1.Next, .int .i64 y2772.1.NextSession, .slice p2774 y2772.1.Processes.length c2775] 28]] := H
                exact ⟨g2762, y2772, p2774, c2775, g2706, y2767, E2790.pick ⟨rfl, rfl, rfl, rfl, rfl, rfl, rfl, rfl, rfl, rfl, rfl, rfl, rfl, rfl, rfl, rfl, rfl, rfl, rfl, rfl, rfl, rfl, rfl, rfl, rfl, rfl, rfl, rfl, rfl, rfl, rfl, rfl, rfl, rfl, rfl, rfl, rfl, rfl, rfl, rfl, rfl, rfl, rfl, rfl, rfl, rfl, rfl, rfl, rfl, rfl, rfl, rfl, rfl, rfl, rfl, rfl, rfl, rfl, trivial⟩, H.sel (fun Z hA => ⟨(argHolds_get hA (k := 0) rfl), (argHolds_get hA (k := 1) rfl), (argHolds_get hA (k := 2) rfl), (argHolds_get hA (k := 3) rfl), (argHolds_get hA (k := 4) rfl), (argHolds_get hA (k := 5) rfl), trivial⟩), h2301⟩
            · refine  (wl_alloc (cs := [.int .i64 0, .int .i64 0, .slice none 0 0]) E2705 H rfl ti28 rfl rfl fun g2791 w2792 a2793 E2794 H' => ?_)
              clear H E2705; have H := H'; clear H'
              refine ⟨fun _ => ⟨H.get (i := 2) (k := 0) rfl rfl, trivial⟩, ?_⟩
              refine wa_only (i := 5) rfl (by kernel_rfl) (by kernel_rfl) (wl_buildSlice (ps := [(0, .int .i64 0), (1, .int .i64 (IntKind.wrap .i64 (1 + (IntKind.wrap .i64 a1)))), (2, .int .i64 (IntKind.wrap .i64 (1 + (IntKind.wrap .i64 a2)))), (3, .int .i64 7), (4, .int .i64 4294967294)]) (cs := [.int .i64 0, .int .i64 (IntKind.wrap .i64 (1 + (IntKind.wrap .i64 a1))), .int .i64 (IntKind.wrap .i64 (1 + (IntKind.wrap .i64 a2))), .int .i64 7, .int .i64 4294967294]) E2794 H rfl Try.underlying22 ti3 rfl rfl (by kernel_rfl) rfl fun g2795 w2796 a2797 E2798 H' => ?_)
              clear H E2794; have H := H'; clear H'
              replace H : St w Nil Z w2796 [vw (kSlice 3 (kInt .i64)) a0 [.slice p3 a0.length c4], vw (kSlice 38 k_api_Process) y52.Processes [.slice p54 y52.Processes.length c55], vw (kSlice 38 k_api_Process) y70.1.Processes [.slice p72 y70.1.Processes.length c73], vw (kSlice 38 k_api_Process) ((y132.Processes.set (1 : Int).toNat (⟨u157.PID, u157.PPID, (IntKind.wrap .i64 (1 + (IntKind.wrap .i64 a1))), u157.EUID, u157.GID, u157.EGID, u157.AUID, u157.Session, u157.Cwd, u157.Comm, u157.Exe, u157.Open, u157.Audited⟩ : api_Process)).set (1 : Int).toNat (⟨u174.PID, u174.PPID, u174.UID, (IntKind.wrap .i64 (1 + (IntKind.wrap .i64 a2))), u174.GID, u174.EGID, u174.AUID, u174.Session, u174.Cwd, u174.Comm, u174.Exe, u174.Open, u174.Audited⟩ : api_Process)) [.slice p134 (((y132.Processes.set (1 : Int).toNat (⟨u157.PID, u157.PPID, (IntKind.wrap .i64 (1 + (IntKind.wrap .i64 a1))), u157.EUID, u157.GID, u157.EGID, u157.AUID, u157.Session, u157.Cwd, u157.Comm, u157.Exe, u157.Open, u157.Audited⟩ : api_Process)).set (1 : Int).toNat (⟨u174.PID, u174.PPID, u174.UID, (IntKind.wrap .i64 (1 + (IntKind.wrap .i64 a2))), u174.GID, u174.EGID, u174.AUID, u174.Session, u174.Cwd, u174.Comm, u174.Exe, u174.Open, u174.Audited⟩ : api_Process)).length) c135], vw (kSlice 38 k_api_Process) x2292 [.slice p2293 x2292.length c2294]] [[blk g22 [.slice p3 a0.length c4, .int .i64 x2289] 59], [], [blk g60 [.int .i64 x2290, .int .i64 x2291, .slice p2293 x2292.length c2294] 28], [], [], [blk g2791 [.int .i64 0, .int .i64 0, .slice none 0 0] 28], [blk g2795 [.int .i64 0, .int .i64 (IntKind.wrap .i64 (1 + (IntKind.wrap .i64 a1))), .int .i64 (IntKind.wrap .i64 (1 + (IntKind.wrap .i64 a2))), .int .i64 7, .int .i64 4294967294] 3]] := H
              refine ⟨fun _ => ⟨H.get (i := 2) (k := 0) rfl rfl, trivial⟩, ?_⟩
              replace H := H.toRow (i := 6) (K := (kInt .i64)) (xs := [0, (IntKind.wrap .i64 (1 + (IntKind.wrap .i64 a1))), (IntKind.wrap .i64 (1 + (IntKind.wrap .i64 a2))), 7, 4294967294]) rfl rfl (fun Z hA => ⟨[.int .i64 0], _, rfl, rfl, ⟨[.int .i64 (IntKind.wrap .i64 (1 + (IntKind.wrap .i64 a1)))], _, rfl, rfl, ⟨[.int .i64 (IntKind.wrap .i64 (1 + (IntKind.wrap .i64 a2)))], _, rfl, rfl, ⟨[.int .i64 7], _, rfl, rfl, ⟨[.int .i64 4294967294], _, rfl, rfl, rfl⟩⟩⟩⟩⟩)
              replace H := H.share (i := 6) (A' := [vw (kSlice 3 (kInt .i64)) [0, (IntKind.wrap .i64 (1 + (IntKind.wrap .i64 a1))), (IntKind.wrap .i64 (1 + (IntKind.wrap .i64 a2))), 7, 4294967294] [.slice (some ⟨g2795, 0, none⟩) 5 5]]) (by intro b h; exact h) rfl (fun Z S1 h => ⟨rowH.read h.1, trivial⟩)
              obtain ⟨y2800, hy2801, h2301⟩ := bs h2301
              refine wa_only (i := 6) rfl (by kernel_rfl) (by kernel_rfl) (wl_funM (i := 0) E2798 H rfl (rn_call (args := [.pointer (some ⟨g22, 0, none⟩), .slice (some ⟨g2795, 0, none⟩) 5 5]) E2798 rfl rfl rfl Try.func13 nm13 rfl) rfl rfl (by exact fun Z hA => ⟨(argHolds_get hA (k := 0) rfl), (argHolds_get hA (k := 5) rfl), trivial⟩) (C13 (⟨a0, x2289⟩ : kauditmake_Src) [0, (IntKind.wrap .i64 (1 + (IntKind.wrap .i64 a1))), (IntKind.wrap .i64 (1 + (IntKind.wrap .i64 a2))), 7, 4294967294] g22 p3 c4 (some ⟨g2795, 0, none⟩) 5 _ _ hy2801) ?_)
              rintro v_ A_ I_ N_ w2804 a2802 ⟨rfl, rfl, rfl, rfl⟩ E2803 H'
              replace H := H'; clear H' E2798
              replace H : St w Nil Z w2804 [vw (kSlice 3 (kInt .i64)) a0 [.slice p3 a0.length c4], vw (kSlice 38 k_api_Process) y52.Processes [.slice p54 y52.Processes.length c55], vw (kSlice 38 k_api_Process) y70.1.Processes [.slice p72 y70.1.Processes.length c73], vw (kSlice 38 k_api_Process) ((y132.Processes.set (1 : Int).toNat (⟨u157.PID, u157.PPID, (IntKind.wrap .i64 (1 + (IntKind.wrap .i64 a1))), u157.EUID, u157.GID, u157.EGID, u157.AUID, u157.Session, u157.Cwd, u157.Comm, u157.Exe, u157.Open, u157.Audited⟩ : api_Process)).set (1 : Int).toNat (⟨u174.PID, u174.PPID, u174.UID, (IntKind.wrap .i64 (1 + (IntKind.wrap .i64 a2))), u174.GID, u174.EGID, u174.AUID, u174.Session, u174.Cwd, u174.Comm, u174.Exe, u174.Open, u174.Audited⟩ : api_Process)) [.slice p134 (((y132.Processes.set (1 : Int).toNat (⟨u157.PID, u157.PPID, (IntKind.wrap .i64 (1 + (IntKind.wrap .i64 a1))), u157.EUID, u157.GID, u157.EGID, u157.AUID, u157.Session, u157.Cwd, u157.Comm, u157.Exe, u157.Open, u157.Audited⟩ : api_Process)).set (1 : Int).toNat (⟨u174.PID, u174.PPID, u174.UID, (IntKind.wrap .i64 (1 + (IntKind.wrap .i64 a2))), u174.GID, u174.EGID, u174.AUID, u174.Session, u174.Cwd, u174.Comm, u174.Exe, u174.Open, u174.Audited⟩ : api_Process)).length) c135], vw (kSlice 38 k_api_Process) x2292 [.slice p2293 x2292.length c2294], vw (kSlice 3 (kInt .i64)) [0, (IntKind.wrap .i64 (1 + (IntKind.wrap .i64 a1))), (IntKind.wrap .i64 (1 + (IntKind.wrap .i64 a2))), 7, 4294967294] [.slice (some ⟨g2795, 0, none⟩) 5 5]] [[blk g22 [.slice p3 a0.length c4, .int .i64 (y2800.2)] 59], [], [blk g60 [.int .i64 x2290, .int .i64 x2291, .slice p2293 x2292.length c2294] 28], [], [], [blk g2791 [.int .i64 0, .int .i64 0, .slice none 0 0] 28], []] := H
              refine ⟨fun _ => ⟨H.get (i := 2) (k := 0) rfl rfl, trivial⟩, ?_⟩
              obtain ⟨y2805, hy2806, h2301⟩ := bs h2301
              refine wa_only (i := 7) rfl (by kernel_rfl) (by kernel_rfl) (wl_fun E2803 H rfl (rn_call (args := [.agg #[.int .i64 x2290, .int .i64 x2291, .slice p2293 x2292.length c2294], .int .i64 y70.2.1, .int .i64 y2800.1]) E2803 rfl rfl rfl Try.func12 nm12 rfl) rfl (by exact fun Z hA => ⟨(argHolds_get hA (k := 4) rfl), trivial⟩) (C12 (⟨x2290, x2291, x2292⟩ : api_Table) y70.2.1 y2800.1 p2293 c2294 _ _ hy2806) ?_)
              rintro v_ A_ N_ w2812 a2810 ⟨p2807, c2808, rfl, rfl, rfl⟩ E2811 H'
              replace H := H'; clear H' E2803
              refine ⟨fun h_ => (needs_no (by kernel_rfl) h_).elim, ?_⟩
              refine wa_take (i := 8) E2811 rfl (by kernel_rfl) (panic_join (panic_then (panic_then (panic_block (panic_then (panic_then (panic_block (panic_then panic_body)))))))) rfl (fun w_ => rn_move E2811 rfl rfl) rfl fun a2813 E2814 => ?_
              clear E2811
              refine wa_take (i := 9) E2814 rfl (by kernel_rfl) (panic_join (panic_then (panic_then (panic_block (panic_then (panic_then (panic_block (panic_then panic_body)))))))) rfl (fun w_ => rn_extract E2814 rfl rfl rfl) rfl fun a2815 E2816 => ?_
              clear E2814
              refine wa_take (i := 10) E2816 rfl (by kernel_rfl) (panic_join (panic_then (panic_then (panic_block (panic_then (panic_then (panic_block (panic_then panic_body)))))))) rfl (fun w_ => rn_extract E2816 rfl rfl rfl) rfl fun a2817 E2818 => ?_
              clear E2816
              refine wa_only (i := 12) rfl (by kernel_rfl) (by kernel_rfl) (wl_store (i := 5) (vs := [.int .i64 y2805.1.Next, .int .i64 y2805.1.NextSession, .slice p2807 y2805.1.Processes.length c2808]) (cs' := [.int .i64 y2805.1.Next, .int .i64 y2805.1.NextSession, .slice p2807 y2805.1.Processes.length c2808]) E2818 H rfl rfl rfl rfl ti28 rfl rfl rfl rfl rfl rfl fun w2821 a2819 E2820 H' => ?_)
              clear H E2818; have H := H'; clear H'
              replace H : St w Nil Z w2821 [vw (kSlice 3 (kInt .i64)) a0 [.slice p3 a0.length c4], vw (kSlice 38 k_api_Process) y52.Processes [.slice p54 y52.Processes.length c55], vw (kSlice 38 k_api_Process) y70.1.Processes [.slice p72 y70.1.Processes.length c73], vw (kSlice 38 k_api_Process) ((y132.Processes.set (1 : Int).toNat (⟨u157.PID, u157.PPID, (IntKind.wrap .i64 (1 + (IntKind.wrap .i64 a1))), u157.EUID, u157.GID, u157.EGID, u157.AUID, u157.Session, u157.Cwd, u157.Comm, u157.Exe, u157.Open, u157.Audited⟩ : api_Process)).set (1 : Int).toNat (⟨u174.PID, u174.PPID, u174.UID, (IntKind.wrap .i64 (1 + (IntKind.wrap .i64 a2))), u174.GID, u174.EGID, u174.AUID, u174.Session, u174.Cwd, u174.Comm, u174.Exe, u174.Open, u174.Audited⟩ : api_Process)) [.slice p134 (((y132.Processes.set (1 : Int).toNat (⟨u157.PID, u157.PPID, (IntKind.wrap .i64 (1 + (IntKind.wrap .i64 a1))), u157.EUID, u157.GID, u157.EGID, u157.AUID, u157.Session, u157.Cwd, u157.Comm, u157.Exe, u157.Open, u157.Audited⟩ : api_Process)).set (1 : Int).toNat (⟨u174.PID, u174.PPID, u174.UID, (IntKind.wrap .i64 (1 + (IntKind.wrap .i64 a2))), u174.GID, u174.EGID, u174.AUID, u174.Session, u174.Cwd, u174.Comm, u174.Exe, u174.Open, u174.Audited⟩ : api_Process)).length) c135], vw (kSlice 38 k_api_Process) x2292 [.slice p2293 x2292.length c2294], vw (kSlice 3 (kInt .i64)) [0, (IntKind.wrap .i64 (1 + (IntKind.wrap .i64 a1))), (IntKind.wrap .i64 (1 + (IntKind.wrap .i64 a2))), 7, 4294967294] [.slice (some ⟨g2795, 0, none⟩) 5 5]] [[blk g22 [.slice p3 a0.length c4, .int .i64 (y2800.2)] 59], [], [blk g60 [.int .i64 x2290, .int .i64 x2291, .slice p2293 x2292.length c2294] 28], [], [], [blk g2791 [.int .i64 y2805.1.Next, .int .i64 y2805.1.NextSession, .slice p2807 y2805.1.Processes.length c2808] 28], [], [row 38 k_api_Process y2805.1.Processes (.slice p2807 y2805.1.Processes.length c2808)]] := H
              refine ⟨fun h_ => (needs_no (by kernel_rfl) h_).elim, ?_⟩
              refine wa_take (i := 13) E2820 rfl (by kernel_rfl) (panic_join (panic_then (panic_then (panic_block (panic_then (panic_then (panic_block (panic_then panic_body)))))))) rfl (fun w_ => rn_assign E2820 rfl rfl) rfl fun a2822 E2823 => ?_
              clear E2820
              refine wa_done (by kernel_rfl) ?_
              replace H := H.toEnd 6 rfl
              replace H := H.toEnd 6 rfl
              replace H := H.toEnd 5 rfl
              replace H : St w Nil Z w2821 [vw (kSlice 3 (kInt .i64)) a0 [.slice p3 a0.length c4], vw (kSlice 38 k_api_Process) y52.Processes [.slice p54 y52.Processes.length c55], vw (kSlice 38 k_api_Process) y70.1.Processes [.slice p72 y70.1.Processes.length c73], vw (kSlice 38 k_api_Process) ((y132.Processes.set (1 : Int).toNat (⟨u157.PID, u157.PPID, (IntKind.wrap .i64 (1 + (IntKind.wrap .i64 a1))), u157.EUID, u157.GID, u157.EGID, u157.AUID, u157.Session, u157.Cwd, u157.Comm, u157.Exe, u157.Open, u157.Audited⟩ : api_Process)).set (1 : Int).toNat (⟨u174.PID, u174.PPID, u174.UID, (IntKind.wrap .i64 (1 + (IntKind.wrap .i64 a2))), u174.GID, u174.EGID, u174.AUID, u174.Session, u174.Cwd, u174.Comm, u174.Exe, u174.Open, u174.Audited⟩ : api_Process)) [.slice p134 (((y132.Processes.set (1 : Int).toNat (⟨u157.PID, u157.PPID, (IntKind.wrap .i64 (1 + (IntKind.wrap .i64 a1))), u157.EUID, u157.GID, u157.EGID, u157.AUID, u157.Session, u157.Cwd, u157.Comm, u157.Exe, u157.Open, u157.Audited⟩ : api_Process)).set (1 : Int).toNat (⟨u174.PID, u174.PPID, u174.UID, (IntKind.wrap .i64 (1 + (IntKind.wrap .i64 a2))), u174.GID, u174.EGID, u174.AUID, u174.Session, u174.Cwd, u174.Comm, u174.Exe, u174.Open, u174.Audited⟩ : api_Process)).length) c135], vw (kSlice 38 k_api_Process) x2292 [.slice p2293 x2292.length c2294], vw (kSlice 3 (kInt .i64)) [0, (IntKind.wrap .i64 (1 + (IntKind.wrap .i64 a1))), (IntKind.wrap .i64 (1 + (IntKind.wrap .i64 a2))), 7, 4294967294] [.slice (some ⟨g2795, 0, none⟩) 5 5]] [[blk g22 [.slice p3 a0.length c4, .int .i64 (y2800.2)] 59], [], [blk g60 [.int .i64 x2290, .int .i64 x2291, .slice p2293 x2292.length c2294] 28], [], [], [], [row 38 k_api_Process y2805.1.Processes (.slice p2807 y2805.1.Processes.length c2808)], [blk g2791 [.int .i64 y2805.1.Next, .int .i64 y2805.1.NextSession, .slice p2807 y2805.1.Processes.length c2808] 28]] := H
              exact ⟨g2791, y2805, p2807, c2808, g2795, y2800, E2823.pick ⟨rfl, rfl, rfl, rfl, rfl, rfl, rfl, rfl, rfl, rfl, rfl, rfl, rfl, rfl, rfl, rfl, rfl, rfl, rfl, rfl, rfl, rfl, rfl, rfl, rfl, rfl, rfl, rfl, rfl, rfl, rfl, rfl, rfl, rfl, rfl, rfl, rfl, rfl, rfl, rfl, rfl, rfl, rfl, rfl, rfl, rfl, rfl, rfl, rfl, rfl, rfl, rfl, rfl, rfl, rfl, rfl, rfl, rfl, trivial⟩, H.sel (fun Z hA => ⟨(argHolds_get hA (k := 0) rfl), (argHolds_get hA (k := 1) rfl), (argHolds_get hA (k := 2) rfl), (argHolds_get hA (k := 3) rfl), (argHolds_get hA (k := 4) rfl), (argHolds_get hA (k := 5) rfl), trivial⟩), h2301⟩
        · replace h2301 := itF hb2308 h2301
          refine wc_F E2307 rfl hb2308 ?_
          refine wp_exit ?_
          obtain rfl := Option.some.inj h2301
          try dsimp only at h
          refine then_exit (then_exit (block_exit (?_)))
          refine then_normal (hK192 _ _ ?_)
          refine wp_seq_k fun _ hK2824 => ?_
          refine wp_region_lit ?_
          obtain ⟨y2825, hy2826, h⟩ := bs h
          refine wl_cons (wl_fun E2307 H rfl (rn_call (args := []) E2307 rfl rfl rfl Try.func15 nm15 rfl) rfl (by exact fun Z hA => trivial) (C15  _ _ hy2826) ?_)
          rintro v_ A_ N_ w2829 a2827 ⟨rfl, rfl, rfl⟩ E2828 H'
          replace H := H'; clear H' E2307
          refine wl_cons (wl_val E2828 rfl (rn_assign E2828 rfl rfl) rfl fun a2830 E2831 => ?_)
          clear E2828
          refine wl_nil ?_
          refine then_normal (hK2824 _ _ ?_)
          refine wp_ret ?_
          refine ?_
          obtain rfl := Option.some.inj h
          refine wb_ret1 E2831 rfl (rv_tmp E2831 rfl) ?_
          exact ⟨_, rfl, [], [], ⟨rfl, rfl, rfl⟩, H.leave (fun Z hA => trivial) (fun Z S hA hL => trivial)⟩
theorem C3_flat {r : Bool} : ∀ v_ A_ N_, (fun (v_ : Value) (A_ : List VP) (N_ : List (List SP)) => v_ = .bool r ∧ A_ = [] ∧ N_ = []) v_ A_ N_ → A_ = [] ∧ Flat N_ := by
  rintro v_ A_ N_ ⟨rfl, rfl, rfl⟩
  exact ⟨rfl, flat_nil⟩
end Go.Proofs.Ytanimjbmkhpnaaa.Gx
