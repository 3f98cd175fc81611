/- Function 21, kaudit/kauditref09.Same: what it answers as a plain function, and that the Go code comes to exactly that (where the plain function gives an answer). -/
import Derived.Test.YtanimjbmkhpnaaaXT
import Derived.Test.YtanimjbmkhpnaaaX43
set_option linter.unusedVariables false
set_option linter.unusedSimpArgs false
namespace Go.Proofs.Ytanimjbmkhpnaaa.Gx
open Go.Gx Go.RowKit
/-! ### kaudit/kauditref09.Same: function 21 -/
def f_kauditref09_Same_l1 (a0 : api_Table) (a1 : api_Table) : Nat → Int → Option (Sum (Unit) (Bool))
  | 0, _ => none
  | k_ + 1, x265 => if (decide (x265 < (a0.Processes.length : Int))) = true then ((at_ a0.Processes x265).bind fun u295 => (at_ a1.Processes x265).bind fun u313 => (f_kauditref09_SameProcess u295 u313).bind fun y325 => if y325 = true then (f_kauditref09_Same_l1 a0 a1 k_ (IntKind.wrap .i64 (x265 + 1))) else (some (Sum.inr (false)))) else (some (Sum.inl ()))
def f_kauditref09_Same (a0 : api_Table) (a1 : api_Table) : Option (Bool) := if (a0.Next != a1.Next) = true then (some (false)) else (if (a0.NextSession != a1.NextSession) = true then (some (false)) else (if ((a0.Processes.length : Int) != (a1.Processes.length : Int)) = true then (some (false)) else ((f_kauditref09_Same_l1 a0 a1 (((((a0.Processes.length : Int) : Int) - (0)).toNat + 1)) 0).bind fun o_ => match o_ with | Sum.inl _ => some (true) | Sum.inr r_ => some (r_))))
set_option maxHeartbeats 4000000 in
set_option maxRecDepth 100000 in
theorem C21 (a0 : api_Table) (a1 : api_Table) (p5 : Option Addr) (c6 : Nat) (p7 : Option Addr) (c8 : Nat) (r : Bool) (w : World) (h : f_kauditref09_Same a0 a1 = some r) : Fun Try.prog 21 #[.agg #[.int .i64 a0.Next, .int .i64 a0.NextSession, .slice p5 a0.Processes.length c6], .agg #[.int .i64 a1.Next, .int .i64 a1.NextSession, .slice p7 a1.Processes.length c8]] w [vw (kSlice 38 k_api_Process) a0.Processes [.slice p5 a0.Processes.length c6], vw (kSlice 38 k_api_Process) a1.Processes [.slice p7 a1.Processes.length c8]] (fun (v_ : Value) (A_ : List VP) (N_ : List (List SP)) => v_ = .bool r ∧ A_ = [] ∧ N_ = []) := by
  unfold f_kauditref09_Same at h
  refine fun_begin (args := [.agg #[.int .i64 a0.Next, .int .i64 a0.NextSession, .slice p5 a0.Processes.length c6], .agg #[.int .i64 a1.Next, .int .i64 a1.NextSession, .slice p7 a1.Processes.length c8]]) Try.func21 rfl Try.ntmps21 rfl fun Z a E H => ?_
  refine wp_seq_k fun _ hK9 => ?_
  refine wp_region_lit ?_
  refine wl_cons (wl_box (T := 28) (cs := [.int .i64 a0.Next, .int .i64 a0.NextSession, .slice p5 a0.Processes.length c6]) E H rfl rfl rfl rfl fun g10 w11 a12 E13 H' => ?_)
  clear H E; have H := H'; clear H'
  refine wl_cons (wl_box (T := 28) (cs := [.int .i64 a1.Next, .int .i64 a1.NextSession, .slice p7 a1.Processes.length c8]) E13 H rfl rfl rfl rfl fun g14 w15 a16 E17 H' => ?_)
  clear H E13; have H := H'; clear H'
  refine wl_cons (wl_val E17 rfl (rn_assign E17 rfl rfl) rfl fun a18 E19 => ?_)
  clear E17
  refine wl_nil ?_
  refine then_normal (hK9 _ _ ?_)
  refine wp_seq_k fun _ hK20 => ?_
  refine wp_seq_k fun _ hK21 => ?_
  refine wp_region_lit ?_
  refine wl_cons (wl_val E19 rfl (rn_fieldAddr E19 rfl Try.underlying28 rfl ti3 rfl rfl) rfl fun a22 E23 => ?_)
  clear E19
  refine wl_cons (wl_val E23 rfl (rn_ld1 (i := 0) E23 H rfl Try.underlying3 rfl rfl rfl rfl) rfl fun a24 E25 => ?_)
  clear E23
  refine wl_cons (wl_val E25 rfl (rn_fieldAddr E25 rfl Try.underlying28 rfl ti3 rfl rfl) rfl fun a26 E27 => ?_)
  clear E25
  refine wl_cons (wl_val E27 rfl (rn_ld1 (i := 1) E27 H rfl Try.underlying3 rfl rfl rfl rfl) rfl fun a28 E29 => ?_)
  clear E27
  refine wl_cons (wl_val E29 rfl (rn_int E29 rfl rfl rfl rfl) rfl fun a30 E31 => ?_)
  clear E29
  refine wl_cons (wl_val E31 rfl (rn_move E31 rfl rfl) rfl fun a32 E33 => ?_)
  clear E31
  rcases Bool.eq_false_or_eq_true (a0.Next != a1.Next) with hb34 | hb34
  · replace h := itT hb34 h
    refine wl_cons (wl_pass E33 (E33.unwanted rfl rfl rfl hb34) rfl fun a35 E36 => ?_)
    clear E33
    refine wl_cons (wl_pass E36 (E36.unwanted rfl rfl rfl hb34) rfl fun a37 E38 => ?_)
    clear E36
    refine wl_cons (wl_pass E38 (E38.unwanted rfl rfl rfl hb34) rfl fun a39 E40 => ?_)
    clear E38
    refine wl_cons (wl_pass E40 (E40.unwanted rfl rfl rfl hb34) rfl fun a41 E42 => ?_)
    clear E40
    refine wl_cons (wl_pass E42 (E42.unwanted rfl rfl rfl hb34) rfl fun a43 E44 => ?_)
    clear E42
    refine wl_cons (wl_val E44 rfl (rn_pickT E44 rfl rfl hb34 rfl) rfl fun a45 E46 => ?_)
    clear E44
    refine wl_cons (wl_val E46 rfl (rn_move E46 rfl rfl) rfl fun a47 E48 => ?_)
    clear E46
    refine wl_cons (wl_pass E48 (E48.unwanted rfl rfl rfl rfl) rfl fun a49 E50 => ?_)
    clear E48
    refine wl_cons (wl_pass E50 (E50.unwanted rfl rfl rfl rfl) rfl fun a51 E52 => ?_)
    clear E50
    refine wl_cons (wl_pass E52 (E52.unwanted rfl rfl rfl rfl) rfl fun a53 E54 => ?_)
    clear E52
    refine wl_cons (wl_pass E54 (E54.unwanted rfl rfl rfl rfl) rfl fun a55 E56 => ?_)
    clear E54
    refine wl_cons (wl_pass E56 (E56.unwanted rfl rfl rfl rfl) rfl fun a57 E58 => ?_)
    clear E56
    refine wl_cons (wl_pass E58 (E58.unwanted rfl rfl rfl rfl) rfl fun a59 E60 => ?_)
    clear E58
    refine wl_cons (wl_pass E60 (E60.unwanted rfl rfl rfl rfl) rfl fun a61 E62 => ?_)
    clear E60
    refine wl_cons (wl_val E62 rfl (rn_pickT E62 rfl rfl rfl rfl) rfl fun a63 E64 => ?_)
    clear E62
    refine wl_nil ?_
    refine then_normal (hK21 _ _ ?_)
    refine wc_T E64 rfl rfl ?_
    refine wp_seq_k fun _ hK65 => ?_
    refine wp_region_lit ?_
    refine wl_cons (wl_val E64 rfl (rn_assign E64 rfl rfl) rfl fun a66 E67 => ?_)
    clear E64
    refine wl_nil ?_
    refine then_normal (hK65 _ _ ?_)
    refine wp_ret ?_
    refine then_ret (?_)
    obtain rfl := Option.some.inj h
    refine wb_ret1 E67 rfl (rv_tmp E67 rfl) ?_
    exact ⟨_, rfl, [], [], ⟨rfl, rfl, rfl⟩, H.leave (fun Z hA => trivial) (fun Z S hA hL => trivial)⟩
  · replace h := itF hb34 h
    refine wl_cons (wl_val E33 (E33.wantedB rfl rfl rfl hb34) (rn_fieldAddr E33 rfl Try.underlying28 rfl ti3 rfl rfl) rfl fun a68 E69 => ?_)
    clear E33
    refine wl_cons (wl_val E69 (E69.wantedB rfl rfl rfl hb34) (rn_ld1 (i := 0) E69 H rfl Try.underlying3 rfl rfl rfl rfl) rfl fun a70 E71 => ?_)
    clear E69
    refine wl_cons (wl_val E71 (E71.wantedB rfl rfl rfl hb34) (rn_fieldAddr E71 rfl Try.underlying28 rfl ti3 rfl rfl) rfl fun a72 E73 => ?_)
    clear E71
    refine wl_cons (wl_val E73 (E73.wantedB rfl rfl rfl hb34) (rn_ld1 (i := 1) E73 H rfl Try.underlying3 rfl rfl rfl rfl) rfl fun a74 E75 => ?_)
    clear E73
    refine wl_cons (wl_val E75 (E75.wantedB rfl rfl rfl hb34) (rn_int E75 rfl rfl rfl rfl) rfl fun a76 E77 => ?_)
    clear E75
    refine wl_cons (wl_val E77 rfl (rn_pickF E77 rfl rfl hb34 rfl) rfl fun a78 E79 => ?_)
    clear E77
    refine wl_cons (wl_val E79 rfl (rn_move E79 rfl rfl) rfl fun a80 E81 => ?_)
    clear E79
    rcases Bool.eq_false_or_eq_true (a0.NextSession != a1.NextSession) with hb82 | hb82
    · replace h := itT hb82 h
      refine wl_cons (wl_pass E81 (E81.unwanted rfl rfl rfl hb82) rfl fun a83 E84 => ?_)
      clear E81
      refine wl_cons (wl_pass E84 (E84.unwanted rfl rfl rfl hb82) rfl fun a85 E86 => ?_)
      clear E84
      refine wl_cons (wl_pass E86 (E86.unwanted rfl rfl rfl hb82) rfl fun a87 E88 => ?_)
      clear E86
      refine wl_cons (wl_pass E88 (E88.unwanted rfl rfl rfl hb82) rfl fun a89 E90 => ?_)
      clear E88
      refine wl_cons (wl_pass E90 (E90.unwanted rfl rfl rfl hb82) rfl fun a91 E92 => ?_)
      clear E90
      refine wl_cons (wl_pass E92 (E92.unwanted rfl rfl rfl hb82) rfl fun a93 E94 => ?_)
      clear E92
      refine wl_cons (wl_pass E94 (E94.unwanted rfl rfl rfl hb82) rfl fun a95 E96 => ?_)
      clear E94
      refine wl_cons (wl_val E96 rfl (rn_pickT E96 rfl rfl hb82 rfl) rfl fun a97 E98 => ?_)
      clear E96
      refine wl_nil ?_
      refine then_normal (hK21 _ _ ?_)
      refine wc_T E98 rfl rfl ?_
      refine wp_seq_k fun _ hK99 => ?_
      refine wp_region_lit ?_
      refine wl_cons (wl_val E98 rfl (rn_assign E98 rfl rfl) rfl fun a100 E101 => ?_)
      clear E98
      refine wl_nil ?_
      refine then_normal (hK99 _ _ ?_)
      refine wp_ret ?_
      refine then_ret (?_)
      obtain rfl := Option.some.inj h
      refine wb_ret1 E101 rfl (rv_tmp E101 rfl) ?_
      exact ⟨_, rfl, [], [], ⟨rfl, rfl, rfl⟩, H.leave (fun Z hA => trivial) (fun Z S hA hL => trivial)⟩
    · replace h := itF hb82 h
      refine wl_cons (wl_val E81 (E81.wantedB rfl rfl rfl hb82) (rn_fieldAddr E81 rfl Try.underlying28 rfl ti26 rfl rfl) rfl fun a102 E103 => ?_)
      clear E81
      refine wl_cons (wl_val E103 (E103.wantedB rfl rfl rfl hb82) (rn_ld1 (i := 0) E103 H rfl Try.underlying26 rfl rfl rfl rfl) rfl fun a104 E105 => ?_)
      clear E103
      refine wl_cons (wl_val E105 (E105.wantedB rfl rfl rfl hb82) (rn_len E105 rfl Try.underlying26 rfl) rfl fun a106 E107 => ?_)
      clear E105
      refine wl_cons (wl_val E107 (E107.wantedB rfl rfl rfl hb82) (rn_fieldAddr E107 rfl Try.underlying28 rfl ti26 rfl rfl) rfl fun a108 E109 => ?_)
      clear E107
      refine wl_cons (wl_val E109 (E109.wantedB rfl rfl rfl hb82) (rn_ld1 (i := 1) E109 H rfl Try.underlying26 rfl rfl rfl rfl) rfl fun a110 E111 => ?_)
      clear E109
      refine wl_cons (wl_val E111 (E111.wantedB rfl rfl rfl hb82) (rn_len E111 rfl Try.underlying26 rfl) rfl fun a112 E113 => ?_)
      clear E111
      refine wl_cons (wl_val E113 (E113.wantedB rfl rfl rfl hb82) (rn_int E113 rfl rfl rfl rfl) rfl fun a114 E115 => ?_)
      clear E113
      refine wl_cons (wl_val E115 rfl (rn_pickF E115 rfl rfl hb82 rfl) rfl fun a116 E117 => ?_)
      clear E115
      refine wl_nil ?_
      refine then_normal (hK21 _ _ ?_)
      rcases Bool.eq_false_or_eq_true ((a0.Processes.length : Int) != (a1.Processes.length : Int)) with hb118 | hb118
      · replace h := itT hb118 h
        refine wc_T E117 rfl hb118 ?_
        refine wp_seq_k fun _ hK119 => ?_
        refine wp_region_lit ?_
        refine wl_cons (wl_val E117 rfl (rn_assign E117 rfl rfl) rfl fun a120 E121 => ?_)
        clear E117
        refine wl_nil ?_
        refine then_normal (hK119 _ _ ?_)
        refine wp_ret ?_
        refine then_ret (?_)
        obtain rfl := Option.some.inj h
        refine wb_ret1 E121 rfl (rv_tmp E121 rfl) ?_
        exact ⟨_, rfl, [], [], ⟨rfl, rfl, rfl⟩, H.leave (fun Z hA => trivial) (fun Z S hA hL => trivial)⟩
      · replace h := itF hb118 h
        refine wc_F E117 rfl hb118 ?_
        refine wp_skip ?_
        refine then_normal (hK20 _ _ ?_)
        refine wp_seq_k fun _ hK122 => ?_
        refine wp_seq_k fun _ hK123 => ?_
        refine wp_region_lit ?_
        refine wl_cons (wl_val E117 rfl (rn_assign E117 rfl rfl) rfl fun a124 E125 => ?_)
        clear E117
        refine wl_nil ?_
        refine then_normal (hK123 _ _ ?_)
        refine wp_block ?_
        obtain ⟨o266, ho267, h⟩ := bs h
        refine wc_loop (fun k_ a_ w_ => ∃ (x265 : Int), Env 46 a_ [(0, .agg #[.int .i64 a0.Next, .int .i64 a0.NextSession, .slice p5 a0.Processes.length c6]), (1, .agg #[.int .i64 a1.Next, .int .i64 a1.NextSession, .slice p7 a1.Processes.length c8]), (2, .pointer (some ⟨g10, 0, none⟩)), (3, .pointer (some ⟨g14, 0, none⟩)), (4, .bool false), (5, .int .i64 x265), (6, .pointer (some ⟨g10, 0, none⟩)), (7, .int .i64 a0.Next), (8, .pointer (some ⟨g14, 0, none⟩)), (9, .int .i64 a1.Next), (10, .bool (a0.Next != a1.Next)), (11, .bool (a0.Next != a1.Next)), (12, .pointer (some ⟨g10, 1, none⟩)), (13, .int .i64 a0.NextSession), (14, .pointer (some ⟨g14, 1, none⟩)), (15, .int .i64 a1.NextSession), (16, .bool (a0.NextSession != a1.NextSession)), (17, .bool (a0.NextSession != a1.NextSession)), (18, .bool (a0.NextSession != a1.NextSession)), (19, .pointer (some ⟨g10, 2, none⟩)), (20, .slice p5 a0.Processes.length c6), (21, .int .i64 (a0.Processes.length : Int)), (22, .pointer (some ⟨g14, 2, none⟩)), (23, .slice p7 a1.Processes.length c8), (24, .int .i64 (a1.Processes.length : Int)), (25, .bool ((a0.Processes.length : Int) != (a1.Processes.length : Int))), (26, .bool ((a0.Processes.length : Int) != (a1.Processes.length : Int)))] ∧ St w Nil Z w_ [vw (kSlice 38 k_api_Process) a0.Processes [.slice p5 a0.Processes.length c6], vw (kSlice 38 k_api_Process) a1.Processes [.slice p7 a1.Processes.length c8]] [[blk g10 [.int .i64 a0.Next, .int .i64 a0.NextSession, .slice p5 a0.Processes.length c6] 28], [blk g14 [.int .i64 a1.Next, .int .i64 a1.NextSession, .slice p7 a1.Processes.length c8] 28]] ∧ f_kauditref09_Same_l1 a0 a1 k_ x265 = some o266) (((((a0.Processes.length : Int) : Int) - (0)).toNat + 1)) ?_ ?_ ?_
        · exact ⟨0, E125.pick ⟨rfl, rfl, rfl, rfl, rfl, rfl, rfl, rfl, rfl, rfl, rfl, rfl, rfl, rfl, rfl, rfl, rfl, rfl, rfl, rfl, rfl, rfl, rfl, rfl, rfl, rfl, rfl, trivial⟩, H, ho267⟩
        · rintro _ _ ⟨_, _, _, h_⟩
          rw [f_kauditref09_Same_l1] at h_; cases h_
        · rintro k268 a269 w270 ⟨x265, E271, H', h272⟩
          rw [f_kauditref09_Same_l1] at h272
          clear H; have H := H'; clear H'
          refine wp_seq_k fun _ hK273 => ?_
          refine wp_seq_k fun _ hK274 => ?_
          refine wp_region_lit ?_
          refine wl_cons (wl_val E271 rfl (rn_move E271 rfl rfl) rfl fun a275 E276 => ?_)
          clear E271
          replace H : St w Nil Z w270 [vw (kSlice 38 k_api_Process) a0.Processes [.slice p5 a0.Processes.length c6], vw (kSlice 38 k_api_Process) a1.Processes [.slice p7 a1.Processes.length c8]] [[blk g10 [.int .i64 a0.Next, .int .i64 a0.NextSession, .slice p5 a0.Processes.length c6] 28], [blk g14 [.int .i64 a1.Next, .int .i64 a1.NextSession, .slice p7 a1.Processes.length c8] 28]] := H
          refine wl_cons (wl_val E276 rfl (rn_fieldAddr E276 rfl Try.underlying28 rfl ti26 rfl rfl) rfl fun a277 E278 => ?_)
          clear E276
          refine wl_cons (wl_val E278 rfl (rn_ld1 (i := 0) E278 H rfl Try.underlying26 rfl rfl rfl rfl) rfl fun a279 E280 => ?_)
          clear E278
          refine wl_cons (wl_val E280 rfl (rn_len E280 rfl Try.underlying26 rfl) rfl fun a281 E282 => ?_)
          clear E280
          refine wl_cons (wl_val E282 rfl (rn_int E282 rfl rfl rfl rfl) rfl fun a283 E284 => ?_)
          clear E282
          refine wl_nil ?_
          refine then_normal (hK274 _ _ ?_)
          rcases Bool.eq_false_or_eq_true (decide (x265 < (a0.Processes.length : Int))) with hb285 | hb285
          · replace h272 := itT hb285 h272
            refine wc_T E284 rfl hb285 ?_
            refine wp_skip ?_
            refine then_normal (hK273 _ _ ?_)
            refine wp_seq_k fun _ hK286 => ?_
            refine wp_block ?_
            refine wp_seq_k fun _ hK287 => ?_
            refine wa_begin mixed (fun w_ => True) [] [10] H rfl fun w288 H' => ?_
            clear H; have H := H'; clear H'
            refine wa_take (i := 0) E284 rfl (by kernel_rfl) (panic_then (panic_block (panic_then (panic_then (panic_block (panic_then panic_body)))))) rfl (fun w_ => rn_fieldAddr E284 rfl Try.underlying28 rfl ti26 rfl rfl) rfl fun a289 E290 => ?_
            clear E284
            refine wa_takeU (i := 1) E290 rfl (by kernel_rfl) (by kernel_rfl) (panic_then (panic_block (panic_then (panic_then (panic_block (panic_then panic_body)))))) rfl (rn_ld1 (i := 0) E290 H rfl Try.underlying26 rfl rfl rfl rfl) rfl fun a291 E292 => ?_
            clear E290
            refine wa_take (i := 2) E292 rfl (by kernel_rfl) (panic_then (panic_block (panic_then (panic_then (panic_block (panic_then panic_body)))))) rfl (fun w_ => rn_move E292 rfl rfl) rfl fun a293 E294 => ?_
            clear E292
            obtain ⟨u295, hy296, h272⟩ := bs h272
            obtain ⟨q297, hq298, hr299⟩ := rn_idx (K := k_api_Process) (P := Try.prog) (o := ⟨some 37, .indexAddr 26 (.tmp 35) (.tmp 36), 0, "", #[], none⟩) E294 rfl Try.underlying26 ti38 rfl rfl (H.readA (k := 0) rfl) hy296
            refine wa_take (i := 3) E294 rfl (by kernel_rfl) (panic_then (panic_block (panic_then (panic_then (panic_block (panic_then panic_body)))))) rfl (fun w_ => (hr299 _)) rfl fun a300 E301 => ?_
            clear E294
            obtain ⟨⟨p303, c304⟩, H', hc302⟩ := St.openA k_api_Process_opens H (k := 0) rfl hy296
            replace H := H'; clear H'
            refine wa_takeU (i := 4) E301 rfl (by kernel_rfl) (by kernel_rfl) (panic_then (panic_block (panic_then (panic_then (panic_block (panic_then panic_body)))))) rfl (rn_loadIN (vs := [.int .i64 u295.PID, .int .i64 u295.PPID, .int .i64 u295.UID, .int .i64 u295.EUID, .int .i64 u295.GID, .int .i64 u295.EGID, .int .i64 u295.AUID, .int .i64 u295.Session, .int .i64 u295.Cwd.Dev, .int .i64 u295.Cwd.Ino, .string u295.Comm, .string u295.Exe, .slice p303 u295.Open.length c304, .bool u295.Audited]) E301 rfl Try.underlying38 rfl ti38 rfl hq298 hc302 rfl rfl) rfl fun a305 E306 => ?_
            clear E301
            refine wa_take (i := 5) E306 rfl (by kernel_rfl) (panic_then (panic_block (panic_then (panic_then (panic_block (panic_then panic_body)))))) rfl (fun w_ => rn_fieldAddr E306 rfl Try.underlying28 rfl ti26 rfl rfl) rfl fun a307 E308 => ?_
            clear E306
            refine wa_takeU (i := 6) E308 rfl (by kernel_rfl) (by kernel_rfl) (panic_then (panic_block (panic_then (panic_then (panic_block (panic_then panic_body)))))) rfl (rn_ld1 (i := 1) E308 H rfl Try.underlying26 rfl rfl rfl rfl) rfl fun a309 E310 => ?_
            clear E308
            refine wa_take (i := 7) E310 rfl (by kernel_rfl) (panic_then (panic_block (panic_then (panic_then (panic_block (panic_then panic_body)))))) rfl (fun w_ => rn_move E310 rfl rfl) rfl fun a311 E312 => ?_
            clear E310
            obtain ⟨u313, hy314, h272⟩ := bs h272
            obtain ⟨q315, hq316, hr317⟩ := rn_idx (K := k_api_Process) (P := Try.prog) (o := ⟨some 42, .indexAddr 26 (.tmp 40) (.tmp 41), 0, "", #[], none⟩) E312 rfl Try.underlying26 ti38 rfl rfl (H.readA (k := 1) rfl) hy314
            refine wa_take (i := 8) E312 rfl (by kernel_rfl) (panic_then (panic_block (panic_then (panic_then (panic_block (panic_then panic_body)))))) rfl (fun w_ => (hr317 _)) rfl fun a318 E319 => ?_
            clear E312
            obtain ⟨⟨p321, c322⟩, H', hc320⟩ := St.openA k_api_Process_opens H (k := 1) rfl hy314
            replace H := H'; clear H'
            refine wa_takeU (i := 9) E319 rfl (by kernel_rfl) (by kernel_rfl) (panic_then (panic_block (panic_then (panic_then (panic_block (panic_then panic_body)))))) rfl (rn_loadIN (vs := [.int .i64 u313.PID, .int .i64 u313.PPID, .int .i64 u313.UID, .int .i64 u313.EUID, .int .i64 u313.GID, .int .i64 u313.EGID, .int .i64 u313.AUID, .int .i64 u313.Session, .int .i64 u313.Cwd.Dev, .int .i64 u313.Cwd.Ino, .string u313.Comm, .string u313.Exe, .slice p321 u313.Open.length c322, .bool u313.Audited]) E319 rfl Try.underlying38 rfl ti38 rfl hq316 hc320 rfl rfl) rfl fun a323 E324 => ?_
            clear E319
            obtain ⟨y325, hy326, h272⟩ := bs h272
            refine wa_only (i := 10) rfl (by kernel_rfl) (by kernel_rfl) (wl_fun E324 H rfl (rn_call (args := [.agg #[.int .i64 u295.PID, .int .i64 u295.PPID, .int .i64 u295.UID, .int .i64 u295.EUID, .int .i64 u295.GID, .int .i64 u295.EGID, .int .i64 u295.AUID, .int .i64 u295.Session, .int .i64 u295.Cwd.Dev, .int .i64 u295.Cwd.Ino, .string u295.Comm, .string u295.Exe, .slice p303 u295.Open.length c304, .bool u295.Audited], .agg #[.int .i64 u313.PID, .int .i64 u313.PPID, .int .i64 u313.UID, .int .i64 u313.EUID, .int .i64 u313.GID, .int .i64 u313.EGID, .int .i64 u313.AUID, .int .i64 u313.Session, .int .i64 u313.Cwd.Dev, .int .i64 u313.Cwd.Ino, .string u313.Comm, .string u313.Exe, .slice p321 u313.Open.length c322, .bool u313.Audited]]) E324 rfl rfl rfl Try.func43 nm43 rfl) rfl (by exact fun Z hA => ⟨(argHolds_get hA (k := 2) rfl), (argHolds_get hA (k := 3) rfl), trivial⟩) (C43 u295 u313 p303 c304 p321 c322 _ _ hy326) ?_)
            rintro v_ A_ N_ w329 a327 ⟨rfl, rfl, rfl⟩ E328 H'
            replace H := H'; clear H' E324
            refine ⟨fun h_ => (needs_no (by kernel_rfl) h_).elim, ?_⟩
            refine wa_take (i := 11) E328 rfl (by kernel_rfl) (panic_then (panic_block (panic_then (panic_then (panic_block (panic_then panic_body)))))) rfl (fun w_ => rn_not E328 rfl rfl) rfl fun a330 E331 => ?_
            clear E328
            refine wa_done (by kernel_rfl) ?_
            refine then_normal (hK287 _ _ ?_)
            rcases Bool.eq_false_or_eq_true y325 with hb332 | hb332
            · replace h272 := itT hb332 h272
              refine wc_F E331 rfl (congrArg Bool.not hb332) ?_
              refine wp_skip ?_
              refine block_normal ?_
              refine then_normal (hK286 _ _ ?_)
              refine wp_region_lit ?_
              refine wl_cons (wl_val E331 rfl (rn_move E331 rfl rfl) rfl fun a333 E334 => ?_)
              clear E331
              refine wl_cons (wl_val E334 rfl (rn_int E334 rfl rfl rfl rfl) rfl fun a335 E336 => ?_)
              clear E334
              refine wl_cons (wl_val E336 rfl (rn_assign E336 rfl rfl) rfl fun a337 E338 => ?_)
              clear E336
              refine wl_nil ?_
              replace H : St w Nil Z w329 [vw (kSlice 38 k_api_Process) a0.Processes [.slice p5 a0.Processes.length c6], vw (kSlice 38 k_api_Process) a1.Processes [.slice p7 a1.Processes.length c8], vw (kSlice 81 k_api_Descriptor) u295.Open [.slice p303 u295.Open.length c304], vw (kSlice 81 k_api_Descriptor) u313.Open [.slice p321 u313.Open.length c322]] ([[blk g10 [.int .i64 a0.Next, .int .i64 a0.NextSession, .slice p5 a0.Processes.length c6] 28], [blk g14 [.int .i64 a1.Next, .int .i64 a1.NextSession, .slice p7 a1.Processes.length c8] 28]] ++ []) := H
              exact ⟨(IntKind.wrap .i64 (x265 + 1)), E338.pick ⟨rfl, rfl, rfl, rfl, rfl, rfl, rfl, rfl, rfl, rfl, rfl, rfl, rfl, rfl, rfl, rfl, rfl, rfl, rfl, rfl, rfl, rfl, rfl, rfl, rfl, rfl, rfl, trivial⟩, H.front.sel (fun Z hA => ⟨(argHolds_get hA (k := 0) rfl), (argHolds_get hA (k := 1) rfl), trivial⟩), h272⟩
            · replace h272 := itF hb332 h272
              refine wc_T E331 rfl (congrArg Bool.not hb332) ?_
              refine wp_seq_k fun _ hK339 => ?_
              refine wp_region_lit ?_
              refine wl_cons (wl_val E331 rfl (rn_assign E331 rfl rfl) rfl fun a340 E341 => ?_)
              clear E331
              refine wl_nil ?_
              refine then_normal (hK339 _ _ ?_)
              refine wp_ret ?_
              obtain rfl := Option.some.inj h272
              try dsimp only at h
              refine block_ret (then_ret (then_ret (block_ret (then_ret (?_)))))
              obtain rfl := Option.some.inj h
              refine wb_ret1 E341 rfl (rv_tmp E341 rfl) ?_
              exact ⟨_, rfl, [], [], ⟨rfl, rfl, rfl⟩, H.leave (fun Z hA => trivial) (fun Z S hA hL => trivial)⟩
          · replace h272 := itF hb285 h272
            refine wc_F E284 rfl hb285 ?_
            refine wp_exit ?_
            obtain rfl := Option.some.inj h272
            try dsimp only at h
            refine then_exit (then_exit (block_exit (?_)))
            refine then_normal (hK122 _ _ ?_)
            refine wp_seq_k fun _ hK342 => ?_
            refine wp_region_lit ?_
            refine wl_cons (wl_val E284 rfl (rn_assign E284 rfl rfl) rfl fun a343 E344 => ?_)
            clear E284
            refine wl_nil ?_
            refine then_normal (hK342 _ _ ?_)
            refine wp_ret ?_
            refine ?_
            obtain rfl := Option.some.inj h
            refine wb_ret1 E344 rfl (rv_tmp E344 rfl) ?_
            exact ⟨_, rfl, [], [], ⟨rfl, rfl, rfl⟩, H.leave (fun Z hA => trivial) (fun Z S hA hL => trivial)⟩
theorem C21_flat {r : Bool} : ∀ v_ A_ N_, (fun (v_ : Value) (A_ : List VP) (N_ : List (List SP)) => v_ = .bool r ∧ A_ = [] ∧ N_ = []) v_ A_ N_ → A_ = [] ∧ Flat N_ := by
  rintro v_ A_ N_ ⟨rfl, rfl, rfl⟩
  exact ⟨rfl, flat_nil⟩
end Go.Proofs.Ytanimjbmkhpnaaa.Gx
