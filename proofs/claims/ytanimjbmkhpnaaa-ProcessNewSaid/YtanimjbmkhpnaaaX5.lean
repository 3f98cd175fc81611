/- Function 5, kaudit/kauditlaw09.ProcessNew: what it answers as a plain function, and that the Go code comes to exactly that (where the plain function gives an answer). -/
import Derived.Test.YtanimjbmkhpnaaaXT
import Derived.Test.YtanimjbmkhpnaaaX9
import Derived.Test.YtanimjbmkhpnaaaX15
import Derived.Test.YtanimjbmkhpnaaaX21
import Derived.Test.YtanimjbmkhpnaaaX22
import Derived.Test.YtanimjbmkhpnaaaX23
set_option linter.unusedVariables false
set_option linter.unusedSimpArgs false
namespace Go.Proofs.Ytanimjbmkhpnaaa.Gx
open Go.Gx Go.RowKit
/-! ### kaudit/kauditlaw09.ProcessNew: function 5 -/
def f_kauditlaw09_ProcessNew (a0 : api_File) : Option (Bool) := (f_process_New a0).bind fun y14 => (f_kauditref09_New a0).bind fun y22 => (f_kauditref09_Same y14 y22).bind fun y30 => if y30 = true then ((f_process_New a0).bind fun y40 => (f_process_Valid y40).bind fun y48 => if y48 = true then ((f_kauditlaw09_awake).bind fun y58 => some (y58)) else (some (false))) else (some (false))
set_option maxHeartbeats 4000000 in
set_option maxRecDepth 100000 in
theorem C5 (a0 : api_File) (r : Bool) (w : World) (h : f_kauditlaw09_ProcessNew a0 = some r) : Fun Try.prog 5 #[.agg #[.int .i64 a0.Dev, .int .i64 a0.Ino]] w [] (fun (v_ : Value) (A_ : List VP) (N_ : List (List SP)) => v_ = .bool r ∧ A_ = [] ∧ N_ = []) := by
  unfold f_kauditlaw09_ProcessNew at h
  refine fun_begin (args := [.agg #[.int .i64 a0.Dev, .int .i64 a0.Ino]]) Try.func5 rfl Try.ntmps5 rfl fun Z a E H => ?_
  refine wp_seq_k fun _ hK1 => ?_
  refine wp_region_lit ?_
  refine wl_cons (wl_box (T := 31) (cs := [.int .i64 a0.Dev, .int .i64 a0.Ino]) E H rfl rfl rfl rfl fun g2 w3 a4 E5 H' => ?_)
  clear H E; have H := H'; clear H'
  refine wl_cons (wl_val E5 rfl (rn_assign E5 rfl rfl) rfl fun a6 E7 => ?_)
  clear E5
  refine wl_nil ?_
  refine then_normal (hK1 _ _ ?_)
  refine wp_seq_k fun _ hK8 => ?_
  refine wa_begin mixed (fun w_ => (∃ Z S, (blk g2 [.int .i64 a0.Dev, .int .i64 a0.Ino] 31).holds w_ Z S) ∧ True) [2, 6] [1, 3, 4, 7, 8, 11] H rfl fun w9 H' => ?_
  clear H; have H := H'; clear H'
  refine wa_takeU (i := 0) E7 rfl (by kernel_rfl) (by kernel_rfl) (panic_then panic_body) rfl (rn_ldN (i := 0) [.int .i64 a0.Dev, .int .i64 a0.Ino] E7 H rfl Try.underlying31 rfl ti31 rfl rfl rfl rfl) rfl fun a10 E11 => ?_
  clear E7
  refine wa_takeS (i := 2) E11 rfl (by kernel_rfl) (by kernel_rfl) (panic_then panic_body) rfl (fun w_ hS => rn_loadN (vs := [.int .i64 a0.Dev, .int .i64 a0.Ino]) E11 rfl Try.underlying31 rfl ti31 rfl hS.1 rfl rfl) ⟨H.get (i := 0) (k := 0) rfl rfl, trivial⟩ rfl fun a12 E13 => ?_
  clear E11
  obtain ⟨y14, hy15, h⟩ := bs h
  refine wa_only (i := 1) rfl (by kernel_rfl) (by kernel_rfl) (wl_fun E13 H rfl (rn_call (args := [.agg #[.int .i64 a0.Dev, .int .i64 a0.Ino]]) E13 rfl rfl rfl Try.func9 nm9 rfl) rfl (by exact fun Z hA => trivial) (C9 a0 _ _ hy15) ?_)
  rintro v_ A_ N_ w21 a19 ⟨p16, c17, rfl, rfl, rfl⟩ E20 H'
  replace H := H'; clear H' E13
  replace H : St w Nil Z w21 [] [[blk g2 [.int .i64 a0.Dev, .int .i64 a0.Ino] 31], [row 38 k_api_Process y14.Processes (.slice p16 y14.Processes.length c17)]] := H
  refine ⟨fun _ => ⟨H.get (i := 0) (k := 0) rfl rfl, trivial⟩, ?_⟩
  obtain ⟨y22, hy23, h⟩ := bs h
  refine wa_only (i := 3) rfl (by kernel_rfl) (by kernel_rfl) (wl_fun E20 H rfl (rn_call (args := [.agg #[.int .i64 a0.Dev, .int .i64 a0.Ino]]) E20 rfl rfl rfl Try.func22 nm22 rfl) rfl (by exact fun Z hA => trivial) (C22 a0 _ _ hy23) ?_)
  rintro v_ A_ N_ w29 a27 ⟨p24, c25, rfl, rfl, rfl⟩ E28 H'
  replace H := H'; clear H' E20
  refine ⟨fun _ => ⟨H.get (i := 0) (k := 0) rfl rfl, trivial⟩, ?_⟩
  obtain ⟨y30, hy31, h⟩ := bs h
  refine wa_only (i := 4) rfl (by kernel_rfl) (by kernel_rfl) (wl_funFlat E28 H rfl (rn_call (args := [.agg #[.int .i64 y14.Next, .int .i64 y14.NextSession, .slice p16 y14.Processes.length c17], .agg #[.int .i64 y22.Next, .int .i64 y22.NextSession, .slice p24 y22.Processes.length c25]]) E28 rfl rfl rfl Try.func21 nm21 rfl) rfl (by exact fun Z S hA hL => ⟨(Holds_row hL (i := 1) rfl), (Holds_row hL (i := 2) rfl), trivial⟩) (C21 y14 y22 p16 c17 p24 c25 _ _ hy31) C21_flat ?_)
  rintro v_ A_ N_ w34 a32 ⟨rfl, rfl, rfl⟩ E33 H'
  replace H := H'; clear H' E28
  refine ⟨fun _ => ⟨H.get (i := 0) (k := 0) rfl rfl, trivial⟩, ?_⟩
  refine wa_take (i := 5) E33 rfl (by kernel_rfl) (panic_then panic_body) rfl (fun w_ => rn_move E33 rfl rfl) rfl fun a35 E36 => ?_
  clear E33
  rcases Bool.eq_false_or_eq_true y30 with hb37 | hb37
  · replace h := itT hb37 h
    refine wa_takeS (i := 6) E36 rfl (by kernel_rfl) (by kernel_rfl) (panic_then panic_body) (E36.wantedB rfl rfl rfl hb37) (fun w_ hS => rn_loadN (vs := [.int .i64 a0.Dev, .int .i64 a0.Ino]) E36 rfl Try.underlying31 rfl ti31 rfl hS.1 rfl rfl) ⟨H.get (i := 0) (k := 0) rfl rfl, trivial⟩ rfl fun a38 E39 => ?_
    clear E36
    obtain ⟨y40, hy41, h⟩ := bs h
    refine wa_only (i := 7) rfl (by kernel_rfl) (by kernel_rfl) (wl_fun E39 H (E39.wantedB rfl rfl rfl hb37) (rn_call (args := [.agg #[.int .i64 a0.Dev, .int .i64 a0.Ino]]) E39 rfl rfl rfl Try.func9 nm9 rfl) rfl (by exact fun Z hA => trivial) (C9 a0 _ _ hy41) ?_)
    rintro v_ A_ N_ w47 a45 ⟨p42, c43, rfl, rfl, rfl⟩ E46 H'
    replace H := H'; clear H' E39
    replace H : St w Nil Z w47 [] [[blk g2 [.int .i64 a0.Dev, .int .i64 a0.Ino] 31], [row 38 k_api_Process y14.Processes (.slice p16 y14.Processes.length c17)], [row 38 k_api_Process y22.Processes (.slice p24 y22.Processes.length c25)], [row 38 k_api_Process y40.Processes (.slice p42 y40.Processes.length c43)]] := H
    refine ⟨fun h_ => (needs_no (by kernel_rfl) h_).elim, ?_⟩
    obtain ⟨y48, hy49, h⟩ := bs h
    refine wa_only (i := 8) rfl (by kernel_rfl) (by kernel_rfl) (wl_funFlat E46 H (E46.wantedB rfl rfl rfl hb37) (rn_call (args := [.agg #[.int .i64 y40.Next, .int .i64 y40.NextSession, .slice p42 y40.Processes.length c43]]) E46 rfl rfl rfl Try.func23 nm23 rfl) rfl (by exact fun Z S hA hL => ⟨(Holds_row hL (i := 3) rfl), trivial⟩) (C23 y40 p42 c43 _ _ hy49) C23_flat ?_)
    rintro v_ A_ N_ w52 a50 ⟨rfl, rfl, rfl⟩ E51 H'
    replace H := H'; clear H' E46
    refine ⟨fun h_ => (needs_no (by kernel_rfl) h_).elim, ?_⟩
    refine wa_take (i := 9) E51 rfl (by kernel_rfl) (panic_then panic_body) rfl (fun w_ => rn_pickT E51 rfl rfl hb37 rfl) rfl fun a53 E54 => ?_
    clear E51
    refine wa_take (i := 10) E54 rfl (by kernel_rfl) (panic_then panic_body) rfl (fun w_ => rn_move E54 rfl rfl) rfl fun a55 E56 => ?_
    clear E54
    rcases Bool.eq_false_or_eq_true y48 with hb57 | hb57
    · replace h := itT hb57 h
      obtain ⟨y58, hy59, h⟩ := bs h
      refine wa_only (i := 11) rfl (by kernel_rfl) (by kernel_rfl) (wl_fun E56 H (E56.wantedB rfl rfl rfl hb57) (rn_call (args := []) E56 rfl rfl rfl Try.func15 nm15 rfl) rfl (by exact fun Z hA => trivial) (C15  _ _ hy59) ?_)
      rintro v_ A_ N_ w62 a60 ⟨rfl, rfl, rfl⟩ E61 H'
      replace H := H'; clear H' E56
      refine ⟨fun h_ => (needs_no (by kernel_rfl) h_).elim, ?_⟩
      refine wa_take (i := 12) E61 rfl (by kernel_rfl) (panic_then panic_body) rfl (fun w_ => rn_pickT E61 rfl rfl hb57 rfl) rfl fun a63 E64 => ?_
      clear E61
      refine wa_take (i := 13) E64 rfl (by kernel_rfl) (panic_then panic_body) rfl (fun w_ => rn_assign E64 rfl rfl) rfl fun a65 E66 => ?_
      clear E64
      refine wa_done (by kernel_rfl) ?_
      refine then_normal (hK8 _ _ ?_)
      refine wp_ret ?_
      refine ?_
      obtain rfl := Option.some.inj h
      refine wb_ret1 E66 rfl (rv_tmp E66 rfl) ?_
      exact ⟨_, rfl, [], [], ⟨rfl, rfl, rfl⟩, H.leave (fun Z hA => trivial) (fun Z S hA hL => trivial)⟩
    · replace h := itF hb57 h
      refine wa_only (i := 11) rfl (by kernel_rfl) (by kernel_rfl) (wl_pass E56 (E56.unwanted rfl rfl rfl hb57) rfl fun a69 E70 => ?_)
      clear E56
      refine ⟨fun h_ => (needs_no (by kernel_rfl) h_).elim, ?_⟩
      refine wa_take (i := 12) E70 rfl (by kernel_rfl) (panic_then panic_body) rfl (fun w_ => rn_pickF E70 rfl rfl hb57 rfl) rfl fun a71 E72 => ?_
      clear E70
      refine wa_take (i := 13) E72 rfl (by kernel_rfl) (panic_then panic_body) rfl (fun w_ => rn_assign E72 rfl rfl) rfl fun a73 E74 => ?_
      clear E72
      refine wa_done (by kernel_rfl) ?_
      refine then_normal (hK8 _ _ ?_)
      refine wp_ret ?_
      refine ?_
      obtain rfl := Option.some.inj h
      refine wb_ret1 E74 rfl (rv_tmp E74 rfl) ?_
      exact ⟨_, rfl, [], [], ⟨rfl, rfl, rfl⟩, H.leave (fun Z hA => trivial) (fun Z S hA hL => trivial)⟩
  · replace h := itF hb37 h
    refine wa_pass (i := 6) E36 rfl (by kernel_rfl) (panic_then panic_body) (E36.unwanted rfl rfl rfl hb37) rfl fun a75 E76 => ?_
    clear E36
    refine wa_only (i := 7) rfl (by kernel_rfl) (by kernel_rfl) (wl_pass E76 (E76.unwanted rfl rfl rfl hb37) rfl fun a79 E80 => ?_)
    clear E76
    refine ⟨fun h_ => (needs_no (by kernel_rfl) h_).elim, ?_⟩
    refine wa_only (i := 8) rfl (by kernel_rfl) (by kernel_rfl) (wl_pass E80 (E80.unwanted rfl rfl rfl hb37) rfl fun a83 E84 => ?_)
    clear E80
    refine ⟨fun h_ => (needs_no (by kernel_rfl) h_).elim, ?_⟩
    refine wa_take (i := 9) E84 rfl (by kernel_rfl) (panic_then panic_body) rfl (fun w_ => rn_pickF E84 rfl rfl hb37 rfl) rfl fun a85 E86 => ?_
    clear E84
    refine wa_take (i := 10) E86 rfl (by kernel_rfl) (panic_then panic_body) rfl (fun w_ => rn_move E86 rfl rfl) rfl fun a87 E88 => ?_
    clear E86
    refine wa_only (i := 11) rfl (by kernel_rfl) (by kernel_rfl) (wl_pass E88 (E88.unwanted rfl rfl rfl rfl) rfl fun a91 E92 => ?_)
    clear E88
    refine ⟨fun h_ => (needs_no (by kernel_rfl) h_).elim, ?_⟩
    refine wa_take (i := 12) E92 rfl (by kernel_rfl) (panic_then panic_body) rfl (fun w_ => rn_pickF E92 rfl rfl rfl rfl) rfl fun a93 E94 => ?_
    clear E92
    refine wa_take (i := 13) E94 rfl (by kernel_rfl) (panic_then panic_body) rfl (fun w_ => rn_assign E94 rfl rfl) rfl fun a95 E96 => ?_
    clear E94
    refine wa_done (by kernel_rfl) ?_
    refine then_normal (hK8 _ _ ?_)
    refine wp_ret ?_
    refine ?_
    obtain rfl := Option.some.inj h
    refine wb_ret1 E96 rfl (rv_tmp E96 rfl) ?_
    exact ⟨_, rfl, [], [], ⟨rfl, rfl, rfl⟩, H.leave (fun Z hA => trivial) (fun Z S hA hL => trivial)⟩
theorem C5_flat {r : Bool} : ∀ v_ A_ N_, (fun (v_ : Value) (A_ : List VP) (N_ : List (List SP)) => v_ = .bool r ∧ A_ = [] ∧ N_ = []) v_ A_ N_ → A_ = [] ∧ Flat N_ := by
  rintro v_ A_ N_ ⟨rfl, rfl, rfl⟩
  exact ⟨rfl, flat_nil⟩
end Go.Proofs.Ytanimjbmkhpnaaa.Gx
