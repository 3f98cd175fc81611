/- Function 13, (*kaudit/kauditmake.Src).Pick: what it answers as a plain function, and that the Go code comes to exactly that (where the plain function gives an answer). -/
import Derived.Test.YtanimjbmkhpnaaaXT
import Derived.Test.YtanimjbmkhpnaaaX17
set_option linter.unusedVariables false
set_option linter.unusedSimpArgs false
namespace Go.Proofs.Ytanimjbmkhpnaaa.Gx
open Go.Gx Go.RowKit
/-! ### (*kaudit/kauditmake.Src).Pick: function 13 -/
def f_kauditmake_Src_Pick (a0 : kauditmake_Src) (a1 : (List Int)) : Option (Int × Int) := (f_kauditmake_Src_N a0 (a1.length : Int)).bind fun y50 => (at_ a1 y50.1).bind fun u55 => some ((u55, (y50.2)))
set_option maxHeartbeats 4000000 in
set_option maxRecDepth 100000 in
theorem C13 (a0 : kauditmake_Src) (a1 : (List Int)) (g_ : Nat) (p34 : Option Addr) (c35 : Nat) (p36 : Option Addr) (c37 : Nat) (r : Int × Int) (w : World) (h : f_kauditmake_Src_Pick a0 a1 = some r) : FunM Try.prog 13 #[.pointer (some ⟨g_, 0, none⟩), .slice p36 a1.length c37] w g_ [.slice p34 a0.l.length c35, .int .i64 a0.at_] 59 [vw (kSlice 3 (kInt .i64)) a0.l [.slice p34 a0.l.length c35], vw (kSlice 3 (kInt .i64)) a1 [.slice p36 a1.length c37]] (fun (v_ : Value) (A_ : List VP) (I_ : List SP) (N_ : List (List SP)) => v_ = .int .i64 r.1 ∧ A_ = [] ∧ I_ = [blk g_ [.slice p34 a0.l.length c35, .int .i64 (r.2)] 59] ∧ N_ = []) := by
  unfold f_kauditmake_Src_Pick at h
  refine funM_begin (args := [.pointer (some ⟨g_, 0, none⟩), .slice p36 a1.length c37]) Try.func13 rfl Try.ntmps13 rfl fun Z a E H => ?_
  refine wp_seq_k fun _ hK38 => ?_
  refine wp_region_lit ?_
  refine wl_cons (wl_val E rfl (rn_assign E rfl rfl) rfl fun a39 E40 => ?_)
  clear E
  refine wl_nil ?_
  refine then_normal (hK38 _ _ ?_)
  refine wp_seq_k fun _ hK41 => ?_
  refine wp_region_lit ?_
  refine wl_cons (wl_val E40 rfl (rn_move E40 rfl rfl) rfl fun a42 E43 => ?_)
  clear E40
  refine wl_cons (wl_val E43 rfl (rn_move E43 rfl rfl) rfl fun a44 E45 => ?_)
  clear E43
  refine wl_cons (wl_val E45 rfl (rn_move E45 rfl rfl) rfl fun a46 E47 => ?_)
  clear E45
  refine wl_cons (wl_val E47 rfl (rn_len E47 rfl Try.underlying22 rfl) rfl fun a48 E49 => ?_)
  clear E47
  obtain ⟨y50, hy51, h⟩ := bs h
  refine wl_cons (wl_funM (i := 0) E49 H rfl (rn_call (args := [.pointer (some ⟨g_, 0, none⟩), .int .i64 (a1.length : Int)]) E49 rfl rfl rfl Try.func17 nm17 rfl) rfl rfl (by exact fun Z hA => ⟨(argHolds_get hA (k := 0) rfl), trivial⟩) (C17 a0 (a1.length : Int) g_ p34 c35 _ _ hy51) ?_)
  rintro v_ A_ I_ N_ w54 a52 ⟨rfl, rfl, rfl, rfl⟩ E53 H'
  replace H := H'; clear H' E49
  replace H : St w (fun b => b = g_) Z w54 [vw (kSlice 3 (kInt .i64)) a0.l [.slice p34 a0.l.length c35], vw (kSlice 3 (kInt .i64)) a1 [.slice p36 a1.length c37]] [[blk g_ [.slice p34 a0.l.length c35, .int .i64 (y50.2)] 59]] := H
  obtain ⟨u55, hy56, h⟩ := bs h
  obtain ⟨q57, hq58, hr59⟩ := rn_idx (K := (kInt .i64)) (P := Try.prog) (o := ⟨some 10, .indexAddr 22 (.tmp 5) (.tmp 9), 0, "", #[], none⟩) E53 rfl Try.underlying22 ti3 rfl rfl (H.readA (k := 1) rfl) hy56
  refine wl_cons (wl_val E53 rfl ((hr59 _)) rfl fun a60 E61 => ?_)
  clear E53
  obtain ⟨_, H', hc62⟩ := St.openA (opens_int .i64) H (k := 1) rfl hy56
  replace H := H'; clear H'
  refine wl_cons (wl_val E61 rfl (rn_loadI1 E61 rfl Try.underlying3 rfl rfl hq58 hc62 rfl) rfl fun a63 E64 => ?_)
  clear E61
  refine wl_cons (wl_val E64 rfl (rn_assign E64 rfl rfl) rfl fun a65 E66 => ?_)
  clear E64
  refine wl_nil ?_
  refine then_normal (hK41 _ _ ?_)
  refine wp_ret ?_
  refine ?_
  obtain rfl := Option.some.inj h
  replace H : St w (fun b => b = g_) Z w54 [vw (kSlice 3 (kInt .i64)) a0.l [.slice p34 a0.l.length c35], vw (kSlice 3 (kInt .i64)) a1 [.slice p36 a1.length c37]] [[blk g_ [.slice p34 a0.l.length c35, .int .i64 (y50.2)] 59]] := H
  refine wb_ret1 E66 rfl (rv_tmp E66 rfl) ?_
  exact ⟨_, rfl, [], [blk g_ [.slice p34 a0.l.length c35, .int .i64 (y50.2)] 59], [], ⟨rfl, rfl, rfl, rfl⟩, H.leave (fun Z hA => trivial) (fun Z S hA hL => Holds_sub (.cons_cons _ .slnil) hL)⟩
end Go.Proofs.Ytanimjbmkhpnaaa.Gx
