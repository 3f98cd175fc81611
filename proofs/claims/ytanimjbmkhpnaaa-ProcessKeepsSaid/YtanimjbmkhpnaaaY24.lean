/- Function 24, (*kaudit/kauditmake.Src).PID: what it answers as a plain function, and that the Go code comes to exactly that (where the plain function gives an answer). -/
import Derived.Test.YtanimjbmkhpnaaaYT
import Derived.Test.YtanimjbmkhpnaaaY17
import Derived.Test.YtanimjbmkhpnaaaY45
set_option linter.unusedVariables false
set_option linter.unusedSimpArgs false
namespace Go.Proofs.Ytanimjbmkhpnaaa.Gx
open Go.Gx Go.RowKit
/-! ### (*kaudit/kauditmake.Src).PID: function 24 -/
def f_kauditmake_Src_PID (z0 : kauditmake_Src) (z1 : api_Table) : Option (Int × Int) := if ((z1.Processes.length : Int) == 0) = true then ((f_kauditmake_Src_Range z0 0 9).bind fun y19 => some (y19.1, y19.2)) else ((f_kauditmake_Src_N z0 24).bind fun y15 => if (y15.1 == 23) = true then ((f_kauditmake_Src_Range (⟨z0.l, y15.2⟩ : kauditmake_Src) 0 9).bind fun y24 => some (y24.1, y24.2)) else ((f_kauditmake_Src_N (⟨z0.l, y15.2⟩ : kauditmake_Src) (z1.Processes.length : Int)).bind fun y28 => (at_ z1.Processes y28.1).bind fun el33 => some (el33.PID, y28.2)))
set_option maxHeartbeats 4000000 in
set_option maxRecDepth 100000 in
theorem C24 (z0 : kauditmake_Src) (z1 : api_Table) (g_ : Nat) (p1 : Option Addr) (m2 : Nat) (c3 : Nat) (p4 : Option Addr) (m5 : Nat) (c6 : Nat) (r : Int × Int) (h : f_kauditmake_Src_PID z0 z1 = some r) : FunG Try.prog 24 #[.pointer (some ⟨g_, 0, none⟩), .agg #[.int .i64 z1.Next, .int .i64 z1.NextSession, .slice p4 m5 c6]] [vw (kSlice 3 (kInt .i64)) z0.l [.slice p1 m2 c3], vw (kSlice 38 k_api_Process) z1.Processes [.slice p4 m5 c6]] [[blk g_ [.slice p1 m2 c3, .int .i64 z0.at_] 59]] (fun (_ : Unit) => .int .i64 r.1) (fun _ => []) (fun _ => [[blk g_ [.slice p1 m2 c3, .int .i64 r.2] 59]]) := by
  unfold f_kauditmake_Src_PID at h
  refine t_begin (args := [.pointer (some ⟨g_, 0, none⟩), .agg #[.int .i64 z1.Next, .int .i64 z1.NextSession, .slice p4 m5 c6]]) Try.func24 rfl Try.ntmps24 rfl fun c R hR => ?_
  have hQ : ∀ X, X = r → ∀ w2 (_ : Unit), PostG c.w0 w2 c.M c.Y [] [[blk g_ [.slice p1 m2 c3, .int .i64 X.2] 59]] → R (.returned (.int .i64 X.1)) w2 := fun X e => by subst e; exact hR
  refine t_seq fun K7 hK8 => ?_
  refine t_region ?_
  refine nx (t_bx (cs := [.int .i64 z1.Next, .int .i64 z1.NextSession, .slice p4 m5 c6]) rfl rfl rfl fun g9 => ?_)
  refine c_p (r_as rfl) rfl ?_
  refine t_nil ?_
  refine t_then hK8 ?_
  refine t_seq fun K10 hK11 => ?_
  refine t_seq fun K12 hK13 => ?_
  refine t_region ?_
  refine c_p (r_fa (off' := 2) Try.underlying28 rfl ti26 rfl rfl) rfl ?_
  refine c_s (r_ld a0 Try.underlying26 rfl rfl rfl) rfl ?_
  refine c_s (r_lnA a1 Try.underlying26 rfl) rfl ?_
  refine c_p (r_i rfl rfl rfl) rfl ?_
  refine c_p (r_mv rfl) rfl ?_
  rcases Bool.eq_false_or_eq_true ((z1.Processes.length : Int) == 0) with hb14 | hb14
  · replace h := itT hb14 h
    refine nx (pass rfl rfl hb14 rfl ?_)
    refine nx (pass rfl rfl hb14 rfl ?_)
    refine nx (pass rfl rfl hb14 rfl ?_)
    refine c_p (r_pT rfl hb14 rfl) rfl ?_
    refine t_nil ?_
    refine t_then hK13 ?_
    refine t_T rfl rfl ?_
    refine t_seq fun K17 hK18 => ?_
    refine t_region ?_
    refine c_p (r_mv rfl) rfl ?_
    obtain ⟨y19, hy19, h⟩ := bs h
    refine nx (t_ca (C45 _ _ _ _ _ _ _ _ hy19) Try.func45 nm45 rfl rfl rfl (.cons e1 .nil) (fun w Z hA => (V1 a0 hA V0)) rfl fun t20 => ?_)
    refine c_p (r_as rfl) rfl ?_
    refine t_nil ?_
    refine t_then hK18 ?_
    refine t_ret ?_
    exact tr (ret1 rfl (v_t rfl) (t_leave (hQ _ (Option.some.inj h)) () rfl (fun w Z hA => V0) (.cons e0 .nil)))
  · replace h := itF hb14 h
    refine nx (gd rfl rfl hb14 (sp (r_mv rfl) rfl ?_))
    obtain ⟨y15, hy15, h⟩ := bs h
    refine nx (gd rfl rfl hb14 (t_ca (C17 _ _ _ _ _ _ _ hy15) Try.func17 nm17 rfl rfl rfl (.cons e1 .nil) (fun w Z hA => (V1 a0 hA V0)) rfl fun t16 => ?_))
    refine nx (gd rfl rfl hb14 (sp (r_i rfl rfl rfl) rfl ?_))
    refine c_p (r_pF rfl hb14 rfl) rfl ?_
    refine t_nil ?_
    refine t_then hK13 ?_
    rcases Bool.eq_false_or_eq_true (y15.1 == 23) with hb21 | hb21
    · replace h := itT hb21 h
      refine t_T rfl hb21 ?_
      refine t_seq fun K22 hK23 => ?_
      refine t_region ?_
      refine c_p (r_mv rfl) rfl ?_
      obtain ⟨y24, hy24, h⟩ := bs h
      refine nx (t_ca (C45 _ _ _ _ _ _ _ _ hy24) Try.func45 nm45 rfl rfl rfl (.cons e0 .nil) (fun w Z hA => (V1 a0 hA V0)) rfl fun t25 => ?_)
      refine c_p (r_as rfl) rfl ?_
      refine t_nil ?_
      refine t_then hK23 ?_
      refine t_ret ?_
      exact tr (ret1 rfl (v_t rfl) (t_leave (hQ _ (Option.some.inj h)) () rfl (fun w Z hA => V0) (.cons e0 .nil)))
    · replace h := itF hb21 h
      refine t_F rfl hb21 ?_
      refine t_skip ?_
      refine t_then hK11 ?_
      refine t_seq fun K26 hK27 => ?_
      refine t_draw mixed (fun w_ => Bk g9 [.int .i64 z1.Next, .int .i64 z1.NextSession, .slice p4 m5 c6] w_ ∧ True) [1] [6, 9] rfl ?_
      refine q_p 0 (panic_then panic_body) rfl (by kernel_rfl) W0 (r_fa (off' := 2) Try.underlying28 rfl ti26 rfl rfl) rfl ?_
      refine q_s 1 (panic_then panic_body) rfl (by kernel_rfl) W0 (by kernel_rfl) (fun w H => ⟨bk a1 H, trivial⟩) (b_ld (fun _ h => h.1) Try.underlying26 rfl rfl rfl) rfl ?_
      refine q_p 2 (panic_then panic_body) rfl (by kernel_rfl) W0 (r_mv rfl) rfl ?_
      refine q_p 3 (panic_then panic_body) rfl (by kernel_rfl) W0 (r_fa (off' := 2) Try.underlying28 rfl ti26 rfl rfl) rfl ?_
      refine q_u 4 (panic_then panic_body) rfl (by kernel_rfl) W0 (by kernel_rfl) (r_ld a1 Try.underlying26 rfl rfl rfl) rfl ?_
      refine q_u 5 (panic_then panic_body) rfl (by kernel_rfl) W0 (by kernel_rfl) (r_lnA a1 Try.underlying26 rfl) rfl ?_
      refine d1 6 rfl (by kernel_rfl) (by kernel_rfl) ?_
      obtain ⟨y28, hy28, h⟩ := bs h
      refine t_ca (C17 _ _ _ _ _ _ _ hy28) Try.func17 nm17 rfl rfl rfl (.cons e0 .nil) (fun w Z hA => (V1 a0 hA V0)) rfl fun t29 => ?_
      refine dk (fun w H => ⟨bk a1 H, trivial⟩) ?_
      obtain ⟨el33, hel33, h⟩ := bs h
      refine t_q a1 hel33 fun q30 hq31 hm32 => ?_
      refine q_p 7 (panic_then panic_body) rfl (by kernel_rfl) W0 (r_idx hq31 hm32 hel33 Try.underlying26 ti38 rfl rfl) rfl ?_
      refine t_qf hq31 0 fun q34 hq35 => ?_
      refine q_p 8 (panic_then panic_body) rfl (by kernel_rfl) W0 (r_fai hq31 hq35 Try.underlying38 rfl ti3 rfl rfl) rfl ?_
      refine d1 9 rfl (by kernel_rfl) (by kernel_rfl) ?_
      refine t_op k_api_Process_opens a1 hel33 fun t36 => ?_
      refine ss (r_e1 a1 hq35 Try.underlying3 rfl rfl rfl) rfl ?_
      refine dn (by kernel_rfl) ?_
      refine q_p 10 (panic_then panic_body) rfl (by kernel_rfl) W0 (r_as rfl) rfl ?_
      refine dz (by kernel_rfl) ?_
      refine t_then hK27 ?_
      refine t_ret ?_
      exact ret1 rfl (v_t rfl) (t_leave (hQ _ (Option.some.inj h)) () rfl (fun w Z hA => V0) (.cons e0 .nil))
end Go.Proofs.Ytanimjbmkhpnaaa.Gx
