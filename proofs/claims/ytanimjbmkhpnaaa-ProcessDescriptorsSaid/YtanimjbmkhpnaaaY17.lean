/- Function 17, (*kaudit/kauditmake.Src).N: what it answers as a plain function, and that the Go code comes to exactly that (where the plain function gives an answer). -/
import Derived.Test.YtanimjbmkhpnaaaYT
set_option linter.unusedVariables false
set_option linter.unusedSimpArgs false
namespace Go.Proofs.Ytanimjbmkhpnaaa.Gx
open Go.Gx Go.RowKit
/-! ### (*kaudit/kauditmake.Src).N: function 17 -/
def f_kauditmake_Src_N_j1 (z0 : kauditmake_Src) (z1 : Int) (x27 : Int) : Option (Int × Int) := ck (z1 ≠ 0) <| if (decide (((x27 : Int).tmod z1) < 0)) = true then (some ((IntKind.wrap .i64 (((x27 : Int).tmod z1) + z1)), (IntKind.wrap .i64 (z0.at_ + 1)))) else (some (((x27 : Int).tmod z1), (IntKind.wrap .i64 (z0.at_ + 1))))
def f_kauditmake_Src_N (z0 : kauditmake_Src) (z1 : Int) : Option (Int × Int) := if (decide (z1 < 1)) = true then (some (0, z0.at_)) else (if (decide ((IntKind.wrap .i64 (z0.at_ + 1)) ≤ (z0.l.length : Int))) = true then ((at_ z0.l (IntKind.wrap .i64 ((IntKind.wrap .i64 (z0.at_ + 1)) - 1))).bind fun el25 => f_kauditmake_Src_N_j1 z0 z1 el25) else (f_kauditmake_Src_N_j1 z0 z1 (IntKind.wrap .i64 ((IntKind.wrap .i64 (z0.at_ + 1)) * 7))))
set_option maxHeartbeats 4000000 in
set_option maxRecDepth 100000 in
theorem C17 (z0 : kauditmake_Src) (z1 : Int) (g_ : Nat) (p1 : Option Addr) (m2 : Nat) (c3 : Nat) (r : Int × Int) (h : f_kauditmake_Src_N z0 z1 = some r) : FunG Try.prog 17 #[.pointer (some ⟨g_, 0, none⟩), .int .i64 z1] [vw (kSlice 3 (kInt .i64)) z0.l [.slice p1 m2 c3]] [[blk g_ [.slice p1 m2 c3, .int .i64 z0.at_] 59]] (fun (_ : Unit) => .int .i64 r.1) (fun _ => []) (fun _ => [[blk g_ [.slice p1 m2 c3, .int .i64 r.2] 59]]) := by
  unfold f_kauditmake_Src_N at h
  refine t_begin (args := [.pointer (some ⟨g_, 0, none⟩), .int .i64 z1]) Try.func17 rfl Try.ntmps17 rfl fun c R hR => ?_
  have hQ : ∀ X, X = r → ∀ w2 (_ : Unit), PostG c.w0 w2 c.M c.Y [] [[blk g_ [.slice p1 m2 c3, .int .i64 X.2] 59]] → R (.returned (.int .i64 X.1)) w2 := fun X e => by subst e; exact hR
  refine t_seq fun K4 hK5 => ?_
  refine t_region ?_
  refine c_p (r_as rfl) rfl ?_
  refine t_nil ?_
  refine t_then hK5 ?_
  refine t_seq fun K6 hK7 => ?_
  refine t_seq fun K8 hK9 => ?_
  refine t_region ?_
  refine c_p (r_mv rfl) rfl ?_
  refine c_p (r_i rfl rfl rfl) rfl ?_
  refine t_nil ?_
  refine t_then hK9 ?_
  rcases Bool.eq_false_or_eq_true (decide (z1 < 1)) with hb10 | hb10
  · replace h := itT hb10 h
    refine t_T rfl hb10 ?_
    refine t_seq fun K11 hK12 => ?_
    refine t_region ?_
    refine c_p (r_as rfl) rfl ?_
    refine t_nil ?_
    refine t_then hK12 ?_
    refine t_ret ?_
    exact tr (ret1 rfl (v_t rfl) (t_leave (hQ _ (Option.some.inj h)) () rfl (fun w Z hA => V0) (.cons e0 .nil)))
  · replace h := itF hb10 h
    refine t_F rfl hb10 ?_
    refine t_skip ?_
    refine t_then hK7 ?_
    refine t_seq fun K13 hK14 => ?_
    refine t_region ?_
    refine c_p (r_mv rfl) rfl ?_
    refine c_p (r_nc rfl) rfl ?_
    refine c_p (r_fa (off' := 1) Try.underlying59 rfl ti3 rfl rfl) rfl ?_
    refine c_s (r_ld a0 Try.underlying3 rfl rfl rfl) rfl ?_
    refine c_p (r_i rfl rfl rfl) rfl ?_
    refine c_p (r_nc rfl) rfl ?_
    refine c_p (r_fa (off' := 1) Try.underlying59 rfl ti3 rfl rfl) rfl ?_
    refine nx (t_st u0 ti3 rfl rfl rfl rfl rfl (.s (.t (.s .z))) ?_)
    refine t_nil ?_
    refine t_then hK14 ?_
    refine t_seq fun K15 hK16 => ?_
    refine t_region ?_
    refine c_p (r_mv rfl) rfl ?_
    refine c_p (r_nc rfl) rfl ?_
    refine c_p (r_fa (off' := 1) Try.underlying59 rfl ti3 rfl rfl) rfl ?_
    refine c_s (r_ld a0 Try.underlying3 rfl rfl rfl) rfl ?_
    refine c_p (r_i rfl rfl rfl) rfl ?_
    refine c_p (r_as rfl) rfl ?_
    refine t_nil ?_
    refine t_then hK16 ?_
    refine t_seq fun K17 hK18 => ?_
    have J28 : ∀ (x27 : Int), f_kauditmake_Src_N_j1 z0 z1 x27 = some r → T 50 c [vw (kSlice 3 (kInt .i64)) z0.l [.slice p1 m2 c3]] [[blk g_ [.slice p1 m2 c3, .int .i64 (IntKind.wrap .i64 (z0.at_ + 1))] 59]] [(1, .int .i64 z1), (5, .int .i64 x27)] K17 := by
      intro x27 h29
      unfold f_kauditmake_Src_N_j1 at h29
      refine ti hK18 ?_
      refine t_seq fun K30 hK31 => ?_
      refine t_region ?_
      refine c_p (r_mv rfl) rfl ?_
      refine c_p (r_mv rfl) rfl ?_
      obtain ⟨hc32, h29⟩ := ck_out h29
      refine c_p (r_rem rfl rfl hc32) rfl ?_
      refine c_p (r_as rfl) rfl ?_
      refine t_nil ?_
      refine t_then hK31 ?_
      refine t_seq fun K33 hK34 => ?_
      refine t_seq fun K35 hK36 => ?_
      refine t_region ?_
      refine c_p (r_mv rfl) rfl ?_
      refine c_p (r_i rfl rfl rfl) rfl ?_
      refine t_nil ?_
      refine t_then hK36 ?_
      rcases Bool.eq_false_or_eq_true (decide (((x27 : Int).tmod z1) < 0)) with hb37 | hb37
      · replace h29 := itT hb37 h29
        refine t_T rfl hb37 ?_
        refine t_region ?_
        refine c_p (r_mv rfl) rfl ?_
        refine c_p (r_mv rfl) rfl ?_
        refine c_p (r_i rfl rfl rfl) rfl ?_
        refine c_p (r_as rfl) rfl ?_
        refine t_nil ?_
        refine t_then hK34 ?_
        refine t_seq fun K38 hK39 => ?_
        refine t_region ?_
        refine c_p (r_mv rfl) rfl ?_
        refine c_p (r_as rfl) rfl ?_
        refine t_nil ?_
        refine t_then hK39 ?_
        refine t_ret ?_
        exact ret1 rfl (v_t rfl) (t_leave (hQ _ (Option.some.inj h29)) () rfl (fun w Z hA => V0) (.cons e0 .nil))
      · replace h29 := itF hb37 h29
        refine t_F rfl hb37 ?_
        refine t_skip ?_
        refine t_then hK34 ?_
        refine t_seq fun K40 hK41 => ?_
        refine t_region ?_
        refine c_p (r_mv rfl) rfl ?_
        refine c_p (r_as rfl) rfl ?_
        refine t_nil ?_
        refine t_then hK41 ?_
        refine t_ret ?_
        exact ret1 rfl (v_t rfl) (t_leave (hQ _ (Option.some.inj h29)) () rfl (fun w Z hA => V0) (.cons e0 .nil))
    refine t_seq fun K19 hK20 => ?_
    refine t_quiet mixed (by kernel_rfl) (panic_then (panic_then panic_body)) ?_
    refine k_p (r_mv rfl) rfl ?_
    refine k_p (r_nc rfl) rfl ?_
    refine k_p (r_fa (off' := 1) Try.underlying59 rfl ti3 rfl rfl) rfl ?_
    refine k_s (r_ld a0 Try.underlying3 rfl rfl rfl) rfl ?_
    refine k_p (r_mv rfl) rfl ?_
    refine k_p (r_nc rfl) rfl ?_
    refine k_p (r_fa (off' := 0) Try.underlying59 rfl ti22 rfl rfl) rfl ?_
    refine k_s (r_ld a0 Try.underlying22 rfl rfl rfl) rfl ?_
    refine k_s (r_lnA a0 Try.underlying22 rfl) rfl ?_
    refine k_p (r_i rfl rfl rfl) rfl ?_
    refine k_z ?_
    refine t_then hK20 ?_
    rcases Bool.eq_false_or_eq_true (decide ((IntKind.wrap .i64 (z0.at_ + 1)) ≤ (z0.l.length : Int))) with hb21 | hb21
    · replace h := itT hb21 h
      refine t_T rfl hb21 ?_
      refine t_quiet mixed (by kernel_rfl) (panic_then panic_body) ?_
      refine k_p (r_mv rfl) rfl ?_
      refine k_p (r_nc rfl) rfl ?_
      refine k_p (r_fa (off' := 0) Try.underlying59 rfl ti22 rfl rfl) rfl ?_
      refine k_s (r_ld a0 Try.underlying22 rfl rfl rfl) rfl ?_
      refine k_p (r_mv rfl) rfl ?_
      refine k_p (r_nc rfl) rfl ?_
      refine k_p (r_fa (off' := 1) Try.underlying59 rfl ti3 rfl rfl) rfl ?_
      refine k_s (r_ld a0 Try.underlying3 rfl rfl rfl) rfl ?_
      refine k_p (r_i rfl rfl rfl) rfl ?_
      obtain ⟨el25, hel25, h⟩ := bs h
      refine t_q a0 hel25 fun q22 hq23 hm24 => ?_
      refine k_p (r_idx hq23 hm24 hel25 Try.underlying22 ti3 rfl rfl) rfl ?_
      refine t_op (opens_int .i64) a0 hel25 fun t26 => ?_
      refine k_s (r_e1 a0 hq23 Try.underlying3 rfl rfl rfl) rfl ?_
      refine k_p (r_as rfl) rfl ?_
      refine k_z ?_
      exact t_norm (t_go (J28 el25 h) ⟨rfl, rfl, trivial⟩ (.cons e0 .nil) (fun w Z hA => V1 a1 hA (V0)))
    · replace h := itF hb21 h
      refine t_F rfl hb21 ?_
      refine t_skip ?_
      exact t_norm (t_go (J28 (IntKind.wrap .i64 ((IntKind.wrap .i64 (z0.at_ + 1)) * 7)) h) ⟨rfl, rfl, trivial⟩ (.cons e0 .nil) (fun w Z hA => V1 a0 hA (V0)))
end Go.Proofs.Ytanimjbmkhpnaaa.Gx
