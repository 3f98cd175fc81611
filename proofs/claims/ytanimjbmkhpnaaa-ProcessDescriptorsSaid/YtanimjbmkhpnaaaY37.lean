/- Function 37, kaudit/process.place: what it answers as a plain function, and that the Go code comes to exactly that (where the plain function gives an answer). -/
import Derived.Test.YtanimjbmkhpnaaaYT
import Derived.Test.YtanimjbmkhpnaaaY59
set_option linter.unusedVariables false
set_option linter.unusedSimpArgs false
namespace Go.Proofs.Ytanimjbmkhpnaaa.Gx
open Go.Gx Go.RowKit
/-! ### kaudit/process.place: function 37 -/
def f_process_place_j2 (x97 : Int) (x98 : Bool) : Option (Int × Bool) := some (x97, x98)
def f_process_place_j1 (z0 : api_Table) (z1 : Int) (x84 : Int) : Option (Int × Bool) := if (decide (x84 < (z0.Processes.length : Int))) = true then ((at_ z0.Processes x84).bind fun el93 => (f_process_place_1 el93 z1).bind fun y95 => f_process_place_j2 x84 (y95 == 0)) else (f_process_place_j2 x84 false)
def f_process_place_l1 (z0 : api_Table) (z1 : Int) : Nat → Int → Int → Option (Int × Bool)
  | 0, _, _ => none
  | k65 + 1, x61, x62 => if (decide (x61 < x62)) = true then ((at_ z0.Processes (IntKind.wrap .i64 (((IntKind.wrap .u64 (IntKind.wrap .i64 (x61 + x62))) : Int).fdiv (2 ^ (min (1 : Int).toNat (IntKind.bits .u64)))))).bind fun el79 => (f_process_place_1 el79 z1).bind fun y81 => if (decide (y81 < 0)) = true then (f_process_place_l1 z0 z1 k65 (IntKind.wrap .i64 ((IntKind.wrap .i64 (((IntKind.wrap .u64 (IntKind.wrap .i64 (x61 + x62))) : Int).fdiv (2 ^ (min (1 : Int).toNat (IntKind.bits .u64))))) + 1)) x62) else (f_process_place_l1 z0 z1 k65 x61 (IntKind.wrap .i64 (((IntKind.wrap .u64 (IntKind.wrap .i64 (x61 + x62))) : Int).fdiv (2 ^ (min (1 : Int).toNat (IntKind.bits .u64))))))) else (f_process_place_j1 z0 z1 x61)
def f_process_place (z0 : api_Table) (z1 : Int) : Option (Int × Bool) := f_process_place_l1 z0 z1 ((((z0.Processes.length : Int) : Int) - (0)).toNat + 1) 0 (z0.Processes.length : Int)
set_option maxHeartbeats 4000000 in
set_option maxRecDepth 100000 in
theorem C37 (z0 : api_Table) (z1 : Int) (p1 : Option Addr) (m2 : Nat) (c3 : Nat) (r : Int × Bool) (h : f_process_place z0 z1 = some r) : FunG Try.prog 37 #[.agg #[.int .i64 z0.Next, .int .i64 z0.NextSession, .slice p1 m2 c3], .int .i64 z1] [vw (kSlice 38 k_api_Process) z0.Processes [.slice p1 m2 c3]] [] (fun (_ : Unit) => .tuple #[.int .i64 r.1, .bool r.2]) (fun _ => []) (fun _ => []) := by
  unfold f_process_place at h
  refine t_begin (args := [.agg #[.int .i64 z0.Next, .int .i64 z0.NextSession, .slice p1 m2 c3], .int .i64 z1]) Try.func37 rfl Try.ntmps37 rfl fun c R hR => ?_
  have hQ : ∀ X, X = r → ∀ w2 (_ : Unit), PostG c.w0 w2 c.M c.Y [] [] → R (.returned (.tuple #[.int .i64 X.1, .bool X.2])) w2 := fun X e => by subst e; exact hR
  refine t_seq fun K4 hK5 => ?_
  refine t_region ?_
  refine nx (t_bx (cs := [.int .i64 z0.Next, .int .i64 z0.NextSession, .slice p1 m2 c3]) rfl rfl rfl fun g6 => ?_)
  refine c_p (r_as rfl) rfl ?_
  refine c_p (r_as rfl) rfl ?_
  refine t_nil ?_
  refine t_then hK5 ?_
  refine t_seq fun K7 hK8 => ?_
  refine t_region ?_
  refine c_p (r_fa (off' := 2) Try.underlying28 rfl ti26 rfl rfl) rfl ?_
  refine c_s (r_ld a0 Try.underlying26 rfl rfl rfl) rfl ?_
  refine c_p (r_mv rfl) rfl ?_
  refine nx (t_in (args := [.slice p1 m2 c3, .int .i64 z1, .func (.func 59) #[] #[]]) (cap := []) (all := [.slice p1 m2 c3, .int .i64 z1, .func (.func 59) #[] #[]]) rfl rfl Try.func58 nm58 rfl rfl rfl Try.ntmps58 rfl fun R9 k10 hk11 hR12 => ?_)
  have J99 : ∀ (x97 : Int) (x98 : Bool), f_process_place_j2 x97 x98 = some r → T 12 c [] [] [(4, .int .i64 0), (5, .bool false), (9, .tuple #[.int .i64 x97, .bool x98])] k10 := by
    intro x97 x98 h100
    unfold f_process_place_j2 at h100
    refine ti hk11 ?_
    refine c_p (r_ex rfl rfl) rfl ?_
    refine c_p (r_ex rfl rfl) rfl ?_
    refine c_p (r_as rfl) rfl ?_
    refine c_p (r_as rfl) rfl ?_
    refine t_nil ?_
    refine t_then hK8 ?_
    refine t_ret ?_
    exact ret2 rfl (v_t rfl) (v_t rfl) (t_leave (hQ _ (Option.some.inj h100)) () rfl (fun w Z hA => V0) .nil)
  refine t_seq fun K13 hK14 => ?_
  refine t_region ?_
  refine c_p (r_as rfl) rfl ?_
  refine c_p (r_as rfl) rfl ?_
  refine t_nil ?_
  refine t_then hK14 ?_
  refine t_seq fun K15 hK16 => ?_
  refine t_region ?_
  refine c_p (r_mv rfl) rfl ?_
  refine c_s (r_lnA a0 Try.underlying26 rfl) rfl ?_
  refine c_p (r_as rfl) rfl ?_
  refine t_nil ?_
  refine t_then hK16 ?_
  refine t_seq fun K17 hK18 => ?_
  refine t_region ?_
  refine c_p (r_mv rfl) rfl ?_
  refine c_p (r_as rfl) rfl ?_
  refine c_p (r_as rfl) rfl ?_
  refine t_nil ?_
  refine t_then hK18 ?_
  refine t_seq fun K19 hK20 => ?_
  have J85 : ∀ (x84 : Int), f_process_place_j1 z0 z1 x84 = some r → T 49 c [vw (kSlice 38 k_api_Process) z0.Processes [.slice p1 m2 c3]] [] [(0, .slice p1 m2 c3), (1, .int .i64 z1), (2, .func (.func 59) #[] #[]), (8, .int .i64 (z0.Processes.length : Int)), (9, .int .i64 x84)] K19 := by
    intro x84 h86
    unfold f_process_place_j1 at h86
    refine ti hK20 ?_
    refine t_seq fun K87 hK88 => ?_
    refine t_region ?_
    refine c_p (r_mv rfl) rfl ?_
    refine c_p (r_mv rfl) rfl ?_
    refine c_p (r_mv rfl) rfl ?_
    refine c_p (r_i rfl rfl rfl) rfl ?_
    refine c_p (r_mv rfl) rfl ?_
    rcases Bool.eq_false_or_eq_true (decide (x84 < (z0.Processes.length : Int))) with hb89 | hb89
    · replace h86 := itT hb89 h86
      refine nx (gd rfl rfl hb89 (sp (r_mv rfl) rfl ?_))
      refine nx (gd rfl rfl hb89 (sp (r_mv rfl) rfl ?_))
      refine nx (gd rfl rfl hb89 (sp (r_mv rfl) rfl ?_))
      obtain ⟨el93, hel93, h86⟩ := bs h86
      refine t_q a0 hel93 fun q90 hq91 hm92 => ?_
      refine nx (gd rfl rfl hb89 (sp (r_idx hq91 hm92 hel93 Try.underlying26 ti38 rfl rfl) rfl ?_))
      refine t_op k_api_Process_opens a0 hel93 fun t94 => ?_
      refine nx (gd rfl rfl hb89 (ss (r_eA a1 hq91 Try.underlying38 rfl ti38 rfl rfl) rfl ?_))
      refine nx (gd rfl rfl hb89 (sp (r_mv rfl) rfl ?_))
      obtain ⟨y95, hy95, h86⟩ := bs h86
      refine nx (gd rfl rfl hb89 (t_ca (C59 _ _ _ _ _ _ hy95) Try.func59 nm59 rfl rfl rfl .nil (fun w Z hA => (V1 a0 hA V0)) rfl fun t96 => ?_))
      refine nx (gd rfl rfl hb89 (sp (r_i rfl rfl rfl) rfl ?_))
      refine c_p (r_pT rfl hb89 rfl) rfl ?_
      refine c_p (r_as rfl) rfl ?_
      refine c_p (r_as rfl) rfl ?_
      refine t_nil ?_
      refine t_then hK88 ?_
      refine t_ret ?_
      refine ret2 rfl (v_t rfl) (v_t rfl) (t_bk hR12 ?_)
      exact t_go (J99 x84 (y95 == 0) h86) ⟨rfl, rfl, rfl, trivial⟩ .nil (fun w Z hA => V0)
    · replace h86 := itF hb89 h86
      refine nx (pass rfl rfl hb89 rfl ?_)
      refine nx (pass rfl rfl hb89 rfl ?_)
      refine nx (pass rfl rfl hb89 rfl ?_)
      refine nx (pass rfl rfl hb89 rfl ?_)
      refine nx (pass rfl rfl hb89 rfl ?_)
      refine nx (pass rfl rfl hb89 rfl ?_)
      refine nx (pass rfl rfl hb89 rfl ?_)
      refine nx (pass rfl rfl hb89 rfl ?_)
      refine c_p (r_pF rfl hb89 rfl) rfl ?_
      refine c_p (r_as rfl) rfl ?_
      refine c_p (r_as rfl) rfl ?_
      refine t_nil ?_
      refine t_then hK88 ?_
      refine t_ret ?_
      refine ret2 rfl (v_t rfl) (v_t rfl) (t_bk hR12 ?_)
      exact t_go (J99 x84 false h86) ⟨rfl, rfl, rfl, trivial⟩ .nil (fun w Z hA => V0)
  refine t_block ?_
  refine t_lp fun k59 hk60 => ?_
  have LP63 : ∀ (k65 : Nat) (x61 : Int) (x62 : Int), f_process_place_l1 z0 z1 k65 x61 x62 = some r → T 49 c [vw (kSlice 38 k_api_Process) z0.Processes [.slice p1 m2 c3]] [] [(0, .slice p1 m2 c3), (1, .int .i64 z1), (2, .func (.func 59) #[] #[]), (8, .int .i64 (z0.Processes.length : Int)), (9, .int .i64 x61), (10, .int .i64 x62)] k59 := by
    intro k65
    induction k65 with
    | zero => intro x61 x62 h64; rewrite [f_process_place_l1] at h64; cases h64
    | succ k65 ih66 =>
      intro x61 x62 h64
      rewrite [f_process_place_l1] at h64
      refine ti hk60 ?_
      refine t_seq fun K67 hK68 => ?_
      refine t_seq fun K69 hK70 => ?_
      refine t_region ?_
      refine c_p (r_mv rfl) rfl ?_
      refine c_p (r_mv rfl) rfl ?_
      refine c_p (r_i rfl rfl rfl) rfl ?_
      refine t_nil ?_
      refine t_then hK70 ?_
      rcases Bool.eq_false_or_eq_true (decide (x61 < x62)) with hb71 | hb71
      · replace h64 := itT hb71 h64
        refine t_T rfl hb71 ?_
        refine t_skip ?_
        refine t_then hK68 ?_
        refine t_block ?_
        refine t_seq fun K72 hK73 => ?_
        refine t_region ?_
        refine c_p (r_mv rfl) rfl ?_
        refine c_p (r_mv rfl) rfl ?_
        refine c_p (r_i rfl rfl rfl) rfl ?_
        refine c_p (r_ci Try.underlying3 Try.underlying100 rfl) rfl ?_
        refine c_p (r_shr rfl rfl (by omega)) rfl ?_
        refine c_p (r_ci Try.underlying100 Try.underlying3 rfl) rfl ?_
        refine c_p (r_as rfl) rfl ?_
        refine t_nil ?_
        refine t_then hK73 ?_
        refine t_seq fun K74 hK75 => ?_
        refine t_region ?_
        refine c_p (r_mv rfl) rfl ?_
        refine c_p (r_mv rfl) rfl ?_
        refine c_p (r_mv rfl) rfl ?_
        obtain ⟨el79, hel79, h64⟩ := bs h64
        refine t_q a0 hel79 fun q76 hq77 hm78 => ?_
        refine c_p (r_idx hq77 hm78 hel79 Try.underlying26 ti38 rfl rfl) rfl ?_
        refine t_op k_api_Process_opens a0 hel79 fun t80 => ?_
        refine c_s (r_eA a1 hq77 Try.underlying38 rfl ti38 rfl rfl) rfl ?_
        refine c_p (r_mv rfl) rfl ?_
        obtain ⟨y81, hy81, h64⟩ := bs h64
        refine nx (t_ca (C59 _ _ _ _ _ _ hy81) Try.func59 nm59 rfl rfl rfl .nil (fun w Z hA => (V1 a0 hA V0)) rfl fun t82 => ?_)
        refine c_p (r_i rfl rfl rfl) rfl ?_
        refine t_nil ?_
        refine t_then hK75 ?_
        rcases Bool.eq_false_or_eq_true (decide (y81 < 0)) with hb83 | hb83
        · replace h64 := itT hb83 h64
          refine t_T rfl hb83 ?_
          refine t_region ?_
          refine c_p (r_mv rfl) rfl ?_
          refine c_p (r_i rfl rfl rfl) rfl ?_
          refine c_p (r_as rfl) rfl ?_
          refine t_nil ?_
          refine t_blockN ?_
          exact t_norm (t_go (ih66 (IntKind.wrap .i64 ((IntKind.wrap .i64 (((IntKind.wrap .u64 (IntKind.wrap .i64 (x61 + x62))) : Int).fdiv (2 ^ (min (1 : Int).toNat (IntKind.bits .u64))))) + 1)) x62 h64) ⟨rfl, rfl, rfl, rfl, rfl, rfl, trivial⟩ .nil (fun w Z hA => V1 a2 hA (V0)))
        · replace h64 := itF hb83 h64
          refine t_F rfl hb83 ?_
          refine t_region ?_
          refine c_p (r_mv rfl) rfl ?_
          refine c_p (r_as rfl) rfl ?_
          refine t_nil ?_
          refine t_blockN ?_
          exact t_norm (t_go (ih66 x61 (IntKind.wrap .i64 (((IntKind.wrap .u64 (IntKind.wrap .i64 (x61 + x62))) : Int).fdiv (2 ^ (min (1 : Int).toNat (IntKind.bits .u64))))) h64) ⟨rfl, rfl, rfl, rfl, rfl, rfl, trivial⟩ .nil (fun w Z hA => V1 a2 hA (V0)))
      · replace h64 := itF hb71 h64
        refine t_F rfl hb71 ?_
        refine t_exit ?_
        refine te (te (bx ?_))
        exact t_norm (t_go (J85 x61 h64) ⟨rfl, rfl, rfl, rfl, rfl, trivial⟩ .nil (fun w Z hA => V1 a0 hA (V0)))
  exact t_go (LP63 ((((z0.Processes.length : Int) : Int) - (0)).toNat + 1) 0 (z0.Processes.length : Int) h) ⟨rfl, rfl, rfl, rfl, rfl, rfl, trivial⟩ .nil (fun w Z hA => V1 a0 hA (V0))
end Go.Proofs.Ytanimjbmkhpnaaa.Gx
