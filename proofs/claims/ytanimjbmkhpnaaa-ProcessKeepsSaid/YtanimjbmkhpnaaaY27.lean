/- Function 27, kaudit/kauditref09.Valid: what it answers as a plain function, and that the Go code comes to exactly that (where the plain function gives an answer). -/
import Derived.Test.YtanimjbmkhpnaaaYT
import Derived.Test.YtanimjbmkhpnaaaY48
set_option linter.unusedVariables false
set_option linter.unusedSimpArgs false
namespace Go.Proofs.Ytanimjbmkhpnaaa.Gx
open Go.Gx Go.RowKit
/-! ### kaudit/kauditref09.Valid: function 27 -/
def f_kauditref09_Valid_l1 (z0 : api_Table) : Nat → Int → Option (Bool)
  | 0, _ => none
  | k68 + 1, x65 => if (decide (x65 < (z0.Processes.length : Int))) = true then ((f_kauditref09_process z0 x65).bind fun y79 => if y79 = true then (f_kauditref09_Valid_l1 z0 k68 (IntKind.wrap .i64 (x65 + 1))) else (some false)) else (some true)
def f_kauditref09_Valid (z0 : api_Table) : Option (Bool) := if (decide (z0.Next < 1)) = true then (some false) else (if (decide (z0.Next > 1073741824)) = true then (some false) else (if (decide (z0.NextSession < 1)) = true then (some false) else (if (decide (z0.NextSession > 1073741824)) = true then (some false) else (if (decide ((z0.Processes.length : Int) < 1)) = true then (some false) else (if (decide ((z0.Processes.length : Int) > 16)) = true then (some false) else (f_kauditref09_Valid_l1 z0 ((((z0.Processes.length : Int) : Int) - (0)).toNat + 1) 0))))))
set_option maxHeartbeats 4000000 in
set_option maxRecDepth 100000 in
theorem C27 (z0 : api_Table) (p1 : Option Addr) (m2 : Nat) (c3 : Nat) (r : Bool) (h : f_kauditref09_Valid z0 = some r) : FunG Try.prog 27 #[.agg #[.int .i64 z0.Next, .int .i64 z0.NextSession, .slice p1 m2 c3]] [vw (kSlice 38 k_api_Process) z0.Processes [.slice p1 m2 c3]] [] (fun (_ : Unit) => .bool r) (fun _ => []) (fun _ => []) := by
  unfold f_kauditref09_Valid at h
  refine t_begin (args := [.agg #[.int .i64 z0.Next, .int .i64 z0.NextSession, .slice p1 m2 c3]]) Try.func27 rfl Try.ntmps27 rfl fun c R hR => ?_
  have hQ : ∀ X, X = r → ∀ w2 (_ : Unit), PostG c.w0 w2 c.M c.Y [] [] → R (.returned (.bool X)) w2 := fun X e => by subst e; exact hR
  refine t_seq fun K4 hK5 => ?_
  refine t_region ?_
  refine nx (t_bx (cs := [.int .i64 z0.Next, .int .i64 z0.NextSession, .slice p1 m2 c3]) rfl rfl rfl fun g6 => ?_)
  refine c_p (r_as rfl) rfl ?_
  refine t_nil ?_
  refine t_then hK5 ?_
  refine t_seq fun K7 hK8 => ?_
  refine t_seq fun K9 hK10 => ?_
  refine t_region ?_
  refine c_p (r_fa (off' := 0) Try.underlying28 rfl ti3 rfl rfl) rfl ?_
  refine c_s (r_ld a0 Try.underlying3 rfl rfl rfl) rfl ?_
  refine c_p (r_i rfl rfl rfl) rfl ?_
  refine c_p (r_mv rfl) rfl ?_
  rcases Bool.eq_false_or_eq_true (decide (z0.Next < 1)) with hb11 | hb11
  · replace h := itT hb11 h
    refine nx (pass rfl rfl hb11 rfl ?_)
    refine nx (pass rfl rfl hb11 rfl ?_)
    refine nx (pass rfl rfl hb11 rfl ?_)
    refine c_p (r_pT rfl hb11 rfl) rfl ?_
    refine c_p (r_mv rfl) rfl ?_
    refine nx (pass rfl rfl rfl rfl ?_)
    refine nx (pass rfl rfl rfl rfl ?_)
    refine nx (pass rfl rfl rfl rfl ?_)
    refine c_p (r_pT rfl rfl rfl) rfl ?_
    refine c_p (r_mv rfl) rfl ?_
    refine nx (pass rfl rfl rfl rfl ?_)
    refine nx (pass rfl rfl rfl rfl ?_)
    refine nx (pass rfl rfl rfl rfl ?_)
    refine c_p (r_pT rfl rfl rfl) rfl ?_
    refine c_p (r_mv rfl) rfl ?_
    refine nx (pass rfl rfl rfl rfl ?_)
    refine nx (pass rfl rfl rfl rfl ?_)
    refine nx (pass rfl rfl rfl rfl ?_)
    refine nx (pass rfl rfl rfl rfl ?_)
    refine c_p (r_pT rfl rfl rfl) rfl ?_
    refine c_p (r_mv rfl) rfl ?_
    refine nx (pass rfl rfl rfl rfl ?_)
    refine nx (pass rfl rfl rfl rfl ?_)
    refine nx (pass rfl rfl rfl rfl ?_)
    refine nx (pass rfl rfl rfl rfl ?_)
    refine c_p (r_pT rfl rfl rfl) rfl ?_
    refine t_nil ?_
    refine t_then hK10 ?_
    refine t_T rfl rfl ?_
    refine t_seq fun K16 hK17 => ?_
    refine t_region ?_
    refine c_p (r_as rfl) rfl ?_
    refine t_nil ?_
    refine t_then hK17 ?_
    refine t_ret ?_
    exact tr (ret1 rfl (v_t rfl) (t_leave (hQ _ (Option.some.inj h)) () rfl (fun w Z hA => V0) .nil))
  · replace h := itF hb11 h
    refine nx (gd rfl rfl hb11 (sp (r_fa (off' := 0) Try.underlying28 rfl ti3 rfl rfl) rfl ?_))
    refine nx (gd rfl rfl hb11 (ss (r_ld a0 Try.underlying3 rfl rfl rfl) rfl ?_))
    refine nx (gd rfl rfl hb11 (sp (r_i rfl rfl rfl) rfl ?_))
    refine c_p (r_pF rfl hb11 rfl) rfl ?_
    refine c_p (r_mv rfl) rfl ?_
    rcases Bool.eq_false_or_eq_true (decide (z0.Next > 1073741824)) with hb12 | hb12
    · replace h := itT hb12 h
      refine nx (pass rfl rfl hb12 rfl ?_)
      refine nx (pass rfl rfl hb12 rfl ?_)
      refine nx (pass rfl rfl hb12 rfl ?_)
      refine c_p (r_pT rfl hb12 rfl) rfl ?_
      refine c_p (r_mv rfl) rfl ?_
      refine nx (pass rfl rfl rfl rfl ?_)
      refine nx (pass rfl rfl rfl rfl ?_)
      refine nx (pass rfl rfl rfl rfl ?_)
      refine c_p (r_pT rfl rfl rfl) rfl ?_
      refine c_p (r_mv rfl) rfl ?_
      refine nx (pass rfl rfl rfl rfl ?_)
      refine nx (pass rfl rfl rfl rfl ?_)
      refine nx (pass rfl rfl rfl rfl ?_)
      refine nx (pass rfl rfl rfl rfl ?_)
      refine c_p (r_pT rfl rfl rfl) rfl ?_
      refine c_p (r_mv rfl) rfl ?_
      refine nx (pass rfl rfl rfl rfl ?_)
      refine nx (pass rfl rfl rfl rfl ?_)
      refine nx (pass rfl rfl rfl rfl ?_)
      refine nx (pass rfl rfl rfl rfl ?_)
      refine c_p (r_pT rfl rfl rfl) rfl ?_
      refine t_nil ?_
      refine t_then hK10 ?_
      refine t_T rfl rfl ?_
      refine t_seq fun K18 hK19 => ?_
      refine t_region ?_
      refine c_p (r_as rfl) rfl ?_
      refine t_nil ?_
      refine t_then hK19 ?_
      refine t_ret ?_
      exact tr (ret1 rfl (v_t rfl) (t_leave (hQ _ (Option.some.inj h)) () rfl (fun w Z hA => V0) .nil))
    · replace h := itF hb12 h
      refine nx (gd rfl rfl hb12 (sp (r_fa (off' := 1) Try.underlying28 rfl ti3 rfl rfl) rfl ?_))
      refine nx (gd rfl rfl hb12 (ss (r_ld a0 Try.underlying3 rfl rfl rfl) rfl ?_))
      refine nx (gd rfl rfl hb12 (sp (r_i rfl rfl rfl) rfl ?_))
      refine c_p (r_pF rfl hb12 rfl) rfl ?_
      refine c_p (r_mv rfl) rfl ?_
      rcases Bool.eq_false_or_eq_true (decide (z0.NextSession < 1)) with hb13 | hb13
      · replace h := itT hb13 h
        refine nx (pass rfl rfl hb13 rfl ?_)
        refine nx (pass rfl rfl hb13 rfl ?_)
        refine nx (pass rfl rfl hb13 rfl ?_)
        refine c_p (r_pT rfl hb13 rfl) rfl ?_
        refine c_p (r_mv rfl) rfl ?_
        refine nx (pass rfl rfl rfl rfl ?_)
        refine nx (pass rfl rfl rfl rfl ?_)
        refine nx (pass rfl rfl rfl rfl ?_)
        refine nx (pass rfl rfl rfl rfl ?_)
        refine c_p (r_pT rfl rfl rfl) rfl ?_
        refine c_p (r_mv rfl) rfl ?_
        refine nx (pass rfl rfl rfl rfl ?_)
        refine nx (pass rfl rfl rfl rfl ?_)
        refine nx (pass rfl rfl rfl rfl ?_)
        refine nx (pass rfl rfl rfl rfl ?_)
        refine c_p (r_pT rfl rfl rfl) rfl ?_
        refine t_nil ?_
        refine t_then hK10 ?_
        refine t_T rfl rfl ?_
        refine t_seq fun K20 hK21 => ?_
        refine t_region ?_
        refine c_p (r_as rfl) rfl ?_
        refine t_nil ?_
        refine t_then hK21 ?_
        refine t_ret ?_
        exact tr (ret1 rfl (v_t rfl) (t_leave (hQ _ (Option.some.inj h)) () rfl (fun w Z hA => V0) .nil))
      · replace h := itF hb13 h
        refine nx (gd rfl rfl hb13 (sp (r_fa (off' := 1) Try.underlying28 rfl ti3 rfl rfl) rfl ?_))
        refine nx (gd rfl rfl hb13 (ss (r_ld a0 Try.underlying3 rfl rfl rfl) rfl ?_))
        refine nx (gd rfl rfl hb13 (sp (r_i rfl rfl rfl) rfl ?_))
        refine c_p (r_pF rfl hb13 rfl) rfl ?_
        refine c_p (r_mv rfl) rfl ?_
        rcases Bool.eq_false_or_eq_true (decide (z0.NextSession > 1073741824)) with hb14 | hb14
        · replace h := itT hb14 h
          refine nx (pass rfl rfl hb14 rfl ?_)
          refine nx (pass rfl rfl hb14 rfl ?_)
          refine nx (pass rfl rfl hb14 rfl ?_)
          refine nx (pass rfl rfl hb14 rfl ?_)
          refine c_p (r_pT rfl hb14 rfl) rfl ?_
          refine c_p (r_mv rfl) rfl ?_
          refine nx (pass rfl rfl rfl rfl ?_)
          refine nx (pass rfl rfl rfl rfl ?_)
          refine nx (pass rfl rfl rfl rfl ?_)
          refine nx (pass rfl rfl rfl rfl ?_)
          refine c_p (r_pT rfl rfl rfl) rfl ?_
          refine t_nil ?_
          refine t_then hK10 ?_
          refine t_T rfl rfl ?_
          refine t_seq fun K22 hK23 => ?_
          refine t_region ?_
          refine c_p (r_as rfl) rfl ?_
          refine t_nil ?_
          refine t_then hK23 ?_
          refine t_ret ?_
          exact tr (ret1 rfl (v_t rfl) (t_leave (hQ _ (Option.some.inj h)) () rfl (fun w Z hA => V0) .nil))
        · replace h := itF hb14 h
          refine nx (gd rfl rfl hb14 (sp (r_fa (off' := 2) Try.underlying28 rfl ti26 rfl rfl) rfl ?_))
          refine nx (gd rfl rfl hb14 (ss (r_ld a0 Try.underlying26 rfl rfl rfl) rfl ?_))
          refine nx (gd rfl rfl hb14 (ss (r_lnA a0 Try.underlying26 rfl) rfl ?_))
          refine nx (gd rfl rfl hb14 (sp (r_i rfl rfl rfl) rfl ?_))
          refine c_p (r_pF rfl hb14 rfl) rfl ?_
          refine c_p (r_mv rfl) rfl ?_
          rcases Bool.eq_false_or_eq_true (decide ((z0.Processes.length : Int) < 1)) with hb15 | hb15
          · replace h := itT hb15 h
            refine nx (pass rfl rfl hb15 rfl ?_)
            refine nx (pass rfl rfl hb15 rfl ?_)
            refine nx (pass rfl rfl hb15 rfl ?_)
            refine nx (pass rfl rfl hb15 rfl ?_)
            refine c_p (r_pT rfl hb15 rfl) rfl ?_
            refine t_nil ?_
            refine t_then hK10 ?_
            refine t_T rfl rfl ?_
            refine t_seq fun K24 hK25 => ?_
            refine t_region ?_
            refine c_p (r_as rfl) rfl ?_
            refine t_nil ?_
            refine t_then hK25 ?_
            refine t_ret ?_
            exact tr (ret1 rfl (v_t rfl) (t_leave (hQ _ (Option.some.inj h)) () rfl (fun w Z hA => V0) .nil))
          · replace h := itF hb15 h
            refine nx (gd rfl rfl hb15 (sp (r_fa (off' := 2) Try.underlying28 rfl ti26 rfl rfl) rfl ?_))
            refine nx (gd rfl rfl hb15 (ss (r_ld a0 Try.underlying26 rfl rfl rfl) rfl ?_))
            refine nx (gd rfl rfl hb15 (ss (r_lnA a0 Try.underlying26 rfl) rfl ?_))
            refine nx (gd rfl rfl hb15 (sp (r_i rfl rfl rfl) rfl ?_))
            refine c_p (r_pF rfl hb15 rfl) rfl ?_
            refine t_nil ?_
            refine t_then hK10 ?_
            rcases Bool.eq_false_or_eq_true (decide ((z0.Processes.length : Int) > 16)) with hb26 | hb26
            · replace h := itT hb26 h
              refine t_T rfl hb26 ?_
              refine t_seq fun K27 hK28 => ?_
              refine t_region ?_
              refine c_p (r_as rfl) rfl ?_
              refine t_nil ?_
              refine t_then hK28 ?_
              refine t_ret ?_
              exact tr (ret1 rfl (v_t rfl) (t_leave (hQ _ (Option.some.inj h)) () rfl (fun w Z hA => V0) .nil))
            · replace h := itF hb26 h
              refine t_F rfl hb26 ?_
              refine t_skip ?_
              refine t_then hK8 ?_
              refine t_seq fun K29 hK30 => ?_
              refine t_seq fun K31 hK32 => ?_
              refine t_region ?_
              refine c_p (r_as rfl) rfl ?_
              refine t_nil ?_
              refine t_then hK32 ?_
              refine t_block ?_
              refine t_lp fun k63 hk64 => ?_
              have LP66 : ∀ (k68 : Nat) (x65 : Int), f_kauditref09_Valid_l1 z0 k68 x65 = some r → T 45 c [vw (kSlice 38 k_api_Process) z0.Processes [.slice p1 m2 c3]] [[blk g6 [.int .i64 z0.Next, .int .i64 z0.NextSession, .slice p1 m2 c3] 28]] [(1, .pointer (some ⟨g6, 0, none⟩)), (3, .int .i64 x65)] k63 := by
                intro k68
                induction k68 with
                | zero => intro x65 h67; rewrite [f_kauditref09_Valid_l1] at h67; cases h67
                | succ k68 ih69 =>
                  intro x65 h67
                  rewrite [f_kauditref09_Valid_l1] at h67
                  refine ti hk64 ?_
                  refine t_seq fun K70 hK71 => ?_
                  refine t_seq fun K72 hK73 => ?_
                  refine t_region ?_
                  refine c_p (r_mv rfl) rfl ?_
                  refine c_p (r_fa (off' := 2) Try.underlying28 rfl ti26 rfl rfl) rfl ?_
                  refine c_s (r_ld a0 Try.underlying26 rfl rfl rfl) rfl ?_
                  refine c_s (r_lnA a0 Try.underlying26 rfl) rfl ?_
                  refine c_p (r_i rfl rfl rfl) rfl ?_
                  refine t_nil ?_
                  refine t_then hK73 ?_
                  rcases Bool.eq_false_or_eq_true (decide (x65 < (z0.Processes.length : Int))) with hb74 | hb74
                  · replace h67 := itT hb74 h67
                    refine t_T rfl hb74 ?_
                    refine t_skip ?_
                    refine t_then hK71 ?_
                    refine t_seq fun K75 hK76 => ?_
                    refine t_block ?_
                    refine t_seq fun K77 hK78 => ?_
                    refine t_region ?_
                    refine c_s (r_ldA a0 Try.underlying28 rfl ti28 rfl rfl) rfl ?_
                    refine c_p (r_mv rfl) rfl ?_
                    obtain ⟨y79, hy79, h67⟩ := bs h67
                    refine nx (t_ca (C48 _ _ _ _ _ _ hy79) Try.func48 nm48 rfl rfl rfl .nil (fun w Z hA => (V1 a0 hA V0)) rfl fun t80 => ?_)
                    refine c_p (r_not rfl) rfl ?_
                    refine t_nil ?_
                    refine t_then hK78 ?_
                    rcases Bool.eq_false_or_eq_true y79 with hb81 | hb81
                    · replace h67 := itT hb81 h67
                      refine t_F rfl (congrArg Bool.not hb81) ?_
                      refine t_skip ?_
                      refine t_blockN ?_
                      refine t_then hK76 ?_
                      refine t_region ?_
                      refine c_p (r_mv rfl) rfl ?_
                      refine c_p (r_i rfl rfl rfl) rfl ?_
                      refine c_p (r_as rfl) rfl ?_
                      refine t_nil ?_
                      exact t_norm (t_go (ih69 (IntKind.wrap .i64 (x65 + 1)) h67) ⟨rfl, rfl, trivial⟩ (.cons e0 .nil) (fun w Z hA => V1 a0 hA (V0)))
                    · replace h67 := itF hb81 h67
                      refine t_T rfl (congrArg Bool.not hb81) ?_
                      refine t_seq fun K82 hK83 => ?_
                      refine t_region ?_
                      refine c_p (r_as rfl) rfl ?_
                      refine t_nil ?_
                      refine t_then hK83 ?_
                      refine t_ret ?_
                      exact br (tr (tr (br (tr (ret1 rfl (v_t rfl) (t_leave (hQ _ (Option.some.inj h67)) () rfl (fun w Z hA => V0) .nil))))))
                  · replace h67 := itF hb74 h67
                    refine t_F rfl hb74 ?_
                    refine t_exit ?_
                    refine te (te (bx ?_))
                    refine t_then hK30 ?_
                    refine t_seq fun K84 hK85 => ?_
                    refine t_region ?_
                    refine c_p (r_as rfl) rfl ?_
                    refine t_nil ?_
                    refine t_then hK85 ?_
                    refine t_ret ?_
                    exact ret1 rfl (v_t rfl) (t_leave (hQ _ (Option.some.inj h67)) () rfl (fun w Z hA => V0) .nil)
              exact t_go (LP66 ((((z0.Processes.length : Int) : Int) - (0)).toNat + 1) 0 h) ⟨rfl, rfl, trivial⟩ (.cons e0 .nil) (fun w Z hA => V1 a0 hA (V0))
end Go.Proofs.Ytanimjbmkhpnaaa.Gx
