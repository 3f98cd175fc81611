/- K3: the texts Y8, Y23, Y11, Y10, Y18, Y21, PCov, PCovB, Y17, Y22, PMill, Y6, PCovC, Y9, Y16, Y15, Y19, PSpanA, joined. -/
import Derived.Test.YthmjklpmamfncaaDoorK2
/- Function 8, kaudit/coverage.Proper: what it answers as a plain function, and that the Go code comes to exactly that (where the plain function gives an answer). -/
set_option linter.unusedVariables false
set_option linter.unusedSimpArgs false
namespace Go.Proofs.YthmjklpmamfncaaDoor.Gx
open Go.Gx Go.RowKit
noncomputable section
/-! ### kaudit/coverage.Proper: function 8 -/
def f_coverage_Proper_l1 (z0 : (List api_Span)) : Nat → Int → Option (Bool)
  | 0, _ => none
  | k130 + 1, x127 => if (decide (x127 < (z0.length : Int))) = true then ((at_ z0 x127).bind fun el144 => if (decide (el144.From < 1)) = true then (some false) else (if (decide (el144.From > el144.To)) = true then (some false) else (if (decide (el144.Kind < 1)) = true then (some false) else (if (decide (el144.Kind > 4)) = true then (some false) else (if (x127 == 0) = true then (if (el144.From != 1) = true then (some false) else (if (decide (x127 > 0)) = true then ((at_ z0 (IntKind.wrap .i64 (x127 - 1))).bind fun el172 => if (el172.To != (IntKind.wrap .i64 (el144.From - 1))) = true then (some false) else (if (el172.Kind == el144.Kind) = true then (some false) else (f_coverage_Proper_l1 z0 k130 (IntKind.wrap .i64 (x127 + 1))))) else (f_coverage_Proper_l1 z0 k130 (IntKind.wrap .i64 (x127 + 1))))) else (if (decide (x127 > 0)) = true then ((at_ z0 (IntKind.wrap .i64 (x127 - 1))).bind fun el176 => if (el176.To != (IntKind.wrap .i64 (el144.From - 1))) = true then (some false) else (if (el176.Kind == el144.Kind) = true then (some false) else (f_coverage_Proper_l1 z0 k130 (IntKind.wrap .i64 (x127 + 1))))) else (f_coverage_Proper_l1 z0 k130 (IntKind.wrap .i64 (x127 + 1))))))))) else (some true)
def f_coverage_Proper (z0 : (List api_Span)) : Option (Bool) := f_coverage_Proper_l1 z0 ((((z0.length : Int) : Int) - (0)).toNat + 1) 0
set_option maxHeartbeats 4000000 in
set_option maxRecDepth 100000 in
theorem C8 (z0 : (List api_Span)) (p1 : Option Addr) (m2 : Nat) (c3 : Nat) (r : Bool) (h : f_coverage_Proper z0 = some r) : FunG Tryd.prog 8 #[.slice p1 m2 c3] [vw (kSlice 46 k_api_Span) z0 [.slice p1 m2 c3], g_pow10, g_kinds] [] (fun (_ : Unit) => .bool r) (fun _ => []) (fun _ => []) := by
  unfold f_coverage_Proper at h
  refine t_begin (args := [.slice p1 m2 c3]) Tryd.func8 rfl Tryd.ntmps8 rfl fun c R hR => ?_
  have hQ : ∀ X, X = r → ∀ w2 (_ : Unit), PostG c.w0 w2 c.M c.Y [] [] → R (.returned (.bool X)) w2 := fun X e => by subst e; exact hR
  refine t_seq fun K4 hK5 => ?_
  refine t_region ?_
  refine c_p (r_as rfl) rfl ?_
  refine t_nil ?_
  refine t_then hK5 ?_
  refine t_seq fun K6 hK7 => ?_
  refine t_seq fun K8 hK9 => ?_
  refine t_region ?_
  refine c_p (r_mv rfl) rfl ?_
  refine c_s (r_lnA a0 Tryd.underlying23 rfl) rfl ?_
  refine c_p (r_mv rfl) rfl ?_
  refine t_nil ?_
  refine t_then hK9 ?_
  refine t_block ?_
  refine t_lp fun k125 hk126 => ?_
  have LP128 : ∀ (k130 : Nat) (x127 : Int), f_coverage_Proper_l1 z0 k130 x127 = some r → T 67 c [vw (kSlice 46 k_api_Span) z0 [.slice p1 m2 c3], g_pow10, g_kinds] [] [(0, .slice p1 m2 c3), (5, .slice p1 m2 c3), (6, .int .i64 (z0.length : Int)), (7, .int .i64 x127)] k125 := by
    intro k130
    induction k130 with
    | zero => intro x127 h129; rewrite [f_coverage_Proper_l1] at h129; cases h129
    | succ k130 ih131 =>
      intro x127 h129
      rewrite [f_coverage_Proper_l1] at h129
      refine ti hk126 ?_
      refine t_seq fun K132 hK133 => ?_
      refine t_region ?_
      refine c_p (r_i rfl rfl rfl) rfl ?_
      refine t_nil ?_
      refine t_then hK133 ?_
      refine t_seq fun K134 hK135 => ?_
      rcases Bool.eq_false_or_eq_true (decide (x127 < (z0.length : Int))) with hb136 | hb136
      · replace h129 := itT hb136 h129
        refine t_T rfl hb136 ?_
        refine t_skip ?_
        refine t_then hK135 ?_
        refine t_seq fun K137 hK138 => ?_
        refine t_block ?_
        refine t_seq fun K139 hK140 => ?_
        refine t_region ?_
        refine c_p (r_mv rfl) rfl ?_
        obtain ⟨el144, hel144, h129⟩ := bs h129
        refine t_q a0 hel144 fun q141 hq142 hm143 => ?_
        refine c_p (r_idx hq142 hm143 hel144 Tryd.underlying23 ti46 rfl rfl) rfl ?_
        refine t_op k_api_Span_opens a0 hel144 fun t145 => ?_
        refine c_s (r_eA a0 hq142 Tryd.underlying46 rfl ti46 rfl rfl) rfl ?_
        refine nx (t_al (cs := [.int .i64 0, .int .i64 0, .int .i64 0]) ti46 rfl rfl fun g146 => ?_)
        refine c_p (r_as rfl) rfl ?_
        refine nx (t_st u0 ti46 rfl rfl rfl rfl rfl (.t (.s (.s (.s .z)))) ?_)
        refine t_nil ?_
        refine t_then hK140 ?_
        refine t_seq fun K147 hK148 => ?_
        refine t_seq fun K149 hK150 => ?_
        refine t_region ?_
        refine c_p (r_fa (off' := 0) Tryd.underlying46 rfl ti3 rfl rfl) rfl ?_
        refine c_s (r_ld a0 Tryd.underlying3 rfl rfl rfl) rfl ?_
        refine c_p (r_i rfl rfl rfl) rfl ?_
        refine c_p (r_mv rfl) rfl ?_
        rcases Bool.eq_false_or_eq_true (decide (el144.From < 1)) with hb151 | hb151
        · replace h129 := itT hb151 h129
          refine nx (pass rfl rfl hb151 rfl ?_)
          refine nx (pass rfl rfl hb151 rfl ?_)
          refine nx (pass rfl rfl hb151 rfl ?_)
          refine nx (pass rfl rfl hb151 rfl ?_)
          refine nx (pass rfl rfl hb151 rfl ?_)
          refine c_p (r_pT rfl hb151 rfl) rfl ?_
          refine c_p (r_mv rfl) rfl ?_
          refine nx (pass rfl rfl rfl rfl ?_)
          refine nx (pass rfl rfl rfl rfl ?_)
          refine nx (pass rfl rfl rfl rfl ?_)
          refine c_p (r_pT rfl rfl rfl) rfl ?_
          refine c_p (r_mv rfl) rfl ?_
          refine nx (pass rfl rfl rfl rfl ?_)
          refine nx (pass rfl rfl rfl rfl ?_)
          refine nx (pass rfl rfl rfl rfl ?_)
          refine c_p (r_pT rfl rfl rfl) rfl ?_
          refine t_nil ?_
          refine t_then hK150 ?_
          refine t_T rfl rfl ?_
          refine t_seq fun K154 hK155 => ?_
          refine t_region ?_
          refine c_p (r_as rfl) rfl ?_
          refine t_nil ?_
          refine t_then hK155 ?_
          refine t_ret ?_
          exact tr (br (tr (tr (br (tr (ret1 rfl (v_t rfl) (t_leave (hQ _ (Option.some.inj h129)) () rfl (fun w Z hA => V0) .nil)))))))
        · replace h129 := itF hb151 h129
          refine nx (gd rfl rfl hb151 (sp (r_fa (off' := 0) Tryd.underlying46 rfl ti3 rfl rfl) rfl ?_))
          refine nx (gd rfl rfl hb151 (ss (r_ld a0 Tryd.underlying3 rfl rfl rfl) rfl ?_))
          refine nx (gd rfl rfl hb151 (sp (r_fa (off' := 1) Tryd.underlying46 rfl ti3 rfl rfl) rfl ?_))
          refine nx (gd rfl rfl hb151 (ss (r_ld a0 Tryd.underlying3 rfl rfl rfl) rfl ?_))
          refine nx (gd rfl rfl hb151 (sp (r_i rfl rfl rfl) rfl ?_))
          refine c_p (r_pF rfl hb151 rfl) rfl ?_
          refine c_p (r_mv rfl) rfl ?_
          rcases Bool.eq_false_or_eq_true (decide (el144.From > el144.To)) with hb152 | hb152
          · replace h129 := itT hb152 h129
            refine nx (pass rfl rfl hb152 rfl ?_)
            refine nx (pass rfl rfl hb152 rfl ?_)
            refine nx (pass rfl rfl hb152 rfl ?_)
            refine c_p (r_pT rfl hb152 rfl) rfl ?_
            refine c_p (r_mv rfl) rfl ?_
            refine nx (pass rfl rfl rfl rfl ?_)
            refine nx (pass rfl rfl rfl rfl ?_)
            refine nx (pass rfl rfl rfl rfl ?_)
            refine c_p (r_pT rfl rfl rfl) rfl ?_
            refine t_nil ?_
            refine t_then hK150 ?_
            refine t_T rfl rfl ?_
            refine t_seq fun K156 hK157 => ?_
            refine t_region ?_
            refine c_p (r_as rfl) rfl ?_
            refine t_nil ?_
            refine t_then hK157 ?_
            refine t_ret ?_
            exact tr (br (tr (tr (br (tr (ret1 rfl (v_t rfl) (t_leave (hQ _ (Option.some.inj h129)) () rfl (fun w Z hA => V0) .nil)))))))
          · replace h129 := itF hb152 h129
            refine nx (gd rfl rfl hb152 (sp (r_fa (off' := 2) Tryd.underlying46 rfl ti3 rfl rfl) rfl ?_))
            refine nx (gd rfl rfl hb152 (ss (r_ld a0 Tryd.underlying3 rfl rfl rfl) rfl ?_))
            refine nx (gd rfl rfl hb152 (sp (r_i rfl rfl rfl) rfl ?_))
            refine c_p (r_pF rfl hb152 rfl) rfl ?_
            refine c_p (r_mv rfl) rfl ?_
            rcases Bool.eq_false_or_eq_true (decide (el144.Kind < 1)) with hb153 | hb153
            · replace h129 := itT hb153 h129
              refine nx (pass rfl rfl hb153 rfl ?_)
              refine nx (pass rfl rfl hb153 rfl ?_)
              refine nx (pass rfl rfl hb153 rfl ?_)
              refine c_p (r_pT rfl hb153 rfl) rfl ?_
              refine t_nil ?_
              refine t_then hK150 ?_
              refine t_T rfl rfl ?_
              refine t_seq fun K158 hK159 => ?_
              refine t_region ?_
              refine c_p (r_as rfl) rfl ?_
              refine t_nil ?_
              refine t_then hK159 ?_
              refine t_ret ?_
              exact tr (br (tr (tr (br (tr (ret1 rfl (v_t rfl) (t_leave (hQ _ (Option.some.inj h129)) () rfl (fun w Z hA => V0) .nil)))))))
            · replace h129 := itF hb153 h129
              refine nx (gd rfl rfl hb153 (sp (r_fa (off' := 2) Tryd.underlying46 rfl ti3 rfl rfl) rfl ?_))
              refine nx (gd rfl rfl hb153 (ss (r_ld a0 Tryd.underlying3 rfl rfl rfl) rfl ?_))
              refine nx (gd rfl rfl hb153 (sp (r_i rfl rfl rfl) rfl ?_))
              refine c_p (r_pF rfl hb153 rfl) rfl ?_
              refine t_nil ?_
              refine t_then hK150 ?_
              rcases Bool.eq_false_or_eq_true (decide (el144.Kind > 4)) with hb160 | hb160
              · replace h129 := itT hb160 h129
                refine t_T rfl hb160 ?_
                refine t_seq fun K161 hK162 => ?_
                refine t_region ?_
                refine c_p (r_as rfl) rfl ?_
                refine t_nil ?_
                refine t_then hK162 ?_
                refine t_ret ?_
                exact tr (br (tr (tr (br (tr (ret1 rfl (v_t rfl) (t_leave (hQ _ (Option.some.inj h129)) () rfl (fun w Z hA => V0) .nil)))))))
              · replace h129 := itF hb160 h129
                refine t_F rfl hb160 ?_
                refine t_skip ?_
                refine t_then hK148 ?_
                refine t_seq fun K163 hK164 => ?_
                refine t_quiet mixed (by kernel_rfl) (panic_then (panic_block (panic_then (panic_then (panic_block (panic_then panic_body)))))) ?_
                refine k_p (r_mv rfl) rfl ?_
                refine k_p (r_i rfl rfl rfl) rfl ?_
                refine k_p (r_mv rfl) rfl ?_
                rcases Bool.eq_false_or_eq_true (x127 == 0) with hb165 | hb165
                · replace h129 := itT hb165 h129
                  refine kg_p rfl rfl hb165 (r_fa (off' := 0) Tryd.underlying46 rfl ti3 rfl rfl) rfl ?_
                  refine kg_s rfl rfl hb165 (r_ld a0 Tryd.underlying3 rfl rfl rfl) rfl ?_
                  refine kg_p rfl rfl hb165 (r_i rfl rfl rfl) rfl ?_
                  refine k_p (r_pT rfl hb165 rfl) rfl ?_
                  refine k_p (r_mv rfl) rfl ?_
                  rcases Bool.eq_false_or_eq_true (el144.From != 1) with hb166 | hb166
                  · replace h129 := itT hb166 h129
                    refine k_x rfl rfl hb166 rfl ?_
                    refine k_x rfl rfl hb166 rfl ?_
                    refine k_x rfl rfl hb166 rfl ?_
                    refine k_xU rfl rfl rfl ?_
                    refine k_xU rfl rfl rfl ?_
                    refine k_xU rfl rfl rfl ?_
                    refine k_xU rfl rfl rfl ?_
                    refine k_xU rfl rfl rfl ?_
                    refine k_xU rfl rfl rfl ?_
                    refine k_xU rfl rfl rfl ?_
                    refine k_xU rfl rfl rfl ?_
                    refine k_xU rfl rfl rfl ?_
                    refine k_xU rfl rfl rfl ?_
                    refine k_xU rfl rfl rfl ?_
                    refine k_xU rfl rfl rfl ?_
                    refine k_xU rfl rfl rfl ?_
                    refine k_xU rfl rfl rfl ?_
                    refine k_xU rfl rfl rfl ?_
                    refine k_xU rfl rfl rfl ?_
                    refine k_xU rfl rfl rfl ?_
                    refine k_xU rfl rfl rfl ?_
                    refine k_xU rfl rfl rfl ?_
                    refine k_xU rfl rfl rfl ?_
                    refine k_xU rfl rfl rfl ?_
                    refine k_x rfl rfl hb166 rfl ?_
                    refine k_p (r_pT rfl hb166 rfl) rfl ?_
                    refine k_z ?_
                    refine t_then hK164 ?_
                    refine t_T rfl rfl ?_
                    refine t_seq fun K197 hK198 => ?_
                    refine t_region ?_
                    refine c_p (r_as rfl) rfl ?_
                    refine t_nil ?_
                    refine t_then hK198 ?_
                    refine t_ret ?_
                    exact br (tr (tr (br (tr (ret1 rfl (v_t rfl) (t_leave (hQ _ (Option.some.inj h129)) () rfl (fun w Z hA => V0) .nil))))))
                  · replace h129 := itF hb166 h129
                    refine kg_p rfl rfl hb166 (r_mv rfl) rfl ?_
                    refine kg_p rfl rfl hb166 (r_i rfl rfl rfl) rfl ?_
                    refine kg_p rfl rfl hb166 (r_mv rfl) rfl ?_
                    rcases Bool.eq_false_or_eq_true (decide (x127 > 0)) with hb167 | hb167
                    · replace h129 := itT hb167 h129
                      refine kg_p rfl rfl hb167 (r_mv rfl) rfl ?_
                      refine kg_p rfl rfl hb167 (r_mv rfl) rfl ?_
                      refine kg_p rfl rfl hb167 (r_i rfl rfl rfl) rfl ?_
                      obtain ⟨el172, hel172, h129⟩ := bs h129
                      refine t_q a1 hel172 fun q169 hq170 hm171 => ?_
                      refine kg_p rfl rfl hb167 (r_idx hq170 hm171 hel172 Tryd.underlying23 ti46 rfl rfl) rfl ?_
                      refine t_qf hq170 1 fun q177 hq178 => ?_
                      refine kg_p rfl rfl hb167 (r_fai hq170 hq178 Tryd.underlying46 rfl ti3 rfl rfl) rfl ?_
                      refine t_op k_api_Span_opens a1 hel172 fun t181 => ?_
                      refine kg_s rfl rfl hb167 (r_e1 a0 hq178 Tryd.underlying3 rfl rfl rfl) rfl ?_
                      refine kg_p rfl rfl hb167 (r_fa (off' := 0) Tryd.underlying46 rfl ti3 rfl rfl) rfl ?_
                      refine kg_s rfl rfl hb167 (r_ld a0 Tryd.underlying3 rfl rfl rfl) rfl ?_
                      refine kg_p rfl rfl hb167 (r_i rfl rfl rfl) rfl ?_
                      refine kg_p rfl rfl hb167 (r_i rfl rfl rfl) rfl ?_
                      refine kg_p rfl rfl hb167 (r_mv rfl) rfl ?_
                      rcases Bool.eq_false_or_eq_true (el172.To != (IntKind.wrap .i64 (el144.From - 1))) with hb183 | hb183
                      · replace h129 := itT hb183 h129
                        refine k_x rfl rfl hb183 rfl ?_
                        refine k_x rfl rfl hb183 rfl ?_
                        refine k_x rfl rfl hb183 rfl ?_
                        refine k_x rfl rfl hb183 rfl ?_
                        refine k_x rfl rfl hb183 rfl ?_
                        refine k_x rfl rfl hb183 rfl ?_
                        refine k_x rfl rfl hb183 rfl ?_
                        refine k_x rfl rfl hb183 rfl ?_
                        refine k_x rfl rfl hb183 rfl ?_
                        refine kg_p rfl rfl hb167 (r_pT rfl hb183 rfl) rfl ?_
                        refine kg_p rfl rfl hb166 (r_pT rfl hb167 rfl) rfl ?_
                        refine k_p (r_pF rfl hb166 rfl) rfl ?_
                        refine k_z ?_
                        refine t_then hK164 ?_
                        refine t_T rfl rfl ?_
                        refine t_seq fun K199 hK200 => ?_
                        refine t_region ?_
                        refine c_p (r_as rfl) rfl ?_
                        refine t_nil ?_
                        refine t_then hK200 ?_
                        refine t_ret ?_
                        exact br (tr (tr (br (tr (ret1 rfl (v_t rfl) (t_leave (hQ _ (Option.some.inj h129)) () rfl (fun w Z hA => V0) .nil))))))
                      · replace h129 := itF hb183 h129
                        refine kg_p rfl rfl hb183 (r_mv rfl) rfl ?_
                        refine kg_p rfl rfl hb183 (r_mv rfl) rfl ?_
                        refine kg_p rfl rfl hb183 (r_i rfl rfl rfl) rfl ?_
                        refine t_q a2 hel172 fun q185 hq186 hm187 => ?_
                        refine kg_p rfl rfl hb183 (r_idx hq186 hm187 hel172 Tryd.underlying23 ti46 rfl rfl) rfl ?_
                        refine t_qf hq186 2 fun q191 hq192 => ?_
                        refine kg_p rfl rfl hb183 (r_fai hq186 hq192 Tryd.underlying46 rfl ti3 rfl rfl) rfl ?_
                        refine t_op k_api_Span_opens a2 hel172 fun t195 => ?_
                        refine kg_s rfl rfl hb183 (r_e1 a0 hq192 Tryd.underlying3 rfl rfl rfl) rfl ?_
                        refine kg_p rfl rfl hb183 (r_fa (off' := 2) Tryd.underlying46 rfl ti3 rfl rfl) rfl ?_
                        refine kg_s rfl rfl hb183 (r_ld a0 Tryd.underlying3 rfl rfl rfl) rfl ?_
                        refine kg_p rfl rfl hb183 (r_i rfl rfl rfl) rfl ?_
                        refine kg_p rfl rfl hb167 (r_pF rfl hb183 rfl) rfl ?_
                        refine kg_p rfl rfl hb166 (r_pT rfl hb167 rfl) rfl ?_
                        refine k_p (r_pF rfl hb166 rfl) rfl ?_
                        refine k_z ?_
                        refine t_then hK164 ?_
                        rcases Bool.eq_false_or_eq_true (el172.Kind == el144.Kind) with hb203 | hb203
                        · replace h129 := itT hb203 h129
                          refine t_T rfl hb203 ?_
                          refine t_seq fun K204 hK205 => ?_
                          refine t_region ?_
                          refine c_p (r_as rfl) rfl ?_
                          refine t_nil ?_
                          refine t_then hK205 ?_
                          refine t_ret ?_
                          exact br (tr (tr (br (tr (ret1 rfl (v_t rfl) (t_leave (hQ _ (Option.some.inj h129)) () rfl (fun w Z hA => V0) .nil))))))
                        · replace h129 := itF hb203 h129
                          refine t_F rfl hb203 ?_
                          refine t_skip ?_
                          refine t_blockN ?_
                          refine t_then hK138 ?_
                          refine t_region ?_
                          refine c_p (r_i rfl rfl rfl) rfl ?_
                          refine c_p (r_mv rfl) rfl ?_
                          refine t_nil ?_
                          exact t_norm (t_go (ih131 (IntKind.wrap .i64 (x127 + 1)) h129) ⟨rfl, rfl, rfl, rfl, trivial⟩ .nil (fun w Z hA => V1 a3 hA (V1 a4 hA (V1 a5 hA (V0)))))
                    · replace h129 := itF hb167 h129
                      refine k_x rfl rfl hb167 rfl ?_
                      refine k_x rfl rfl hb167 rfl ?_
                      refine k_x rfl rfl hb167 rfl ?_
                      refine k_x rfl rfl hb167 rfl ?_
                      refine k_x rfl rfl hb167 rfl ?_
                      refine k_x rfl rfl hb167 rfl ?_
                      refine k_x rfl rfl hb167 rfl ?_
                      refine k_x rfl rfl hb167 rfl ?_
                      refine k_x rfl rfl hb167 rfl ?_
                      refine k_x rfl rfl hb167 rfl ?_
                      refine k_x rfl rfl hb167 rfl ?_
                      refine k_xU rfl rfl rfl ?_
                      refine k_xU rfl rfl rfl ?_
                      refine k_xU rfl rfl rfl ?_
                      refine k_xU rfl rfl rfl ?_
                      refine k_xU rfl rfl rfl ?_
                      refine k_xU rfl rfl rfl ?_
                      refine k_xU rfl rfl rfl ?_
                      refine k_xU rfl rfl rfl ?_
                      refine k_xU rfl rfl rfl ?_
                      refine k_x rfl rfl hb167 rfl ?_
                      refine kg_p rfl rfl hb166 (r_pF rfl hb167 rfl) rfl ?_
                      refine k_p (r_pF rfl hb166 rfl) rfl ?_
                      refine k_z ?_
                      refine t_then hK164 ?_
                      refine t_F rfl rfl ?_
                      refine t_skip ?_
                      refine t_blockN ?_
                      refine t_then hK138 ?_
                      refine t_region ?_
                      refine c_p (r_i rfl rfl rfl) rfl ?_
                      refine c_p (r_mv rfl) rfl ?_
                      refine t_nil ?_
                      exact t_norm (t_go (ih131 (IntKind.wrap .i64 (x127 + 1)) h129) ⟨rfl, rfl, rfl, rfl, trivial⟩ .nil (fun w Z hA => V1 a1 hA (V1 a2 hA (V1 a3 hA (V0)))))
                · replace h129 := itF hb165 h129
                  refine k_x rfl rfl hb165 rfl ?_
                  refine k_x rfl rfl hb165 rfl ?_
                  refine k_x rfl rfl hb165 rfl ?_
                  refine k_p (r_pF rfl hb165 rfl) rfl ?_
                  refine k_p (r_mv rfl) rfl ?_
                  refine kg_p rfl rfl rfl (r_mv rfl) rfl ?_
                  refine kg_p rfl rfl rfl (r_i rfl rfl rfl) rfl ?_
                  refine kg_p rfl rfl rfl (r_mv rfl) rfl ?_
                  rcases Bool.eq_false_or_eq_true (decide (x127 > 0)) with hb168 | hb168
                  · replace h129 := itT hb168 h129
                    refine kg_p rfl rfl hb168 (r_mv rfl) rfl ?_
                    refine kg_p rfl rfl hb168 (r_mv rfl) rfl ?_
                    refine kg_p rfl rfl hb168 (r_i rfl rfl rfl) rfl ?_
                    obtain ⟨el176, hel176, h129⟩ := bs h129
                    refine t_q a1 hel176 fun q173 hq174 hm175 => ?_
                    refine kg_p rfl rfl hb168 (r_idx hq174 hm175 hel176 Tryd.underlying23 ti46 rfl rfl) rfl ?_
                    refine t_qf hq174 1 fun q179 hq180 => ?_
                    refine kg_p rfl rfl hb168 (r_fai hq174 hq180 Tryd.underlying46 rfl ti3 rfl rfl) rfl ?_
                    refine t_op k_api_Span_opens a1 hel176 fun t182 => ?_
                    refine kg_s rfl rfl hb168 (r_e1 a0 hq180 Tryd.underlying3 rfl rfl rfl) rfl ?_
                    refine kg_p rfl rfl hb168 (r_fa (off' := 0) Tryd.underlying46 rfl ti3 rfl rfl) rfl ?_
                    refine kg_s rfl rfl hb168 (r_ld a0 Tryd.underlying3 rfl rfl rfl) rfl ?_
                    refine kg_p rfl rfl hb168 (r_i rfl rfl rfl) rfl ?_
                    refine kg_p rfl rfl hb168 (r_i rfl rfl rfl) rfl ?_
                    refine kg_p rfl rfl hb168 (r_mv rfl) rfl ?_
                    rcases Bool.eq_false_or_eq_true (el176.To != (IntKind.wrap .i64 (el144.From - 1))) with hb184 | hb184
                    · replace h129 := itT hb184 h129
                      refine k_x rfl rfl hb184 rfl ?_
                      refine k_x rfl rfl hb184 rfl ?_
                      refine k_x rfl rfl hb184 rfl ?_
                      refine k_x rfl rfl hb184 rfl ?_
                      refine k_x rfl rfl hb184 rfl ?_
                      refine k_x rfl rfl hb184 rfl ?_
                      refine k_x rfl rfl hb184 rfl ?_
                      refine k_x rfl rfl hb184 rfl ?_
                      refine k_x rfl rfl hb184 rfl ?_
                      refine kg_p rfl rfl hb168 (r_pT rfl hb184 rfl) rfl ?_
                      refine kg_p rfl rfl rfl (r_pT rfl hb168 rfl) rfl ?_
                      refine k_p (r_pF rfl rfl rfl) rfl ?_
                      refine k_z ?_
                      refine t_then hK164 ?_
                      refine t_T rfl rfl ?_
                      refine t_seq fun K201 hK202 => ?_
                      refine t_region ?_
                      refine c_p (r_as rfl) rfl ?_
                      refine t_nil ?_
                      refine t_then hK202 ?_
                      refine t_ret ?_
                      exact br (tr (tr (br (tr (ret1 rfl (v_t rfl) (t_leave (hQ _ (Option.some.inj h129)) () rfl (fun w Z hA => V0) .nil))))))
                    · replace h129 := itF hb184 h129
                      refine kg_p rfl rfl hb184 (r_mv rfl) rfl ?_
                      refine kg_p rfl rfl hb184 (r_mv rfl) rfl ?_
                      refine kg_p rfl rfl hb184 (r_i rfl rfl rfl) rfl ?_
                      refine t_q a2 hel176 fun q188 hq189 hm190 => ?_
                      refine kg_p rfl rfl hb184 (r_idx hq189 hm190 hel176 Tryd.underlying23 ti46 rfl rfl) rfl ?_
                      refine t_qf hq189 2 fun q193 hq194 => ?_
                      refine kg_p rfl rfl hb184 (r_fai hq189 hq194 Tryd.underlying46 rfl ti3 rfl rfl) rfl ?_
                      refine t_op k_api_Span_opens a2 hel176 fun t196 => ?_
                      refine kg_s rfl rfl hb184 (r_e1 a0 hq194 Tryd.underlying3 rfl rfl rfl) rfl ?_
                      refine kg_p rfl rfl hb184 (r_fa (off' := 2) Tryd.underlying46 rfl ti3 rfl rfl) rfl ?_
                      refine kg_s rfl rfl hb184 (r_ld a0 Tryd.underlying3 rfl rfl rfl) rfl ?_
                      refine kg_p rfl rfl hb184 (r_i rfl rfl rfl) rfl ?_
                      refine kg_p rfl rfl hb168 (r_pF rfl hb184 rfl) rfl ?_
                      refine kg_p rfl rfl rfl (r_pT rfl hb168 rfl) rfl ?_
                      refine k_p (r_pF rfl rfl rfl) rfl ?_
                      refine k_z ?_
                      refine t_then hK164 ?_
                      rcases Bool.eq_false_or_eq_true (el176.Kind == el144.Kind) with hb206 | hb206
                      · replace h129 := itT hb206 h129
                        refine t_T rfl hb206 ?_
                        refine t_seq fun K207 hK208 => ?_
                        refine t_region ?_
                        refine c_p (r_as rfl) rfl ?_
                        refine t_nil ?_
                        refine t_then hK208 ?_
                        refine t_ret ?_
                        exact br (tr (tr (br (tr (ret1 rfl (v_t rfl) (t_leave (hQ _ (Option.some.inj h129)) () rfl (fun w Z hA => V0) .nil))))))
                      · replace h129 := itF hb206 h129
                        refine t_F rfl hb206 ?_
                        refine t_skip ?_
                        refine t_blockN ?_
                        refine t_then hK138 ?_
                        refine t_region ?_
                        refine c_p (r_i rfl rfl rfl) rfl ?_
                        refine c_p (r_mv rfl) rfl ?_
                        refine t_nil ?_
                        exact t_norm (t_go (ih131 (IntKind.wrap .i64 (x127 + 1)) h129) ⟨rfl, rfl, rfl, rfl, trivial⟩ .nil (fun w Z hA => V1 a3 hA (V1 a4 hA (V1 a5 hA (V0)))))
                  · replace h129 := itF hb168 h129
                    refine k_x rfl rfl hb168 rfl ?_
                    refine k_x rfl rfl hb168 rfl ?_
                    refine k_x rfl rfl hb168 rfl ?_
                    refine k_x rfl rfl hb168 rfl ?_
                    refine k_x rfl rfl hb168 rfl ?_
                    refine k_x rfl rfl hb168 rfl ?_
                    refine k_x rfl rfl hb168 rfl ?_
                    refine k_x rfl rfl hb168 rfl ?_
                    refine k_x rfl rfl hb168 rfl ?_
                    refine k_x rfl rfl hb168 rfl ?_
                    refine k_x rfl rfl hb168 rfl ?_
                    refine k_xU rfl rfl rfl ?_
                    refine k_xU rfl rfl rfl ?_
                    refine k_xU rfl rfl rfl ?_
                    refine k_xU rfl rfl rfl ?_
                    refine k_xU rfl rfl rfl ?_
                    refine k_xU rfl rfl rfl ?_
                    refine k_xU rfl rfl rfl ?_
                    refine k_xU rfl rfl rfl ?_
                    refine k_xU rfl rfl rfl ?_
                    refine k_x rfl rfl hb168 rfl ?_
                    refine kg_p rfl rfl rfl (r_pF rfl hb168 rfl) rfl ?_
                    refine k_p (r_pF rfl rfl rfl) rfl ?_
                    refine k_z ?_
                    refine t_then hK164 ?_
                    refine t_F rfl rfl ?_
                    refine t_skip ?_
                    refine t_blockN ?_
                    refine t_then hK138 ?_
                    refine t_region ?_
                    refine c_p (r_i rfl rfl rfl) rfl ?_
                    refine c_p (r_mv rfl) rfl ?_
                    refine t_nil ?_
                    exact t_norm (t_go (ih131 (IntKind.wrap .i64 (x127 + 1)) h129) ⟨rfl, rfl, rfl, rfl, trivial⟩ .nil (fun w Z hA => V1 a1 hA (V1 a2 hA (V1 a3 hA (V0)))))
      · replace h129 := itF hb136 h129
        refine t_F rfl hb136 ?_
        refine t_exit ?_
        refine te (te (bx ?_))
        refine t_then hK7 ?_
        refine t_seq fun K209 hK210 => ?_
        refine t_region ?_
        refine c_p (r_as rfl) rfl ?_
        refine t_nil ?_
        refine t_then hK210 ?_
        refine t_ret ?_
        exact ret1 rfl (v_t rfl) (t_leave (hQ _ (Option.some.inj h129)) () rfl (fun w Z hA => V0) .nil)
  exact t_go (LP128 ((((z0.length : Int) : Int) - (0)).toNat + 1) 0 h) ⟨rfl, rfl, rfl, rfl, trivial⟩ .nil (fun w Z hA => V1 a0 hA (V1 a1 hA (V1 a2 hA (V0))))
end
end Go.Proofs.YthmjklpmamfncaaDoor.Gx

/- Function 23, kaudit/coverage.join[kaudit/api.Span]: what it answers as a plain function, and that the Go code comes to exactly that (where the plain function gives an answer). -/
set_option linter.unusedVariables false
set_option linter.unusedSimpArgs false
namespace Go.Proofs.YthmjklpmamfncaaDoor.Gx
open Go.Gx Go.RowKit
noncomputable section
/-! ### kaudit/coverage.join[kaudit/api.Span]: function 23 -/
def f_coverage_join_api_Span_l1 (z0 : (List api_Span)) : Nat → List api_Span → Int → Option ((List api_Span))
  | 0, _, _ => none
  | k108 + 1, x104, x105 => if (decide (x105 < (z0.length : Int))) = true then ((at_ z0 x105).bind fun el122 => if (decide ((x104.length : Int) > 0)) = true then ((at_ x104 (IntKind.wrap .i64 ((x104.length : Int) - 1))).bind fun el140 => if (el140.Kind == el122.Kind) = true then (f_coverage_join_api_Span_l1 z0 k108 (x104.set (IntKind.wrap .i64 ((x104.length : Int) - 1)).toNat (⟨el140.From, el122.To, el140.Kind⟩ : api_Span)) (IntKind.wrap .i64 (x105 + 1))) else (ck (fits (x104.length + [el122].length) 24 = true) <| f_coverage_join_api_Span_l1 z0 k108 (x104 ++ [el122]) (IntKind.wrap .i64 (x105 + 1)))) else (ck (fits (x104.length + [el122].length) 24 = true) <| f_coverage_join_api_Span_l1 z0 k108 (x104 ++ [el122]) (IntKind.wrap .i64 (x105 + 1)))) else (some x104)
def f_coverage_join_api_Span (z0 : (List api_Span)) : Option ((List api_Span)) := f_coverage_join_api_Span_l1 z0 ((((z0.length : Int) : Int) - (0)).toNat + 1) ([] : List api_Span) 0
set_option maxHeartbeats 4000000 in
set_option maxRecDepth 100000 in
theorem C23 (z0 : (List api_Span)) (p1 : Option Addr) (m2 : Nat) (c3 : Nat) (r : (List api_Span)) (h : f_coverage_join_api_Span z0 = some r) : FunG Tryd.prog 23 #[.slice p1 m2 c3] [vw (kSlice 46 k_api_Span) z0 [.slice p1 m2 c3], g_pow10, g_kinds] [] (fun t : (Option Addr × Nat × Nat) => .slice t.1 t.2.1 t.2.2) (fun t => []) (fun t => [[row 46 k_api_Span r (.slice t.1 t.2.1 t.2.2)]]) := by
  unfold f_coverage_join_api_Span at h
  refine t_begin (args := [.slice p1 m2 c3]) Tryd.func23 rfl Tryd.ntmps23 rfl fun c R hR => ?_
  have hQ : ∀ X, X = r → ∀ w2 (t : (Option Addr × Nat × Nat)), PostG c.w0 w2 c.M c.Y [] [[row 46 k_api_Span X (.slice t.1 t.2.1 t.2.2)]] → R (.returned (.slice t.1 t.2.1 t.2.2)) w2 := fun X e => by subst e; exact hR
  refine t_seq fun K4 hK5 => ?_
  refine t_region ?_
  refine c_p (r_as rfl) rfl ?_
  refine t_nil ?_
  refine t_then hK5 ?_
  refine t_seq fun K6 hK7 => ?_
  refine t_region ?_
  refine c_p (r_as rfl) rfl ?_
  refine t_nil ?_
  refine t_then hK7 ?_
  refine t_seq fun K8 hK9 => ?_
  refine t_seq fun K10 hK11 => ?_
  refine t_region ?_
  refine c_p (r_mv rfl) rfl ?_
  refine c_s (r_lnA a0 Tryd.underlying23 rfl) rfl ?_
  refine c_p (r_mv rfl) rfl ?_
  refine t_nil ?_
  refine t_then hK11 ?_
  refine t_block ?_
  refine t_nr 46 k_api_Span ?_
  refine t_lp fun k99 hk100 => ?_
  have LP106 : ∀ (k108 : Nat) (p101 : Option Addr) (m102 : Nat) (c103 : Nat) (x104 : List api_Span) (x105 : Int), f_coverage_join_api_Span_l1 z0 k108 x104 x105 = some r → T 44 c [vw (kSlice 46 k_api_Span) z0 [.slice p1 m2 c3], g_pow10, g_kinds] [[row 46 k_api_Span x104 (.slice p101 m102 c103)]] [(3, .slice p101 m102 c103), (9, .slice p1 m2 c3), (10, .int .i64 (z0.length : Int)), (11, .int .i64 x105)] k99 := by
    intro k108
    induction k108 with
    | zero => intro p101 m102 c103 x104 x105 h107; rewrite [f_coverage_join_api_Span_l1] at h107; cases h107
    | succ k108 ih109 =>
      intro p101 m102 c103 x104 x105 h107
      rewrite [f_coverage_join_api_Span_l1] at h107
      refine ti hk100 ?_
      refine t_seq fun K110 hK111 => ?_
      refine t_region ?_
      refine c_p (r_i rfl rfl rfl) rfl ?_
      refine t_nil ?_
      refine t_then hK111 ?_
      refine t_seq fun K112 hK113 => ?_
      rcases Bool.eq_false_or_eq_true (decide (x105 < (z0.length : Int))) with hb114 | hb114
      · replace h107 := itT hb114 h107
        refine t_T rfl hb114 ?_
        refine t_skip ?_
        refine t_then hK113 ?_
        refine t_seq fun K115 hK116 => ?_
        refine t_block ?_
        refine t_seq fun K117 hK118 => ?_
        refine t_region ?_
        obtain ⟨el122, hel122, h107⟩ := bs h107
        refine t_q a0 hel122 fun q119 hq120 hm121 => ?_
        refine c_p (r_idx hq120 hm121 hel122 Tryd.underlying23 ti46 rfl rfl) rfl ?_
        refine t_op k_api_Span_opens a0 hel122 fun t123 => ?_
        refine c_s (r_eA a0 hq120 Tryd.underlying46 rfl ti46 rfl rfl) rfl ?_
        refine nx (t_al (cs := [.int .i64 0, .int .i64 0, .int .i64 0]) ti46 rfl rfl fun g124 => ?_)
        refine nx (t_st u0 ti46 rfl rfl rfl rfl rfl (.t (.s (.s (.s .z)))) ?_)
        refine t_nil ?_
        refine t_then hK118 ?_
        refine t_seq fun K125 hK126 => ?_
        refine t_region ?_
        refine c_s (r_ldA a0 Tryd.underlying46 rfl ti46 rfl rfl) rfl ?_
        refine nx (t_al (cs := [.int .i64 0, .int .i64 0, .int .i64 0]) ti45 rfl rfl fun g127 => ?_)
        refine nx (t_st u0 ti45 rfl rfl rfl rfl rfl (.t (.s (.s (.s .z)))) ?_)
        refine t_nil ?_
        refine t_then hK126 ?_
        refine t_seq fun K128 hK129 => ?_
        refine t_seq fun K130 hK131 => ?_
        refine t_region ?_
        refine c_p (r_mv rfl) rfl ?_
        refine c_s (r_lnL a2 Tryd.underlying23 rfl) rfl ?_
        refine c_p (r_as rfl) rfl ?_
        refine t_nil ?_
        refine t_then hK131 ?_
        refine t_seq fun K132 hK133 => ?_
        refine t_region ?_
        refine c_p (r_mv rfl) rfl ?_
        refine c_p (r_i rfl rfl rfl) rfl ?_
        refine t_nil ?_
        refine t_then hK133 ?_
        rcases Bool.eq_false_or_eq_true (decide ((x104.length : Int) > 0)) with hb134 | hb134
        · replace h107 := itT hb134 h107
          refine t_T rfl hb134 ?_
          refine t_seq fun K135 hK136 => ?_
          refine t_region ?_
          refine c_p (r_mv rfl) rfl ?_
          refine c_p (r_mv rfl) rfl ?_
          refine c_p (r_i rfl rfl rfl) rfl ?_
          obtain ⟨el140, hel140, h107⟩ := bs h107
          refine t_qL a2 hel140 fun q137 hq138 hm139 => ?_
          refine c_p (r_idx hq138 hm139 hel140 Tryd.underlying23 ti46 rfl rfl) rfl ?_
          refine t_oI k_api_Span_opensO e2 hel140 fun t141 => ?_
          refine c_s (r_hA a0 hq138 Tryd.underlying46 rfl ti46 rfl rfl) rfl ?_
          refine nx (t_al (cs := [.int .i64 0, .int .i64 0, .int .i64 0]) ti45 rfl rfl fun g142 => ?_)
          refine nx (t_st u0 ti45 rfl rfl rfl rfl rfl (.t (.s (.s (.s .z)))) ?_)
          refine t_nil ?_
          refine t_then hK136 ?_
          refine t_seq fun K143 hK144 => ?_
          refine t_region ?_
          refine c_p (r_fa (off' := 2) Tryd.underlying45 rfl ti3 rfl rfl) rfl ?_
          refine c_s (r_ld a0 Tryd.underlying3 rfl rfl rfl) rfl ?_
          refine c_p (r_fa (off' := 2) Tryd.underlying45 rfl ti3 rfl rfl) rfl ?_
          refine c_s (r_ld a2 Tryd.underlying3 rfl rfl rfl) rfl ?_
          refine c_p (r_i rfl rfl rfl) rfl ?_
          refine t_nil ?_
          refine t_then hK144 ?_
          rcases Bool.eq_false_or_eq_true (el140.Kind == el122.Kind) with hb145 | hb145
          · replace h107 := itT hb145 h107
            refine t_T rfl hb145 ?_
            refine t_seq fun K146 hK147 => ?_
            refine t_region ?_
            refine c_p (r_fa (off' := 1) Tryd.underlying45 rfl ti3 rfl rfl) rfl ?_
            refine c_s (r_ld a2 Tryd.underlying3 rfl rfl rfl) rfl ?_
            refine c_p (r_fa (off' := 1) Tryd.underlying45 rfl ti3 rfl rfl) rfl ?_
            refine nx (t_st u0 ti3 rfl rfl rfl rfl rfl (.s (.t (.s .z))) ?_)
            refine t_nil ?_
            refine t_then hK147 ?_
            refine t_seq fun K148 hK149 => ?_
            refine t_region ?_
            refine c_p (r_mv rfl) rfl ?_
            refine c_p (r_mv rfl) rfl ?_
            refine c_p (r_i rfl rfl rfl) rfl ?_
            refine c_s (r_ldA a0 Tryd.underlying45 rfl ti45 rfl rfl) rfl ?_
            refine t_qH a1 hel140 fun q150 hq151 hm152 => ?_
            refine c_p (r_idx hq151 hm152 hel140 Tryd.underlying23 ti46 rfl rfl) rfl ?_
            refine nx (t_hs u1 hq151 ti46 rfl rfl rfl rfl rfl (.t (.s (.s (.s .z)))) ?_)
            refine t_nil ?_
            refine t_then hK149 ?_
            refine t_exit ?_
            refine te (bx ?_)
            refine t_then hK116 ?_
            refine t_region ?_
            refine c_p (r_i rfl rfl rfl) rfl ?_
            refine c_p (r_mv rfl) rfl ?_
            refine t_nil ?_
            refine t_cI (u := (⟨el140.From, el122.To, el140.Kind⟩ : api_Span)) (t := ()) k_api_Span_shutsO (.cons e1 .nil) rfl (fun w Z hA => trivial) ?_
            have hn159 := at_set (u' := (⟨el140.From, el122.To, el140.Kind⟩ : api_Span)) hel140
            exact t_norm (t_go (ih109 p101 m102 c103 (x104.set (IntKind.wrap .i64 ((x104.length : Int) - 1)).toNat (⟨el140.From, el122.To, el140.Kind⟩ : api_Span)) (IntKind.wrap .i64 (x105 + 1)) h107) ⟨rfl, rfl, rfl, rfl, trivial⟩ (.cons e0 .nil) (fun w Z hA => V1 a1 hA (V1 a2 hA (V1 a3 hA (V0)))))
          · replace h107 := itF hb145 h107
            refine t_F rfl hb145 ?_
            refine t_skip ?_
            refine t_then hK129 ?_
            refine t_region ?_
            refine c_p (r_mv rfl) rfl ?_
            refine c_s (r_ldA a3 Tryd.underlying46 rfl ti46 rfl rfl) rfl ?_
            refine nx (t_bs (ps := [(0, .agg #[.int .i64 el122.From, .int .i64 el122.To, .int .i64 el122.Kind])]) (cs := [.int .i64 el122.From, .int .i64 el122.To, .int .i64 el122.Kind]) Tryd.underlying23 ti46 rfl rfl (by kernel_rfl) rfl fun g153 => ?_)
            refine t_cS (u := el140) (t := ()) k_api_Span_shutsO hel140 (.cons e2 .nil) rfl (fun w Z hA => trivial) ?_
            obtain ⟨hc154, h107⟩ := ck_out h107
            refine nx (t_app (Kd := k_api_Span) (xs := x104) (ys := [el122]) (.cons e0 .nil) rfl rfl Tryd.underlying23 Tryd.underlying23 ti46 rfl rfl hc154 (srcB a1 (fun w Z S hA hN => flat_EO (S := Nil) k_api_Span_flatK (er1 (c1 := [.int .i64 el122.From, .int .i64 el122.To, .int .i64 el122.Kind]) (k_api_Span_shuts (x := el122) (t := ()) trivial) er0))) rfl fun t155 => ?_)
            refine c_p (r_as rfl) rfl ?_
            refine t_nil ?_
            refine t_blockN ?_
            refine t_then hK116 ?_
            refine t_region ?_
            refine c_p (r_i rfl rfl rfl) rfl ?_
            refine c_p (r_mv rfl) rfl ?_
            refine t_nil ?_
            exact t_norm (t_go (ih109 t155.1 t155.2.1 t155.2.2 (x104 ++ [el122]) (IntKind.wrap .i64 (x105 + 1)) h107) ⟨rfl, rfl, rfl, rfl, trivial⟩ (.cons e0 .nil) (fun w Z hA => V1 a1 hA (V1 a2 hA (V1 a3 hA (V0)))))
        · replace h107 := itF hb134 h107
          refine t_F rfl hb134 ?_
          refine t_skip ?_
          refine t_then hK129 ?_
          refine t_region ?_
          refine c_p (r_mv rfl) rfl ?_
          refine c_s (r_ldA a1 Tryd.underlying46 rfl ti46 rfl rfl) rfl ?_
          refine nx (t_bs (ps := [(0, .agg #[.int .i64 el122.From, .int .i64 el122.To, .int .i64 el122.Kind])]) (cs := [.int .i64 el122.From, .int .i64 el122.To, .int .i64 el122.Kind]) Tryd.underlying23 ti46 rfl rfl (by kernel_rfl) rfl fun g156 => ?_)
          obtain ⟨hc157, h107⟩ := ck_out h107
          refine nx (t_app (Kd := k_api_Span) (xs := x104) (ys := [el122]) (.cons e3 .nil) rfl rfl Tryd.underlying23 Tryd.underlying23 ti46 rfl rfl hc157 (srcB a0 (fun w Z S hA hN => flat_EO (S := Nil) k_api_Span_flatK (er1 (c1 := [.int .i64 el122.From, .int .i64 el122.To, .int .i64 el122.Kind]) (k_api_Span_shuts (x := el122) (t := ()) trivial) er0))) rfl fun t158 => ?_)
          refine c_p (r_as rfl) rfl ?_
          refine t_nil ?_
          refine t_blockN ?_
          refine t_then hK116 ?_
          refine t_region ?_
          refine c_p (r_i rfl rfl rfl) rfl ?_
          refine c_p (r_mv rfl) rfl ?_
          refine t_nil ?_
          exact t_norm (t_go (ih109 t158.1 t158.2.1 t158.2.2 (x104 ++ [el122]) (IntKind.wrap .i64 (x105 + 1)) h107) ⟨rfl, rfl, rfl, rfl, trivial⟩ (.cons e0 .nil) (fun w Z hA => V1 a1 hA (V1 a2 hA (V1 a3 hA (V0)))))
      · replace h107 := itF hb114 h107
        refine t_F rfl hb114 ?_
        refine t_exit ?_
        refine te (te (bx ?_))
        refine t_then hK9 ?_
        refine t_seq fun K160 hK161 => ?_
        refine t_region ?_
        refine c_p (r_mv rfl) rfl ?_
        refine c_p (r_as rfl) rfl ?_
        refine t_nil ?_
        refine t_then hK161 ?_
        refine t_ret ?_
        exact ret1 rfl (v_t rfl) (t_leave (hQ _ (Option.some.inj h107)) (p101, m102, c103) rfl (fun w Z hA => V0) (.cons e0 .nil))
  exact t_go (LP106 ((((z0.length : Int) : Int) - (0)).toNat + 1) none 0 0 ([] : List api_Span) 0 h) ⟨rfl, rfl, rfl, rfl, trivial⟩ (.cons e0 .nil) (fun w Z hA => V1 a0 hA (V1 a1 hA (V1 a2 hA (V0))))
end
end Go.Proofs.YthmjklpmamfncaaDoor.Gx

/- Function 11, kaudit/coverage.Merge: what it answers as a plain function, and that the Go code comes to exactly that (where the plain function gives an answer). -/
set_option linter.unusedVariables false
set_option linter.unusedSimpArgs false
namespace Go.Proofs.YthmjklpmamfncaaDoor.Gx
open Go.Gx Go.RowKit
noncomputable section
/-! ### kaudit/coverage.Merge: function 11 -/
def f_coverage_Merge_j4 (x280 : List api_Span) (x281 : Int) (x337 : Int) (x365 : Int) (rec_f_coverage_Merge_l1 : List api_Span → Int → Int → Int → Option ((List api_Span))) (x394 : Int) (x395 : Int) : Option ((List api_Span)) := ck (fits (x280.length + [(⟨x281, x337, x395⟩ : api_Span)].length) 24 = true) <| rec_f_coverage_Merge_l1 (x280 ++ [(⟨x281, x337, x395⟩ : api_Span)]) (IntKind.wrap .i64 (x337 + 1)) x365 x394
def f_coverage_Merge_j3 (z1 : (List api_Span)) (x280 : List api_Span) (x281 : Int) (x283 : Int) (x337 : Int) (rec_f_coverage_Merge_l1 : List api_Span → Int → Int → Int → Option ((List api_Span))) (x365 : Int) (x366 : Int) : Option ((List api_Span)) := if (decide (x283 < (z1.length : Int))) = true then ((at_ z1 x283).bind fun el381 => if (el381.To == x337) = true then (f_coverage_Merge_j4 x280 x281 x337 x365 rec_f_coverage_Merge_l1 (IntKind.wrap .i64 (x283 + 1)) (min x366 el381.Kind)) else (f_coverage_Merge_j4 x280 x281 x337 x365 rec_f_coverage_Merge_l1 x283 (min x366 el381.Kind))) else (f_coverage_Merge_j4 x280 x281 x337 x365 rec_f_coverage_Merge_l1 x283 x366)
def f_coverage_Merge_j2 (z0 : (List api_Span)) (z1 : (List api_Span)) (x280 : List api_Span) (x281 : Int) (x282 : Int) (x283 : Int) (rec_f_coverage_Merge_l1 : List api_Span → Int → Int → Int → Option ((List api_Span))) (x337 : Int) : Option ((List api_Span)) := if (decide (x282 < (z0.length : Int))) = true then ((at_ z0 x282).bind fun el352 => if (el352.To == x337) = true then (f_coverage_Merge_j3 z1 x280 x281 x283 x337 rec_f_coverage_Merge_l1 (IntKind.wrap .i64 (x282 + 1)) (min (4 : Int) el352.Kind)) else (f_coverage_Merge_j3 z1 x280 x281 x283 x337 rec_f_coverage_Merge_l1 x282 (min (4 : Int) el352.Kind))) else (f_coverage_Merge_j3 z1 x280 x281 x283 x337 rec_f_coverage_Merge_l1 x282 4)
def f_coverage_Merge_j1 (z0 : (List api_Span)) (z1 : (List api_Span)) (x280 : List api_Span) (x281 : Int) (x282 : Int) (x283 : Int) (rec_f_coverage_Merge_l1 : List api_Span → Int → Int → Int → Option ((List api_Span))) : Option ((List api_Span)) := if (x282 == (z0.length : Int)) = true then ((at_ z1 x283).bind fun el307 => f_coverage_Merge_j2 z0 z1 x280 x281 x282 x283 rec_f_coverage_Merge_l1 el307.To) else (if (x283 == (z1.length : Int)) = true then ((at_ z0 x282).bind fun el317 => f_coverage_Merge_j2 z0 z1 x280 x281 x282 x283 rec_f_coverage_Merge_l1 el317.To) else ((at_ z0 x282).bind fun el326 => (at_ z1 x283).bind fun el333 => f_coverage_Merge_j2 z0 z1 x280 x281 x282 x283 rec_f_coverage_Merge_l1 (min el326.To el333.To)))
def f_coverage_Merge_j5 (x406 : List api_Span) : Option ((List api_Span)) := (f_coverage_join_api_Span x406).bind fun y411 => some y411
def f_coverage_Merge_l1 (z0 : (List api_Span)) (z1 : (List api_Span)) : Nat → List api_Span → Int → Int → Int → Option ((List api_Span))
  | 0, _, _, _, _ => none
  | k286 + 1, x280, x281, x282, x283 => if (decide (x282 < (z0.length : Int))) = true then (f_coverage_Merge_j1 z0 z1 x280 x281 x282 x283 (f_coverage_Merge_l1 z0 z1 k286)) else (if (decide (x283 < (z1.length : Int))) = true then (f_coverage_Merge_j1 z0 z1 x280 x281 x282 x283 (f_coverage_Merge_l1 z0 z1 k286)) else (f_coverage_Merge_j5 x280))
def f_coverage_Merge (z0 : (List api_Span)) (z1 : (List api_Span)) : Option ((List api_Span)) := (f_coverage_Proper z0).bind fun y13 => if y13 = true then ((f_coverage_Proper z1).bind fun y16 => if y16 = true then (f_coverage_Merge_l1 z0 z1 (z0.length + z1.length + 1) ([] : List api_Span) 1 0 0) else (some ([] : List api_Span))) else (some ([] : List api_Span))
set_option maxHeartbeats 4000000 in
set_option maxRecDepth 100000 in
theorem C11 (z0 : (List api_Span)) (z1 : (List api_Span)) (p1 : Option Addr) (m2 : Nat) (c3 : Nat) (p4 : Option Addr) (m5 : Nat) (c6 : Nat) (r : (List api_Span)) (h : f_coverage_Merge z0 z1 = some r) : FunG Tryd.prog 11 #[.slice p1 m2 c3, .slice p4 m5 c6] [vw (kSlice 46 k_api_Span) z0 [.slice p1 m2 c3], vw (kSlice 46 k_api_Span) z1 [.slice p4 m5 c6], g_pow10, g_kinds] [] (fun t : (Option Addr × Nat × Nat) => .slice t.1 t.2.1 t.2.2) (fun t => []) (fun t => [[row 46 k_api_Span r (.slice t.1 t.2.1 t.2.2)]]) := by
  unfold f_coverage_Merge at h
  refine t_begin (args := [.slice p1 m2 c3, .slice p4 m5 c6]) Tryd.func11 rfl Tryd.ntmps11 rfl fun c R hR => ?_
  have hQ : ∀ X, X = r → ∀ w2 (t : (Option Addr × Nat × Nat)), PostG c.w0 w2 c.M c.Y [] [[row 46 k_api_Span X (.slice t.1 t.2.1 t.2.2)]] → R (.returned (.slice t.1 t.2.1 t.2.2)) w2 := fun X e => by subst e; exact hR
  refine t_seq fun K7 hK8 => ?_
  refine t_region ?_
  refine c_p (r_as rfl) rfl ?_
  refine t_nil ?_
  refine t_then hK8 ?_
  refine t_seq fun K9 hK10 => ?_
  refine t_seq fun K11 hK12 => ?_
  refine t_region ?_
  refine c_p (r_mv rfl) rfl ?_
  obtain ⟨y13, hy13, h⟩ := bs h
  refine nx (t_ca (C8 _ _ _ _ _ hy13) Tryd.func8 nm8 rfl rfl rfl .nil (fun w Z hA => (V1 a0 hA (V1 a2 hA (V1 a3 hA V0)))) rfl fun t14 => ?_)
  refine c_p (r_not rfl) rfl ?_
  refine c_p (r_mv rfl) rfl ?_
  rcases Bool.eq_false_or_eq_true y13 with hb15 | hb15
  · replace h := itT hb15 h
    refine nx (gd rfl rfl (congrArg Bool.not hb15) (sp (r_mv rfl) rfl ?_))
    obtain ⟨y16, hy16, h⟩ := bs h
    refine nx (gd rfl rfl (congrArg Bool.not hb15) (t_ca (C8 _ _ _ _ _ hy16) Tryd.func8 nm8 rfl rfl rfl .nil (fun w Z hA => (V1 a1 hA (V1 a2 hA (V1 a3 hA V0)))) rfl fun t17 => ?_))
    refine nx (gd rfl rfl (congrArg Bool.not hb15) (sp (r_not rfl) rfl ?_))
    refine c_p (r_pF rfl (congrArg Bool.not hb15) rfl) rfl ?_
    refine t_nil ?_
    refine t_then hK12 ?_
    rcases Bool.eq_false_or_eq_true y16 with hb18 | hb18
    · replace h := itT hb18 h
      refine t_F rfl (congrArg Bool.not hb18) ?_
      refine t_skip ?_
      refine t_then hK10 ?_
      refine t_seq fun K23 hK24 => ?_
      refine t_region ?_
      refine c_p (r_as rfl) rfl ?_
      refine t_nil ?_
      refine t_then hK24 ?_
      refine t_seq fun K25 hK26 => ?_
      refine t_region ?_
      refine c_p (r_as rfl) rfl ?_
      refine t_nil ?_
      refine t_then hK26 ?_
      refine t_seq fun K27 hK28 => ?_
      have J407 : ∀ (p403 : Option Addr) (m404 : Nat) (c405 : Nat) (x406 : List api_Span), f_coverage_Merge_j5 x406 = some r → T 119 c [g_pow10, g_kinds] [[row 46 k_api_Span x406 (.slice p403 m404 c405)]] [(5, .slice p403 m404 c405)] K27 := by
        intro p403 m404 c405 x406 h408
        unfold f_coverage_Merge_j5 at h408
        refine ti hK28 ?_
        refine t_seq fun K409 hK410 => ?_
        refine t_region ?_
        refine c_p (r_mv rfl) rfl ?_
        obtain ⟨y411, hy411, h408⟩ := bs h408
        refine nx (t_cf (C23 _ _ _ _ _ hy411) (fun _ => (flat_cons (indK_slice 46 k_api_Span_indK) flat_nil)) Tryd.func23 nm23 rfl rfl rfl .nil (fun w Z S hA hL => (FL a0 hL (F1 a0 hA (F1 a1 hA F0)))) rfl fun t412 => ?_)
        refine c_p (r_as rfl) rfl ?_
        refine t_nil ?_
        refine t_then hK410 ?_
        refine t_ret ?_
        exact ret1 rfl (v_t rfl) (t_leave (hQ _ (Option.some.inj h408)) (t412.1, t412.2.1, t412.2.2) rfl (fun w Z hA => V0) (.cons e0 .nil))
      refine t_seq fun K29 hK30 => ?_
      refine t_region ?_
      refine c_p (r_as rfl) rfl ?_
      refine c_p (r_as rfl) rfl ?_
      refine t_nil ?_
      refine t_then hK30 ?_
      refine t_block ?_
      refine t_nr 46 k_api_Span ?_
      refine t_lp fun k275 hk276 => ?_
      have LP284 : ∀ (k286 : Nat) (p277 : Option Addr) (m278 : Nat) (c279 : Nat) (x280 : List api_Span) (x281 : Int) (x282 : Int) (x283 : Int), f_coverage_Merge_l1 z0 z1 k286 x280 x281 x282 x283 = some r → T 119 c [vw (kSlice 46 k_api_Span) z0 [.slice p1 m2 c3], vw (kSlice 46 k_api_Span) z1 [.slice p4 m5 c6], g_pow10, g_kinds] [[row 46 k_api_Span x280 (.slice p277 m278 c279)]] [(0, .slice p1 m2 c3), (1, .slice p4 m5 c6), (5, .slice p277 m278 c279), (6, .int .i64 x281), (7, .int .i64 x282), (8, .int .i64 x283)] k275 := by
        intro k286
        induction k286 with
        | zero => intro p277 m278 c279 x280 x281 x282 x283 h285; rewrite [f_coverage_Merge_l1] at h285; cases h285
        | succ k286 ih287 =>
          intro p277 m278 c279 x280 x281 x282 x283 h285
          rewrite [f_coverage_Merge_l1] at h285
          refine ti hk276 ?_
          refine t_seq fun K288 hK289 => ?_
          have J294 : f_coverage_Merge_j1 z0 z1 x280 x281 x282 x283 (f_coverage_Merge_l1 z0 z1 k286) = some r → T 119 c [vw (kSlice 46 k_api_Span) z0 [.slice p1 m2 c3], vw (kSlice 46 k_api_Span) z1 [.slice p4 m5 c6], g_pow10, g_kinds] [[row 46 k_api_Span x280 (.slice p277 m278 c279)]] [(0, .slice p1 m2 c3), (1, .slice p4 m5 c6), (5, .slice p277 m278 c279), (6, .int .i64 x281), (7, .int .i64 x282), (8, .int .i64 x283)] K288 := by
            intro h295
            unfold f_coverage_Merge_j1 at h295
            refine ti hK289 ?_
            refine t_block ?_
            refine t_seq fun K296 hK297 => ?_
            refine t_region ?_
            refine c_p (r_mv rfl) rfl ?_
            refine c_p (r_bu (ps := [(0, .int .i64 x281), (2, .int .i64 4)]) (cs := [.int .i64 x281, .int .i64 0, .int .i64 4]) rfl (by kernel_rfl)) rfl ?_
            refine nx (t_al (cs := [.int .i64 0, .int .i64 0, .int .i64 0]) ti46 rfl rfl fun g298 => ?_)
            refine nx (t_st u0 ti46 rfl rfl rfl rfl rfl (.t (.s (.s (.s .z)))) ?_)
            refine t_nil ?_
            refine t_then hK297 ?_
            refine t_seq fun K299 hK300 => ?_
            have J338 : ∀ (x337 : Int), f_coverage_Merge_j2 z0 z1 x280 x281 x282 x283 (f_coverage_Merge_l1 z0 z1 k286) x337 = some r → T 119 c [vw (kSlice 46 k_api_Span) z0 [.slice p1 m2 c3], vw (kSlice 46 k_api_Span) z1 [.slice p4 m5 c6], g_pow10, g_kinds] [[row 46 k_api_Span x280 (.slice p277 m278 c279)], [blk g298 [.int .i64 x281, .int .i64 x337, .int .i64 4] 46]] [(0, .slice p1 m2 c3), (1, .slice p4 m5 c6), (5, .slice p277 m278 c279), (7, .int .i64 x282), (8, .int .i64 x283), (9, .pointer (some ⟨g298, 0, none⟩))] K299 := by
              intro x337 h339
              unfold f_coverage_Merge_j2 at h339
              refine ti hK300 ?_
              refine t_seq fun K340 hK341 => ?_
              have J367 : ∀ (x365 : Int) (x366 : Int), f_coverage_Merge_j3 z1 x280 x281 x283 x337 (f_coverage_Merge_l1 z0 z1 k286) x365 x366 = some r → T 119 c [vw (kSlice 46 k_api_Span) z0 [.slice p1 m2 c3], vw (kSlice 46 k_api_Span) z1 [.slice p4 m5 c6], g_pow10, g_kinds] [[row 46 k_api_Span x280 (.slice p277 m278 c279)], [blk g298 [.int .i64 x281, .int .i64 x337, .int .i64 x366] 46]] [(0, .slice p1 m2 c3), (1, .slice p4 m5 c6), (5, .slice p277 m278 c279), (7, .int .i64 x365), (8, .int .i64 x283), (9, .pointer (some ⟨g298, 0, none⟩))] K340 := by
                intro x365 x366 h368
                unfold f_coverage_Merge_j3 at h368
                refine ti hK341 ?_
                refine t_seq fun K369 hK370 => ?_
                have J396 : ∀ (x394 : Int) (x395 : Int), f_coverage_Merge_j4 x280 x281 x337 x365 (f_coverage_Merge_l1 z0 z1 k286) x394 x395 = some r → T 119 c [vw (kSlice 46 k_api_Span) z0 [.slice p1 m2 c3], vw (kSlice 46 k_api_Span) z1 [.slice p4 m5 c6], g_pow10, g_kinds] [[row 46 k_api_Span x280 (.slice p277 m278 c279)], [blk g298 [.int .i64 x281, .int .i64 x337, .int .i64 x395] 46]] [(0, .slice p1 m2 c3), (1, .slice p4 m5 c6), (5, .slice p277 m278 c279), (7, .int .i64 x365), (8, .int .i64 x394), (9, .pointer (some ⟨g298, 0, none⟩))] K369 := by
                  intro x394 x395 h397
                  unfold f_coverage_Merge_j4 at h397
                  refine ti hK370 ?_
                  refine t_seq fun K398 hK399 => ?_
                  refine t_region ?_
                  refine c_p (r_mv rfl) rfl ?_
                  refine c_s (r_ldA a1 Tryd.underlying46 rfl ti46 rfl rfl) rfl ?_
                  refine nx (t_bs (ps := [(0, .agg #[.int .i64 x281, .int .i64 x337, .int .i64 x395])]) (cs := [.int .i64 x281, .int .i64 x337, .int .i64 x395]) Tryd.underlying23 ti46 rfl rfl (by kernel_rfl) rfl fun g400 => ?_)
                  obtain ⟨hc401, h397⟩ := ck_out h397
                  refine nx (t_app (Kd := k_api_Span) (xs := x280) (ys := [(⟨x281, x337, x395⟩ : api_Span)]) (.cons e1 .nil) rfl rfl Tryd.underlying23 Tryd.underlying23 ti46 rfl rfl hc401 (srcB a0 (fun w Z S hA hN => flat_EO (S := Nil) k_api_Span_flatK (er1 (c1 := [.int .i64 x281, .int .i64 x337, .int .i64 x395]) (k_api_Span_shuts (x := (⟨x281, x337, x395⟩ : api_Span)) (t := ()) trivial) er0))) rfl fun t402 => ?_)
                  refine c_p (r_as rfl) rfl ?_
                  refine t_nil ?_
                  refine t_then hK399 ?_
                  refine t_region ?_
                  refine c_p (r_fa (off' := 1) Tryd.underlying46 rfl ti3 rfl rfl) rfl ?_
                  refine c_s (r_ld a2 Tryd.underlying3 rfl rfl rfl) rfl ?_
                  refine c_p (r_i rfl rfl rfl) rfl ?_
                  refine c_p (r_as rfl) rfl ?_
                  refine t_nil ?_
                  refine t_blockN ?_
                  exact t_norm (t_go (ih287 t402.1 t402.2.1 t402.2.2 (x280 ++ [(⟨x281, x337, x395⟩ : api_Span)]) (IntKind.wrap .i64 (x337 + 1)) x365 x394 h397) ⟨rfl, rfl, rfl, rfl, rfl, rfl, trivial⟩ (.cons e0 .nil) (fun w Z hA => V1 a0 hA (V1 a1 hA (V1 a2 hA (V1 a3 hA (V0))))))
                refine t_seq fun K371 hK372 => ?_
                refine t_region ?_
                refine c_p (r_mv rfl) rfl ?_
                refine c_p (r_mv rfl) rfl ?_
                refine c_s (r_lnA a1 Tryd.underlying23 rfl) rfl ?_
                refine c_p (r_i rfl rfl rfl) rfl ?_
                refine t_nil ?_
                refine t_then hK372 ?_
                rcases Bool.eq_false_or_eq_true (decide (x283 < (z1.length : Int))) with hb373 | hb373
                · replace h368 := itT hb373 h368
                  refine t_T rfl hb373 ?_
                  refine t_seq fun K374 hK375 => ?_
                  refine t_draw mixed (fun w_ => True) [] [9] rfl ?_
                  refine q_p 0 (panic_then (panic_then (panic_block (panic_then (panic_block (panic_then panic_body)))))) rfl (by kernel_rfl) W0 (r_fa (off' := 2) Tryd.underlying46 rfl ti3 rfl rfl) rfl ?_
                  refine q_u 1 (panic_then (panic_then (panic_block (panic_then (panic_block (panic_then panic_body)))))) rfl (by kernel_rfl) W0 (by kernel_rfl) (r_ld a1 Tryd.underlying3 rfl rfl rfl) rfl ?_
                  refine q_p 2 (panic_then (panic_then (panic_block (panic_then (panic_block (panic_then panic_body)))))) rfl (by kernel_rfl) W0 (r_mv rfl) rfl ?_
                  refine q_p 3 (panic_then (panic_then (panic_block (panic_then (panic_block (panic_then panic_body)))))) rfl (by kernel_rfl) W0 (r_mv rfl) rfl ?_
                  obtain ⟨el381, hel381, h368⟩ := bs h368
                  refine t_q a1 hel381 fun q378 hq379 hm380 => ?_
                  refine q_p 4 (panic_then (panic_then (panic_block (panic_then (panic_block (panic_then panic_body)))))) rfl (by kernel_rfl) W0 (r_idx hq379 hm380 hel381 Tryd.underlying23 ti46 rfl rfl) rfl ?_
                  refine t_qf hq379 2 fun q382 hq383 => ?_
                  refine q_p 5 (panic_then (panic_then (panic_block (panic_then (panic_block (panic_then panic_body)))))) rfl (by kernel_rfl) W0 (r_fai hq379 hq383 Tryd.underlying46 rfl ti3 rfl rfl) rfl ?_
                  refine t_op k_api_Span_opens a1 hel381 fun t384 => ?_
                  refine q_u 6 (panic_then (panic_then (panic_block (panic_then (panic_block (panic_then panic_body)))))) rfl (by kernel_rfl) W0 (by kernel_rfl) (r_e1 a0 hq383 Tryd.underlying3 rfl rfl rfl) rfl ?_
                  refine q_p 7 (panic_then (panic_then (panic_block (panic_then (panic_block (panic_then panic_body)))))) rfl (by kernel_rfl) W0 (r_min rfl rfl) rfl ?_
                  refine q_p 8 (panic_then (panic_then (panic_block (panic_then (panic_block (panic_then panic_body)))))) rfl (by kernel_rfl) W0 (r_fa (off' := 2) Tryd.underlying46 rfl ti3 rfl rfl) rfl ?_
                  refine d1 9 rfl (by kernel_rfl) (by kernel_rfl) ?_
                  refine t_st u1 ti3 rfl rfl rfl rfl rfl (.s (.s (.t (.s .z)))) ?_
                  refine dn (by kernel_rfl) ?_
                  refine dz (by kernel_rfl) ?_
                  refine t_then hK375 ?_
                  refine t_seq fun K385 hK386 => ?_
                  refine t_quiet mixed (by kernel_rfl) (panic_then (panic_then (panic_block (panic_then (panic_block (panic_then panic_body)))))) ?_
                  refine k_p (r_mv rfl) rfl ?_
                  refine k_p (r_mv rfl) rfl ?_
                  refine t_q a2 hel381 fun q387 hq388 hm389 => ?_
                  refine k_p (r_idx hq388 hm389 hel381 Tryd.underlying23 ti46 rfl rfl) rfl ?_
                  refine t_qf hq388 1 fun q390 hq391 => ?_
                  refine k_p (r_fai hq388 hq391 Tryd.underlying46 rfl ti3 rfl rfl) rfl ?_
                  refine t_op k_api_Span_opens a2 hel381 fun t392 => ?_
                  refine k_s (r_e1 a0 hq391 Tryd.underlying3 rfl rfl rfl) rfl ?_
                  refine k_p (r_fa (off' := 1) Tryd.underlying46 rfl ti3 rfl rfl) rfl ?_
                  refine k_s (r_ld a1 Tryd.underlying3 rfl rfl rfl) rfl ?_
                  refine k_p (r_i rfl rfl rfl) rfl ?_
                  refine k_z ?_
                  refine t_then hK386 ?_
                  rcases Bool.eq_false_or_eq_true (el381.To == x337) with hb393 | hb393
                  · replace h368 := itT hb393 h368
                    refine t_T rfl hb393 ?_
                    refine t_region ?_
                    refine c_p (r_mv rfl) rfl ?_
                    refine c_p (r_i rfl rfl rfl) rfl ?_
                    refine c_p (r_as rfl) rfl ?_
                    refine t_nil ?_
                    exact t_norm (t_go (J396 (IntKind.wrap .i64 (x283 + 1)) (min x366 el381.Kind) h368) ⟨rfl, rfl, rfl, rfl, rfl, rfl, trivial⟩ (.cons e0 (.cons e0 .nil)) (fun w Z hA => V1 a2 hA (V1 a3 hA (V1 a4 hA (V1 a5 hA (V0))))))
                  · replace h368 := itF hb393 h368
                    refine t_F rfl hb393 ?_
                    refine t_skip ?_
                    exact t_norm (t_go (J396 x283 (min x366 el381.Kind) h368) ⟨rfl, rfl, rfl, rfl, rfl, rfl, trivial⟩ (.cons e0 (.cons e0 .nil)) (fun w Z hA => V1 a2 hA (V1 a3 hA (V1 a4 hA (V1 a5 hA (V0))))))
                · replace h368 := itF hb373 h368
                  refine t_F rfl hb373 ?_
                  refine t_skip ?_
                  exact t_norm (t_go (J396 x283 x366 h368) ⟨rfl, rfl, rfl, rfl, rfl, rfl, trivial⟩ (.cons e0 (.cons e0 .nil)) (fun w Z hA => V1 a0 hA (V1 a1 hA (V1 a2 hA (V1 a3 hA (V0))))))
              refine t_seq fun K342 hK343 => ?_
              refine t_region ?_
              refine c_p (r_mv rfl) rfl ?_
              refine c_p (r_mv rfl) rfl ?_
              refine c_s (r_lnA a0 Tryd.underlying23 rfl) rfl ?_
              refine c_p (r_i rfl rfl rfl) rfl ?_
              refine t_nil ?_
              refine t_then hK343 ?_
              rcases Bool.eq_false_or_eq_true (decide (x282 < (z0.length : Int))) with hb344 | hb344
              · replace h339 := itT hb344 h339
                refine t_T rfl hb344 ?_
                refine t_seq fun K345 hK346 => ?_
                refine t_draw mixed (fun w_ => True) [] [9] rfl ?_
                refine q_p 0 (panic_then (panic_then (panic_block (panic_then (panic_block (panic_then panic_body)))))) rfl (by kernel_rfl) W0 (r_fa (off' := 2) Tryd.underlying46 rfl ti3 rfl rfl) rfl ?_
                refine q_u 1 (panic_then (panic_then (panic_block (panic_then (panic_block (panic_then panic_body)))))) rfl (by kernel_rfl) W0 (by kernel_rfl) (r_ld a1 Tryd.underlying3 rfl rfl rfl) rfl ?_
                refine q_p 2 (panic_then (panic_then (panic_block (panic_then (panic_block (panic_then panic_body)))))) rfl (by kernel_rfl) W0 (r_mv rfl) rfl ?_
                refine q_p 3 (panic_then (panic_then (panic_block (panic_then (panic_block (panic_then panic_body)))))) rfl (by kernel_rfl) W0 (r_mv rfl) rfl ?_
                obtain ⟨el352, hel352, h339⟩ := bs h339
                refine t_q a0 hel352 fun q349 hq350 hm351 => ?_
                refine q_p 4 (panic_then (panic_then (panic_block (panic_then (panic_block (panic_then panic_body)))))) rfl (by kernel_rfl) W0 (r_idx hq350 hm351 hel352 Tryd.underlying23 ti46 rfl rfl) rfl ?_
                refine t_qf hq350 2 fun q353 hq354 => ?_
                refine q_p 5 (panic_then (panic_then (panic_block (panic_then (panic_block (panic_then panic_body)))))) rfl (by kernel_rfl) W0 (r_fai hq350 hq354 Tryd.underlying46 rfl ti3 rfl rfl) rfl ?_
                refine t_op k_api_Span_opens a0 hel352 fun t355 => ?_
                refine q_u 6 (panic_then (panic_then (panic_block (panic_then (panic_block (panic_then panic_body)))))) rfl (by kernel_rfl) W0 (by kernel_rfl) (r_e1 a0 hq354 Tryd.underlying3 rfl rfl rfl) rfl ?_
                refine q_p 7 (panic_then (panic_then (panic_block (panic_then (panic_block (panic_then panic_body)))))) rfl (by kernel_rfl) W0 (r_min rfl rfl) rfl ?_
                refine q_p 8 (panic_then (panic_then (panic_block (panic_then (panic_block (panic_then panic_body)))))) rfl (by kernel_rfl) W0 (r_fa (off' := 2) Tryd.underlying46 rfl ti3 rfl rfl) rfl ?_
                refine d1 9 rfl (by kernel_rfl) (by kernel_rfl) ?_
                refine t_st u1 ti3 rfl rfl rfl rfl rfl (.s (.s (.t (.s .z)))) ?_
                refine dn (by kernel_rfl) ?_
                refine dz (by kernel_rfl) ?_
                refine t_then hK346 ?_
                refine t_seq fun K356 hK357 => ?_
                refine t_quiet mixed (by kernel_rfl) (panic_then (panic_then (panic_block (panic_then (panic_block (panic_then panic_body)))))) ?_
                refine k_p (r_mv rfl) rfl ?_
                refine k_p (r_mv rfl) rfl ?_
                refine t_q a1 hel352 fun q358 hq359 hm360 => ?_
                refine k_p (r_idx hq359 hm360 hel352 Tryd.underlying23 ti46 rfl rfl) rfl ?_
                refine t_qf hq359 1 fun q361 hq362 => ?_
                refine k_p (r_fai hq359 hq362 Tryd.underlying46 rfl ti3 rfl rfl) rfl ?_
                refine t_op k_api_Span_opens a1 hel352 fun t363 => ?_
                refine k_s (r_e1 a0 hq362 Tryd.underlying3 rfl rfl rfl) rfl ?_
                refine k_p (r_fa (off' := 1) Tryd.underlying46 rfl ti3 rfl rfl) rfl ?_
                refine k_s (r_ld a1 Tryd.underlying3 rfl rfl rfl) rfl ?_
                refine k_p (r_i rfl rfl rfl) rfl ?_
                refine k_z ?_
                refine t_then hK357 ?_
                rcases Bool.eq_false_or_eq_true (el352.To == x337) with hb364 | hb364
                · replace h339 := itT hb364 h339
                  refine t_T rfl hb364 ?_
                  refine t_region ?_
                  refine c_p (r_mv rfl) rfl ?_
                  refine c_p (r_i rfl rfl rfl) rfl ?_
                  refine c_p (r_as rfl) rfl ?_
                  refine t_nil ?_
                  exact t_norm (t_go (J367 (IntKind.wrap .i64 (x282 + 1)) (min (4 : Int) el352.Kind) h339) ⟨rfl, rfl, rfl, rfl, rfl, rfl, trivial⟩ (.cons e0 (.cons e0 .nil)) (fun w Z hA => V1 a2 hA (V1 a3 hA (V1 a4 hA (V1 a5 hA (V0))))))
                · replace h339 := itF hb364 h339
                  refine t_F rfl hb364 ?_
                  refine t_skip ?_
                  exact t_norm (t_go (J367 x282 (min (4 : Int) el352.Kind) h339) ⟨rfl, rfl, rfl, rfl, rfl, rfl, trivial⟩ (.cons e0 (.cons e0 .nil)) (fun w Z hA => V1 a2 hA (V1 a3 hA (V1 a4 hA (V1 a5 hA (V0))))))
              · replace h339 := itF hb344 h339
                refine t_F rfl hb344 ?_
                refine t_skip ?_
                exact t_norm (t_go (J367 x282 4 h339) ⟨rfl, rfl, rfl, rfl, rfl, rfl, trivial⟩ (.cons e0 (.cons e0 .nil)) (fun w Z hA => V1 a0 hA (V1 a1 hA (V1 a2 hA (V1 a3 hA (V0))))))
            refine t_block ?_
            refine t_seq fun K301 hK302 => ?_
            refine t_region ?_
            refine c_p (r_mv rfl) rfl ?_
            refine c_p (r_mv rfl) rfl ?_
            refine c_s (r_lnA a0 Tryd.underlying23 rfl) rfl ?_
            refine c_p (r_i rfl rfl rfl) rfl ?_
            refine c_p (r_as rfl) rfl ?_
            refine t_nil ?_
            refine t_then hK302 ?_
            rcases Bool.eq_false_or_eq_true (x282 == (z0.length : Int)) with hb303 | hb303
            · replace h295 := itT hb303 h295
              refine t_T rfl hb303 ?_
              refine t_region ?_
              refine c_p (r_mv rfl) rfl ?_
              refine c_p (r_mv rfl) rfl ?_
              obtain ⟨el307, hel307, h295⟩ := bs h295
              refine t_q a1 hel307 fun q304 hq305 hm306 => ?_
              refine c_p (r_idx hq305 hm306 hel307 Tryd.underlying23 ti46 rfl rfl) rfl ?_
              refine t_qf hq305 1 fun q308 hq309 => ?_
              refine c_p (r_fai hq305 hq309 Tryd.underlying46 rfl ti3 rfl rfl) rfl ?_
              refine t_op k_api_Span_opens a1 hel307 fun t310 => ?_
              refine c_s (r_e1 a0 hq309 Tryd.underlying3 rfl rfl rfl) rfl ?_
              refine c_p (r_fa (off' := 1) Tryd.underlying46 rfl ti3 rfl rfl) rfl ?_
              refine nx (t_st u0 ti3 rfl rfl rfl rfl rfl (.s (.t (.s .z))) ?_)
              refine t_nil ?_
              refine t_blockN ?_
              exact t_norm (t_go (J338 el307.To h295) ⟨rfl, rfl, rfl, rfl, rfl, rfl, trivial⟩ (.cons e1 (.cons e0 .nil)) (fun w Z hA => V1 a1 hA (V1 a2 hA (V1 a3 hA (V1 a4 hA (V0))))))
            · replace h295 := itF hb303 h295
              refine t_F rfl hb303 ?_
              refine t_seq fun K311 hK312 => ?_
              refine t_region ?_
              refine c_p (r_mv rfl) rfl ?_
              refine c_p (r_mv rfl) rfl ?_
              refine c_s (r_lnA a1 Tryd.underlying23 rfl) rfl ?_
              refine c_p (r_i rfl rfl rfl) rfl ?_
              refine c_p (r_as rfl) rfl ?_
              refine t_nil ?_
              refine t_then hK312 ?_
              rcases Bool.eq_false_or_eq_true (x283 == (z1.length : Int)) with hb313 | hb313
              · replace h295 := itT hb313 h295
                refine t_T rfl hb313 ?_
                refine t_region ?_
                refine c_p (r_mv rfl) rfl ?_
                refine c_p (r_mv rfl) rfl ?_
                obtain ⟨el317, hel317, h295⟩ := bs h295
                refine t_q a0 hel317 fun q314 hq315 hm316 => ?_
                refine c_p (r_idx hq315 hm316 hel317 Tryd.underlying23 ti46 rfl rfl) rfl ?_
                refine t_qf hq315 1 fun q318 hq319 => ?_
                refine c_p (r_fai hq315 hq319 Tryd.underlying46 rfl ti3 rfl rfl) rfl ?_
                refine t_op k_api_Span_opens a0 hel317 fun t320 => ?_
                refine c_s (r_e1 a0 hq319 Tryd.underlying3 rfl rfl rfl) rfl ?_
                refine c_p (r_fa (off' := 1) Tryd.underlying46 rfl ti3 rfl rfl) rfl ?_
                refine nx (t_st u0 ti3 rfl rfl rfl rfl rfl (.s (.t (.s .z))) ?_)
                refine t_nil ?_
                refine t_blockN ?_
                exact t_norm (t_go (J338 el317.To h295) ⟨rfl, rfl, rfl, rfl, rfl, rfl, trivial⟩ (.cons e1 (.cons e0 .nil)) (fun w Z hA => V1 a1 hA (V1 a2 hA (V1 a3 hA (V1 a4 hA (V0))))))
              · replace h295 := itF hb313 h295
                refine t_F rfl hb313 ?_
                refine t_draw mixed (fun w_ => True) [] [12] rfl ?_
                refine q_p 0 (panic_block (panic_then (panic_block (panic_then (panic_block (panic_then panic_body)))))) rfl (by kernel_rfl) W0 (r_mv rfl) rfl ?_
                refine q_p 1 (panic_block (panic_then (panic_block (panic_then (panic_block (panic_then panic_body)))))) rfl (by kernel_rfl) W0 (r_mv rfl) rfl ?_
                obtain ⟨el326, hel326, h295⟩ := bs h295
                refine t_q a0 hel326 fun q323 hq324 hm325 => ?_
                refine q_p 2 (panic_block (panic_then (panic_block (panic_then (panic_block (panic_then panic_body)))))) rfl (by kernel_rfl) W0 (r_idx hq324 hm325 hel326 Tryd.underlying23 ti46 rfl rfl) rfl ?_
                refine t_qf hq324 1 fun q327 hq328 => ?_
                refine q_p 3 (panic_block (panic_then (panic_block (panic_then (panic_block (panic_then panic_body)))))) rfl (by kernel_rfl) W0 (r_fai hq324 hq328 Tryd.underlying46 rfl ti3 rfl rfl) rfl ?_
                refine t_op k_api_Span_opens a0 hel326 fun t329 => ?_
                refine q_u 4 (panic_block (panic_then (panic_block (panic_then (panic_block (panic_then panic_body)))))) rfl (by kernel_rfl) W0 (by kernel_rfl) (r_e1 a0 hq328 Tryd.underlying3 rfl rfl rfl) rfl ?_
                refine q_p 5 (panic_block (panic_then (panic_block (panic_then (panic_block (panic_then panic_body)))))) rfl (by kernel_rfl) W0 (r_mv rfl) rfl ?_
                refine q_p 6 (panic_block (panic_then (panic_block (panic_then (panic_block (panic_then panic_body)))))) rfl (by kernel_rfl) W0 (r_mv rfl) rfl ?_
                obtain ⟨el333, hel333, h295⟩ := bs h295
                refine t_q a2 hel333 fun q330 hq331 hm332 => ?_
                refine q_p 7 (panic_block (panic_then (panic_block (panic_then (panic_block (panic_then panic_body)))))) rfl (by kernel_rfl) W0 (r_idx hq331 hm332 hel333 Tryd.underlying23 ti46 rfl rfl) rfl ?_
                refine t_qf hq331 1 fun q334 hq335 => ?_
                refine q_p 8 (panic_block (panic_then (panic_block (panic_then (panic_block (panic_then panic_body)))))) rfl (by kernel_rfl) W0 (r_fai hq331 hq335 Tryd.underlying46 rfl ti3 rfl rfl) rfl ?_
                refine t_op k_api_Span_opens a2 hel333 fun t336 => ?_
                refine q_u 9 (panic_block (panic_then (panic_block (panic_then (panic_block (panic_then panic_body)))))) rfl (by kernel_rfl) W0 (by kernel_rfl) (r_e1 a0 hq335 Tryd.underlying3 rfl rfl rfl) rfl ?_
                refine q_p 10 (panic_block (panic_then (panic_block (panic_then (panic_block (panic_then panic_body)))))) rfl (by kernel_rfl) W0 (r_min rfl rfl) rfl ?_
                refine q_p 11 (panic_block (panic_then (panic_block (panic_then (panic_block (panic_then panic_body)))))) rfl (by kernel_rfl) W0 (r_fa (off' := 1) Tryd.underlying46 rfl ti3 rfl rfl) rfl ?_
                refine d1 12 rfl (by kernel_rfl) (by kernel_rfl) ?_
                refine t_st u0 ti3 rfl rfl rfl rfl rfl (.s (.t (.s .z))) ?_
                refine dn (by kernel_rfl) ?_
                refine dz (by kernel_rfl) ?_
                refine t_blockN ?_
                exact t_norm (t_go (J338 (min el326.To el333.To) h295) ⟨rfl, rfl, rfl, rfl, rfl, rfl, trivial⟩ (.cons e1 (.cons e0 .nil)) (fun w Z hA => V1 a2 hA (V1 a3 hA (V1 a4 hA (V1 a5 hA (V0))))))
          refine t_seq fun K290 hK291 => ?_
          refine t_region ?_
          refine c_p (r_mv rfl) rfl ?_
          refine c_p (r_mv rfl) rfl ?_
          refine c_s (r_lnA a0 Tryd.underlying23 rfl) rfl ?_
          refine c_p (r_i rfl rfl rfl) rfl ?_
          refine c_p (r_mv rfl) rfl ?_
          rcases Bool.eq_false_or_eq_true (decide (x282 < (z0.length : Int))) with hb292 | hb292
          · replace h285 := itT hb292 h285
            refine nx (pass rfl rfl hb292 rfl ?_)
            refine nx (pass rfl rfl hb292 rfl ?_)
            refine nx (pass rfl rfl hb292 rfl ?_)
            refine nx (pass rfl rfl hb292 rfl ?_)
            refine c_p (r_pT rfl hb292 rfl) rfl ?_
            refine t_nil ?_
            refine t_then hK291 ?_
            refine t_T rfl rfl ?_
            refine t_skip ?_
            exact t_norm (t_go (J294 h285) ⟨rfl, rfl, rfl, rfl, rfl, rfl, trivial⟩ (.cons e0 .nil) (fun w Z hA => V1 a0 hA (V1 a1 hA (V1 a2 hA (V1 a3 hA (V0))))))
          · replace h285 := itF hb292 h285
            refine nx (gd rfl rfl hb292 (sp (r_mv rfl) rfl ?_))
            refine nx (gd rfl rfl hb292 (sp (r_mv rfl) rfl ?_))
            refine nx (gd rfl rfl hb292 (ss (r_lnA a1 Tryd.underlying23 rfl) rfl ?_))
            refine nx (gd rfl rfl hb292 (sp (r_i rfl rfl rfl) rfl ?_))
            refine c_p (r_pF rfl hb292 rfl) rfl ?_
            refine t_nil ?_
            refine t_then hK291 ?_
            rcases Bool.eq_false_or_eq_true (decide (x283 < (z1.length : Int))) with hb293 | hb293
            · replace h285 := itT hb293 h285
              refine t_T rfl hb293 ?_
              refine t_skip ?_
              exact t_norm (t_go (J294 h285) ⟨rfl, rfl, rfl, rfl, rfl, rfl, trivial⟩ (.cons e0 .nil) (fun w Z hA => V1 a0 hA (V1 a1 hA (V1 a2 hA (V1 a3 hA (V0))))))
            · replace h285 := itF hb293 h285
              refine t_F rfl hb293 ?_
              refine t_exit ?_
              refine te (te (bx ?_))
              exact t_norm (t_go (J407 p277 m278 c279 x280 h285) ⟨rfl, trivial⟩ (.cons e0 .nil) (fun w Z hA => V1 a2 hA (V1 a3 hA (V0))))
      exact t_go (LP284 (z0.length + z1.length + 1) none 0 0 ([] : List api_Span) 1 0 0 h) ⟨rfl, rfl, rfl, rfl, rfl, rfl, trivial⟩ (.cons e0 .nil) (fun w Z hA => V1 a0 hA (V1 a1 hA (V1 a2 hA (V1 a3 hA (V0)))))
    · replace h := itF hb18 h
      refine t_T rfl (congrArg Bool.not hb18) ?_
      refine t_seq fun K19 hK20 => ?_
      refine t_region ?_
      refine c_p (r_as rfl) rfl ?_
      refine t_nil ?_
      refine t_then hK20 ?_
      refine t_ret ?_
      refine t_nr 46 k_api_Span ?_
      exact tr (ret1 rfl (v_t rfl) (t_leave (hQ _ (Option.some.inj h)) (none, 0, 0) rfl (fun w Z hA => V0) (.cons e0 .nil)))
  · replace h := itF hb15 h
    refine nx (pass rfl rfl (congrArg Bool.not hb15) rfl ?_)
    refine nx (pass rfl rfl (congrArg Bool.not hb15) rfl ?_)
    refine nx (pass rfl rfl (congrArg Bool.not hb15) rfl ?_)
    refine c_p (r_pT rfl (congrArg Bool.not hb15) rfl) rfl ?_
    refine t_nil ?_
    refine t_then hK12 ?_
    refine t_T rfl rfl ?_
    refine t_seq fun K21 hK22 => ?_
    refine t_region ?_
    refine c_p (r_as rfl) rfl ?_
    refine t_nil ?_
    refine t_then hK22 ?_
    refine t_ret ?_
    refine t_nr 46 k_api_Span ?_
    exact tr (ret1 rfl (v_t rfl) (t_leave (hQ _ (Option.some.inj h)) (none, 0, 0) rfl (fun w Z hA => V0) (.cons e0 .nil)))
end
end Go.Proofs.YthmjklpmamfncaaDoor.Gx

/- Function 10, kaudit/kauditref40.Same: what it answers as a plain function, and that the Go code comes to exactly that (where the plain function gives an answer). -/
set_option linter.unusedVariables false
set_option linter.unusedSimpArgs false
namespace Go.Proofs.YthmjklpmamfncaaDoor.Gx
open Go.Gx Go.RowKit
noncomputable section
/-! ### kaudit/kauditref40.Same: function 10 -/
def f_kauditref40_Same_l1 (z0 : (List api_Span)) (z1 : (List api_Span)) : Nat → Int → Option (Bool)
  | 0, _ => none
  | k75 + 1, x72 => if (decide (x72 < (z0.length : Int))) = true then ((at_ z0 x72).bind fun el91 => (at_ z1 x72).bind fun el96 => if ((el91.From == el96.From) && ((el91.To == el96.To) && ((el91.Kind == el96.Kind) && true))) = true then (f_kauditref40_Same_l1 z0 z1 k75 (IntKind.wrap .i64 (x72 + 1))) else (some false)) else (some true)
def f_kauditref40_Same (z0 : (List api_Span)) (z1 : (List api_Span)) : Option (Bool) := if ((z0.length : Int) != (z1.length : Int)) = true then (some false) else (f_kauditref40_Same_l1 z0 z1 ((((z0.length : Int) : Int) - (0)).toNat + 1) 0)
set_option maxHeartbeats 4000000 in
set_option maxRecDepth 100000 in
theorem C10 (z0 : (List api_Span)) (z1 : (List api_Span)) (p1 : Option Addr) (m2 : Nat) (c3 : Nat) (p4 : Option Addr) (m5 : Nat) (c6 : Nat) (r : Bool) (h : f_kauditref40_Same z0 z1 = some r) : FunG Tryd.prog 10 #[.slice p1 m2 c3, .slice p4 m5 c6] [vw (kSlice 46 k_api_Span) z0 [.slice p1 m2 c3], vw (kSlice 46 k_api_Span) z1 [.slice p4 m5 c6], g_pow10, g_kinds] [] (fun (_ : Unit) => .bool r) (fun _ => []) (fun _ => []) := by
  unfold f_kauditref40_Same at h
  refine t_begin (args := [.slice p1 m2 c3, .slice p4 m5 c6]) Tryd.func10 rfl Tryd.ntmps10 rfl fun c R hR => ?_
  have hQ : ∀ X, X = r → ∀ w2 (_ : Unit), PostG c.w0 w2 c.M c.Y [] [] → R (.returned (.bool X)) w2 := fun X e => by subst e; exact hR
  refine t_seq fun K7 hK8 => ?_
  refine t_region ?_
  refine c_p (r_as rfl) rfl ?_
  refine t_nil ?_
  refine t_then hK8 ?_
  refine t_seq fun K9 hK10 => ?_
  refine t_seq fun K11 hK12 => ?_
  refine t_region ?_
  refine c_p (r_mv rfl) rfl ?_
  refine c_s (r_lnA a0 Tryd.underlying23 rfl) rfl ?_
  refine c_p (r_mv rfl) rfl ?_
  refine c_s (r_lnA a1 Tryd.underlying23 rfl) rfl ?_
  refine c_p (r_i rfl rfl rfl) rfl ?_
  refine t_nil ?_
  refine t_then hK12 ?_
  rcases Bool.eq_false_or_eq_true ((z0.length : Int) != (z1.length : Int)) with hb13 | hb13
  · replace h := itT hb13 h
    refine t_T rfl hb13 ?_
    refine t_seq fun K14 hK15 => ?_
    refine t_region ?_
    refine c_p (r_as rfl) rfl ?_
    refine t_nil ?_
    refine t_then hK15 ?_
    refine t_ret ?_
    exact tr (ret1 rfl (v_t rfl) (t_leave (hQ _ (Option.some.inj h)) () rfl (fun w Z hA => V0) .nil))
  · replace h := itF hb13 h
    refine t_F rfl hb13 ?_
    refine t_skip ?_
    refine t_then hK10 ?_
    refine t_seq fun K16 hK17 => ?_
    refine t_seq fun K18 hK19 => ?_
    refine t_region ?_
    refine c_p (r_mv rfl) rfl ?_
    refine c_s (r_lnA a0 Tryd.underlying23 rfl) rfl ?_
    refine c_p (r_mv rfl) rfl ?_
    refine t_nil ?_
    refine t_then hK19 ?_
    refine t_block ?_
    refine t_lp fun k70 hk71 => ?_
    have LP73 : ∀ (k75 : Nat) (x72 : Int), f_kauditref40_Same_l1 z0 z1 k75 x72 = some r → T 26 c [vw (kSlice 46 k_api_Span) z0 [.slice p1 m2 c3], vw (kSlice 46 k_api_Span) z1 [.slice p4 m5 c6], g_pow10, g_kinds] [] [(0, .slice p1 m2 c3), (1, .slice p4 m5 c6), (12, .int .i64 (z0.length : Int)), (13, .int .i64 x72)] k70 := by
      intro k75
      induction k75 with
      | zero => intro x72 h74; rewrite [f_kauditref40_Same_l1] at h74; cases h74
      | succ k75 ih76 =>
        intro x72 h74
        rewrite [f_kauditref40_Same_l1] at h74
        refine ti hk71 ?_
        refine t_seq fun K77 hK78 => ?_
        refine t_region ?_
        refine c_p (r_i rfl rfl rfl) rfl ?_
        refine t_nil ?_
        refine t_then hK78 ?_
        refine t_seq fun K79 hK80 => ?_
        rcases Bool.eq_false_or_eq_true (decide (x72 < (z0.length : Int))) with hb81 | hb81
        · replace h74 := itT hb81 h74
          refine t_T rfl hb81 ?_
          refine t_skip ?_
          refine t_then hK80 ?_
          refine t_seq fun K82 hK83 => ?_
          refine t_block ?_
          refine t_seq fun K84 hK85 => ?_
          refine t_region ?_
          refine c_p (r_mv rfl) rfl ?_
          refine c_p (r_as rfl) rfl ?_
          refine t_nil ?_
          refine t_then hK85 ?_
          refine t_seq fun K86 hK87 => ?_
          refine t_quiet mixed (by kernel_rfl) (panic_then (panic_block (panic_then (panic_then (panic_block (panic_then panic_body)))))) ?_
          refine k_p (r_mv rfl) rfl ?_
          refine k_p (r_mv rfl) rfl ?_
          obtain ⟨el91, hel91, h74⟩ := bs h74
          refine t_q a0 hel91 fun q88 hq89 hm90 => ?_
          refine k_p (r_idx hq89 hm90 hel91 Tryd.underlying23 ti46 rfl rfl) rfl ?_
          refine t_op k_api_Span_opens a0 hel91 fun t92 => ?_
          refine k_s (r_eA a0 hq89 Tryd.underlying46 rfl ti46 rfl rfl) rfl ?_
          refine k_p (r_mv rfl) rfl ?_
          refine k_p (r_mv rfl) rfl ?_
          obtain ⟨el96, hel96, h74⟩ := bs h74
          refine t_q a2 hel96 fun q93 hq94 hm95 => ?_
          refine k_p (r_idx hq94 hm95 hel96 Tryd.underlying23 ti46 rfl rfl) rfl ?_
          refine t_op k_api_Span_opens a2 hel96 fun t97 => ?_
          refine k_s (r_eA a0 hq94 Tryd.underlying46 rfl ti46 rfl rfl) rfl ?_
          refine k_p (r_nes (xs := [.int .i64 el91.From, .int .i64 el91.To, .int .i64 el91.Kind]) (ys := [.int .i64 el96.From, .int .i64 el96.To, .int .i64 el96.Kind]) (r := ((el91.From == el96.From) && ((el91.To == el96.To) && ((el91.Kind == el96.Kind) && true)))) eg_46 (eq_46 9998 _ _ _ _ _ _) rfl rfl) rfl ?_
          refine k_z ?_
          refine t_then hK87 ?_
          rcases Bool.eq_false_or_eq_true ((el91.From == el96.From) && ((el91.To == el96.To) && ((el91.Kind == el96.Kind) && true))) with hb98 | hb98
          · replace h74 := itT hb98 h74
            refine t_F rfl (congrArg Bool.not hb98) ?_
            refine t_skip ?_
            refine t_blockN ?_
            refine t_then hK83 ?_
            refine t_region ?_
            refine c_p (r_i rfl rfl rfl) rfl ?_
            refine c_p (r_mv rfl) rfl ?_
            refine t_nil ?_
            exact t_norm (t_go (ih76 (IntKind.wrap .i64 (x72 + 1)) h74) ⟨rfl, rfl, rfl, rfl, trivial⟩ .nil (fun w Z hA => V1 a2 hA (V1 a3 hA (V1 a4 hA (V1 a5 hA (V0))))))
          · replace h74 := itF hb98 h74
            refine t_T rfl (congrArg Bool.not hb98) ?_
            refine t_seq fun K99 hK100 => ?_
            refine t_region ?_
            refine c_p (r_as rfl) rfl ?_
            refine t_nil ?_
            refine t_then hK100 ?_
            refine t_ret ?_
            exact br (tr (tr (br (tr (ret1 rfl (v_t rfl) (t_leave (hQ _ (Option.some.inj h74)) () rfl (fun w Z hA => V0) .nil))))))
        · replace h74 := itF hb81 h74
          refine t_F rfl hb81 ?_
          refine t_exit ?_
          refine te (te (bx ?_))
          refine t_then hK17 ?_
          refine t_seq fun K101 hK102 => ?_
          refine t_region ?_
          refine c_p (r_as rfl) rfl ?_
          refine t_nil ?_
          refine t_then hK102 ?_
          refine t_ret ?_
          exact ret1 rfl (v_t rfl) (t_leave (hQ _ (Option.some.inj h74)) () rfl (fun w Z hA => V0) .nil)
    exact t_go (LP73 ((((z0.length : Int) : Int) - (0)).toNat + 1) 0 h) ⟨rfl, rfl, rfl, rfl, trivial⟩ .nil (fun w Z hA => V1 a0 hA (V1 a1 hA (V1 a2 hA (V1 a3 hA (V0)))))
end
end Go.Proofs.YthmjklpmamfncaaDoor.Gx

/- Function 18, kaudit/coverage.Within: what it answers as a plain function, and that the Go code comes to exactly that (where the plain function gives an answer). -/
set_option linter.unusedVariables false
set_option linter.unusedSimpArgs false
namespace Go.Proofs.YthmjklpmamfncaaDoor.Gx
open Go.Gx Go.RowKit
noncomputable section
/-! ### kaudit/coverage.Within: function 18 -/
def f_coverage_Within_l1 (z0 : (List api_Span)) (z1 : Int) (z2 : Int) : Nat → List api_Span → Int → Option ((List api_Span))
  | 0, _, _ => none
  | k86 + 1, x82, x83 => if (decide (x83 < (z0.length : Int))) = true then ((at_ z0 x83).bind fun el100 => if (decide ((max el100.From z1) ≤ (min el100.To z2))) = true then (ck (fits (x82.length + [(⟨(max el100.From z1), (min el100.To z2), el100.Kind⟩ : api_Span)].length) 24 = true) <| f_coverage_Within_l1 z0 z1 z2 k86 (x82 ++ [(⟨(max el100.From z1), (min el100.To z2), el100.Kind⟩ : api_Span)]) (IntKind.wrap .i64 (x83 + 1))) else (f_coverage_Within_l1 z0 z1 z2 k86 x82 (IntKind.wrap .i64 (x83 + 1)))) else (some x82)
def f_coverage_Within (z0 : (List api_Span)) (z1 : Int) (z2 : Int) : Option ((List api_Span)) := (f_coverage_Proper z0).bind fun y10 => if y10 = true then (f_coverage_Within_l1 z0 z1 z2 ((((z0.length : Int) : Int) - (0)).toNat + 1) ([] : List api_Span) 0) else (some ([] : List api_Span))
set_option maxHeartbeats 4000000 in
set_option maxRecDepth 100000 in
theorem C18 (z0 : (List api_Span)) (z1 : Int) (z2 : Int) (p1 : Option Addr) (m2 : Nat) (c3 : Nat) (r : (List api_Span)) (h : f_coverage_Within z0 z1 z2 = some r) : FunG Tryd.prog 18 #[.slice p1 m2 c3, .int .i64 z1, .int .i64 z2] [vw (kSlice 46 k_api_Span) z0 [.slice p1 m2 c3], g_pow10, g_kinds] [] (fun t : (Option Addr × Nat × Nat) => .slice t.1 t.2.1 t.2.2) (fun t => []) (fun t => [[row 46 k_api_Span r (.slice t.1 t.2.1 t.2.2)]]) := by
  unfold f_coverage_Within at h
  refine t_begin (args := [.slice p1 m2 c3, .int .i64 z1, .int .i64 z2]) Tryd.func18 rfl Tryd.ntmps18 rfl fun c R hR => ?_
  have hQ : ∀ X, X = r → ∀ w2 (t : (Option Addr × Nat × Nat)), PostG c.w0 w2 c.M c.Y [] [[row 46 k_api_Span X (.slice t.1 t.2.1 t.2.2)]] → R (.returned (.slice t.1 t.2.1 t.2.2)) w2 := fun X e => by subst e; exact hR
  refine t_seq fun K4 hK5 => ?_
  refine t_region ?_
  refine c_p (r_as rfl) rfl ?_
  refine t_nil ?_
  refine t_then hK5 ?_
  refine t_seq fun K6 hK7 => ?_
  refine t_seq fun K8 hK9 => ?_
  refine t_region ?_
  refine c_p (r_mv rfl) rfl ?_
  obtain ⟨y10, hy10, h⟩ := bs h
  refine nx (t_ca (C8 _ _ _ _ _ hy10) Tryd.func8 nm8 rfl rfl rfl .nil (fun w Z hA => (V1 a0 hA (V1 a1 hA (V1 a2 hA V0)))) rfl fun t11 => ?_)
  refine c_p (r_not rfl) rfl ?_
  refine t_nil ?_
  refine t_then hK9 ?_
  rcases Bool.eq_false_or_eq_true y10 with hb12 | hb12
  · replace h := itT hb12 h
    refine t_F rfl (congrArg Bool.not hb12) ?_
    refine t_skip ?_
    refine t_then hK7 ?_
    refine t_seq fun K15 hK16 => ?_
    refine t_region ?_
    refine c_p (r_as rfl) rfl ?_
    refine t_nil ?_
    refine t_then hK16 ?_
    refine t_seq fun K17 hK18 => ?_
    refine t_seq fun K19 hK20 => ?_
    refine t_region ?_
    refine c_p (r_mv rfl) rfl ?_
    refine c_s (r_lnA a0 Tryd.underlying23 rfl) rfl ?_
    refine c_p (r_mv rfl) rfl ?_
    refine t_nil ?_
    refine t_then hK20 ?_
    refine t_block ?_
    refine t_nr 46 k_api_Span ?_
    refine t_lp fun k77 hk78 => ?_
    have LP84 : ∀ (k86 : Nat) (p79 : Option Addr) (m80 : Nat) (c81 : Nat) (x82 : List api_Span) (x83 : Int), f_coverage_Within_l1 z0 z1 z2 k86 x82 x83 = some r → T 40 c [vw (kSlice 46 k_api_Span) z0 [.slice p1 m2 c3], g_pow10, g_kinds] [[row 46 k_api_Span x82 (.slice p79 m80 c81)]] [(1, .int .i64 z1), (2, .int .i64 z2), (7, .slice p79 m80 c81), (13, .slice p1 m2 c3), (14, .int .i64 (z0.length : Int)), (15, .int .i64 x83)] k77 := by
      intro k86
      induction k86 with
      | zero => intro p79 m80 c81 x82 x83 h85; rewrite [f_coverage_Within_l1] at h85; cases h85
      | succ k86 ih87 =>
        intro p79 m80 c81 x82 x83 h85
        rewrite [f_coverage_Within_l1] at h85
        refine ti hk78 ?_
        refine t_seq fun K88 hK89 => ?_
        refine t_region ?_
        refine c_p (r_i rfl rfl rfl) rfl ?_
        refine t_nil ?_
        refine t_then hK89 ?_
        refine t_seq fun K90 hK91 => ?_
        rcases Bool.eq_false_or_eq_true (decide (x83 < (z0.length : Int))) with hb92 | hb92
        · replace h85 := itT hb92 h85
          refine t_T rfl hb92 ?_
          refine t_skip ?_
          refine t_then hK91 ?_
          refine t_seq fun K93 hK94 => ?_
          refine t_block ?_
          refine t_seq fun K95 hK96 => ?_
          refine t_region ?_
          obtain ⟨el100, hel100, h85⟩ := bs h85
          refine t_q a0 hel100 fun q97 hq98 hm99 => ?_
          refine c_p (r_idx hq98 hm99 hel100 Tryd.underlying23 ti46 rfl rfl) rfl ?_
          refine t_op k_api_Span_opens a0 hel100 fun t101 => ?_
          refine c_s (r_eA a0 hq98 Tryd.underlying46 rfl ti46 rfl rfl) rfl ?_
          refine nx (t_al (cs := [.int .i64 0, .int .i64 0, .int .i64 0]) ti46 rfl rfl fun g102 => ?_)
          refine nx (t_st u0 ti46 rfl rfl rfl rfl rfl (.t (.s (.s (.s .z)))) ?_)
          refine t_nil ?_
          refine t_then hK96 ?_
          refine t_seq fun K103 hK104 => ?_
          refine t_region ?_
          refine c_p (r_fa (off' := 0) Tryd.underlying46 rfl ti3 rfl rfl) rfl ?_
          refine c_s (r_ld a0 Tryd.underlying3 rfl rfl rfl) rfl ?_
          refine c_p (r_mv rfl) rfl ?_
          refine c_p (r_max rfl rfl) rfl ?_
          refine c_p (r_fa (off' := 1) Tryd.underlying46 rfl ti3 rfl rfl) rfl ?_
          refine c_s (r_ld a0 Tryd.underlying3 rfl rfl rfl) rfl ?_
          refine c_p (r_mv rfl) rfl ?_
          refine c_p (r_min rfl rfl) rfl ?_
          refine c_p (r_fa (off' := 0) Tryd.underlying46 rfl ti3 rfl rfl) rfl ?_
          refine nx (t_st u0 ti3 rfl rfl rfl rfl rfl (.t (.s .z)) ?_)
          refine c_p (r_fa (off' := 1) Tryd.underlying46 rfl ti3 rfl rfl) rfl ?_
          refine nx (t_st u0 ti3 rfl rfl rfl rfl rfl (.s (.t (.s .z))) ?_)
          refine t_nil ?_
          refine t_then hK104 ?_
          refine t_seq fun K105 hK106 => ?_
          refine t_region ?_
          refine c_p (r_fa (off' := 0) Tryd.underlying46 rfl ti3 rfl rfl) rfl ?_
          refine c_s (r_ld a0 Tryd.underlying3 rfl rfl rfl) rfl ?_
          refine c_p (r_fa (off' := 1) Tryd.underlying46 rfl ti3 rfl rfl) rfl ?_
          refine c_s (r_ld a0 Tryd.underlying3 rfl rfl rfl) rfl ?_
          refine c_p (r_i rfl rfl rfl) rfl ?_
          refine t_nil ?_
          refine t_then hK106 ?_
          rcases Bool.eq_false_or_eq_true (decide ((max el100.From z1) ≤ (min el100.To z2))) with hb107 | hb107
          · replace h85 := itT hb107 h85
            refine t_T rfl hb107 ?_
            refine t_region ?_
            refine c_p (r_mv rfl) rfl ?_
            refine c_s (r_ldA a0 Tryd.underlying46 rfl ti46 rfl rfl) rfl ?_
            refine nx (t_bs (ps := [(0, .agg #[.int .i64 (max el100.From z1), .int .i64 (min el100.To z2), .int .i64 el100.Kind])]) (cs := [.int .i64 (max el100.From z1), .int .i64 (min el100.To z2), .int .i64 el100.Kind]) Tryd.underlying23 ti46 rfl rfl (by kernel_rfl) rfl fun g108 => ?_)
            obtain ⟨hc109, h85⟩ := ck_out h85
            refine nx (t_app (Kd := k_api_Span) (xs := x82) (ys := [(⟨(max el100.From z1), (min el100.To z2), el100.Kind⟩ : api_Span)]) (.cons e2 .nil) rfl rfl Tryd.underlying23 Tryd.underlying23 ti46 rfl rfl hc109 (srcB a0 (fun w Z S hA hN => flat_EO (S := Nil) k_api_Span_flatK (er1 (c1 := [.int .i64 (max el100.From z1), .int .i64 (min el100.To z2), .int .i64 el100.Kind]) (k_api_Span_shuts (x := (⟨(max el100.From z1), (min el100.To z2), el100.Kind⟩ : api_Span)) (t := ()) trivial) er0))) rfl fun t110 => ?_)
            refine c_p (r_as rfl) rfl ?_
            refine t_nil ?_
            refine t_blockN ?_
            refine t_then hK94 ?_
            refine t_region ?_
            refine c_p (r_i rfl rfl rfl) rfl ?_
            refine c_p (r_mv rfl) rfl ?_
            refine t_nil ?_
            exact t_norm (t_go (ih87 t110.1 t110.2.1 t110.2.2 (x82 ++ [(⟨(max el100.From z1), (min el100.To z2), el100.Kind⟩ : api_Span)]) (IntKind.wrap .i64 (x83 + 1)) h85) ⟨rfl, rfl, rfl, rfl, rfl, rfl, trivial⟩ (.cons e0 .nil) (fun w Z hA => V1 a1 hA (V1 a2 hA (V1 a3 hA (V0)))))
          · replace h85 := itF hb107 h85
            refine t_F rfl hb107 ?_
            refine t_skip ?_
            refine t_blockN ?_
            refine t_then hK94 ?_
            refine t_region ?_
            refine c_p (r_i rfl rfl rfl) rfl ?_
            refine c_p (r_mv rfl) rfl ?_
            refine t_nil ?_
            exact t_norm (t_go (ih87 p79 m80 c81 x82 (IntKind.wrap .i64 (x83 + 1)) h85) ⟨rfl, rfl, rfl, rfl, rfl, rfl, trivial⟩ (.cons e1 .nil) (fun w Z hA => V1 a1 hA (V1 a2 hA (V1 a3 hA (V0)))))
        · replace h85 := itF hb92 h85
          refine t_F rfl hb92 ?_
          refine t_exit ?_
          refine te (te (bx ?_))
          refine t_then hK18 ?_
          refine t_seq fun K111 hK112 => ?_
          refine t_region ?_
          refine c_p (r_mv rfl) rfl ?_
          refine c_p (r_as rfl) rfl ?_
          refine t_nil ?_
          refine t_then hK112 ?_
          refine t_ret ?_
          exact ret1 rfl (v_t rfl) (t_leave (hQ _ (Option.some.inj h85)) (p79, m80, c81) rfl (fun w Z hA => V0) (.cons e0 .nil))
    exact t_go (LP84 ((((z0.length : Int) : Int) - (0)).toNat + 1) none 0 0 ([] : List api_Span) 0 h) ⟨rfl, rfl, rfl, rfl, rfl, rfl, trivial⟩ (.cons e0 .nil) (fun w Z hA => V1 a0 hA (V1 a1 hA (V1 a2 hA (V0))))
  · replace h := itF hb12 h
    refine t_T rfl (congrArg Bool.not hb12) ?_
    refine t_seq fun K13 hK14 => ?_
    refine t_region ?_
    refine c_p (r_as rfl) rfl ?_
    refine t_nil ?_
    refine t_then hK14 ?_
    refine t_ret ?_
    refine t_nr 46 k_api_Span ?_
    exact tr (ret1 rfl (v_t rfl) (t_leave (hQ _ (Option.some.inj h)) (none, 0, 0) rfl (fun w Z hA => V0) (.cons e0 .nil)))
end
end Go.Proofs.YthmjklpmamfncaaDoor.Gx

/- Function 21, kaudit/kauditlaw40.kind: what it answers as a plain function, and that the Go code comes to exactly that (where the plain function gives an answer). -/
set_option linter.unusedVariables false
set_option linter.unusedSimpArgs false
namespace Go.Proofs.YthmjklpmamfncaaDoor.Gx
open Go.Gx Go.RowKit
noncomputable section
/-! ### kaudit/kauditlaw40.kind: function 21 -/
def f_kauditlaw40_kind (z0 : (List api_Span)) (z1 : Int) : Option (Int) := (f_coverage_Within z0 z1 z1).bind fun y10 => if ((y10.length : Int) == 1) = true then ((at_ y10 0).bind fun el20 => some el20.Kind) else (some 4)
set_option maxHeartbeats 4000000 in
set_option maxRecDepth 100000 in
theorem C21 (z0 : (List api_Span)) (z1 : Int) (p1 : Option Addr) (m2 : Nat) (c3 : Nat) (r : Int) (h : f_kauditlaw40_kind z0 z1 = some r) : FunG Tryd.prog 21 #[.slice p1 m2 c3, .int .i64 z1] [vw (kSlice 46 k_api_Span) z0 [.slice p1 m2 c3], g_pow10, g_kinds] [] (fun (_ : Unit) => .int .i64 r) (fun _ => []) (fun _ => []) := by
  unfold f_kauditlaw40_kind at h
  refine t_begin (args := [.slice p1 m2 c3, .int .i64 z1]) Tryd.func21 rfl Tryd.ntmps21 rfl fun c R hR => ?_
  have hQ : ∀ X, X = r → ∀ w2 (_ : Unit), PostG c.w0 w2 c.M c.Y [] [] → R (.returned (.int .i64 X)) w2 := fun X e => by subst e; exact hR
  refine t_seq fun K4 hK5 => ?_
  refine t_region ?_
  refine c_p (r_as rfl) rfl ?_
  refine t_nil ?_
  refine t_then hK5 ?_
  refine t_seq fun K6 hK7 => ?_
  refine t_seq fun K8 hK9 => ?_
  refine t_region ?_
  refine c_p (r_mv rfl) rfl ?_
  refine c_p (r_mv rfl) rfl ?_
  refine c_p (r_mv rfl) rfl ?_
  obtain ⟨y10, hy10, h⟩ := bs h
  refine nx (t_ca (C18 _ _ _ _ _ _ _ hy10) Tryd.func18 nm18 rfl rfl rfl .nil (fun w Z hA => (V1 a0 hA (V1 a1 hA (V1 a2 hA V0)))) rfl fun t11 => ?_)
  refine c_p (r_as rfl) rfl ?_
  refine t_nil ?_
  refine t_then hK9 ?_
  refine t_seq fun K12 hK13 => ?_
  refine t_region ?_
  refine c_p (r_mv rfl) rfl ?_
  refine c_s (r_lnL a0 Tryd.underlying23 rfl) rfl ?_
  refine c_p (r_i rfl rfl rfl) rfl ?_
  refine t_nil ?_
  refine t_then hK13 ?_
  rcases Bool.eq_false_or_eq_true ((y10.length : Int) == 1) with hb14 | hb14
  · replace h := itT hb14 h
    refine t_T rfl hb14 ?_
    refine t_seq fun K15 hK16 => ?_
    refine t_region ?_
    refine c_p (r_mv rfl) rfl ?_
    obtain ⟨el20, hel20, h⟩ := bs h
    refine t_qL a0 hel20 fun q17 hq18 hm19 => ?_
    refine c_p (r_idx hq18 hm19 hel20 Tryd.underlying23 ti46 rfl rfl) rfl ?_
    refine t_qf hq18 2 fun q21 hq22 => ?_
    refine c_p (r_fai hq18 hq22 Tryd.underlying46 rfl ti3 rfl rfl) rfl ?_
    refine t_oI k_api_Span_opensO e0 hel20 fun t23 => ?_
    refine c_s (r_h1 a0 hq22 Tryd.underlying3 rfl rfl rfl) rfl ?_
    refine c_p (r_as rfl) rfl ?_
    refine t_nil ?_
    refine t_then hK16 ?_
    refine t_ret ?_
    refine t_cS (u := el20) (t := ()) k_api_Span_shutsO hel20 (.cons e0 .nil) rfl (fun w Z hA => trivial) ?_
    exact tr (ret1 rfl (v_t rfl) (t_leave (hQ _ (Option.some.inj h)) () rfl (fun w Z hA => V0) .nil))
  · replace h := itF hb14 h
    refine t_F rfl hb14 ?_
    refine t_skip ?_
    refine t_then hK7 ?_
    refine t_seq fun K24 hK25 => ?_
    refine t_region ?_
    refine c_p (r_as rfl) rfl ?_
    refine t_nil ?_
    refine t_then hK25 ?_
    refine t_ret ?_
    exact ret1 rfl (v_t rfl) (t_leave (hQ _ (Option.some.inj h)) () rfl (fun w Z hA => V0) .nil)
end
end Go.Proofs.YthmjklpmamfncaaDoor.Gx

/- Spans, as plain lists: what they say of each number; joins. -/
set_option linter.unusedVariables false
set_option maxRecDepth 100000
namespace Go.Proofs.YthmjklpmamfncaaDoor.Gx
open Go.Gx Go.RowKit
def KOk (k : Int) : Prop := 1 ≤ k ∧ k ≤ 4
/-- Spans from g on, without gaps. -/
def Cont : Int → List api_Span → Prop
  | _, [] => True
  | g, s :: l => s.From = g ∧ g ≤ s.To ∧ KOk s.Kind ∧ Cont (s.To + 1) l
/-- The same, where neighbours' kinds differ. -/
def PropF : Int → Int → List api_Span → Prop
  | _, _, [] => True
  | g, k, s :: l => s.From = g ∧ g ≤ s.To ∧ KOk s.Kind ∧ s.Kind ≠ k ∧ PropF (s.To + 1) s.Kind l
theorem PropF.cont : ∀ {l : List api_Span} {g k : Int}, PropF g k l → Cont g l
  | [], _, _, _ => trivial
  | _ :: _, _, _, ⟨a, b, c, _, d⟩ => ⟨a, b, c, PropF.cont d⟩
def cov : List api_Span → Int → Int
  | [], _ => 4
  | s :: l, n => if s.From ≤ n ∧ n ≤ s.To then s.Kind else cov l n
def endF : Int → List api_Span → Int
  | e, [] => e
  | _, s :: l => endF s.To l
theorem cont_end : ∀ {l : List api_Span} {g : Int}, Cont g l → g - 1 ≤ endF (g - 1) l
  | [], _, _ => Int.le_refl _
  | s :: l, g, ⟨_, b, _, d⟩ => by
    have := cont_end d
    have e : s.To + 1 - 1 = s.To := by omega
    rw [e] at this
    show g - 1 ≤ endF s.To l
    omega
theorem cov_out : ∀ {l : List api_Span} {g n : Int}, Cont g l → endF (g - 1) l < n → cov l n = 4
  | [], _, _, _, _ => rfl
  | s :: l, g, n, ⟨a, b, c, d⟩, h => by
    have e : s.To + 1 - 1 = s.To := by omega
    have h1 := cont_end d
    rw [e] at h1
    have h' : endF s.To l < n := h
    unfold cov
    rw [if_neg (by omega)]
    exact cov_out d (by rw [e]; exact h')
theorem cov_k : ∀ {l : List api_Span} {g n : Int}, Cont g l → KOk (cov l n)
  | [], _, _, _ => ⟨by show (1 : Int) ≤ 4; omega, by show (4 : Int) ≤ 4; omega⟩
  | s :: l, g, n, ⟨a, b, c, d⟩ => by
    unfold cov
    split
    · exact c
    · exact cov_k d
/-- What spans say, and where they end, makes them. -/
theorem canon : ∀ {l l' : List api_Span} {g k : Int}, PropF g k l → PropF g k l' → endF (g - 1) l = endF (g - 1) l' → (∀ n, g ≤ n → cov l n = cov l' n) → l = l'
  | [], [], _, _, _, _, _, _ => rfl
  | [], s :: l, g, k, _, ⟨a, b, c, d, f⟩, h, _ => by
    have := cont_end f.cont
    have e : s.To + 1 - 1 = s.To := by omega
    rw [e] at this
    have h' : g - 1 = endF s.To l := h
    omega
  | s :: l, [], g, k, ⟨a, b, c, d, f⟩, _, h, _ => by
    have := cont_end f.cont
    have e : s.To + 1 - 1 = s.To := by omega
    rw [e] at this
    have h' : endF s.To l = g - 1 := h
    omega
  | s :: l, s' :: l', g, k, ⟨a, b, c, d, f⟩, ⟨a', b', c', d', f'⟩, h, hc => by
    have e : s.To + 1 - 1 = s.To := by omega
    have e' : s'.To + 1 - 1 = s'.To := by omega
    have h' : endF s.To l = endF s'.To l' := h
    have hk : s.Kind = s'.Kind := by
      have := hc g (Int.le_refl _)
      unfold cov at this
      rwa [if_pos ⟨by omega, by omega⟩, if_pos ⟨by omega, by omega⟩] at this
    -- neither is longer
    have no : ∀ {s s' : api_Span} {l l' : List api_Span}, s.From = g → g ≤ s.To → PropF (s.To + 1) s.Kind l → s'.From = g → g ≤ s'.To → Cont (s'.To + 1) l' → s.Kind = s'.Kind → endF s.To l = endF s'.To l' → (∀ n, g ≤ n → cov (s :: l) n = cov (s' :: l') n) → ¬ s.To < s'.To := by
      intro s s' l l' a b f a' b' f' hk h' hc hlt
      have e' : s'.To + 1 - 1 = s'.To := by omega
      have h2 := cont_end f'
      rw [e'] at h2
      have h3 := hc (s.To + 1) (by omega)
      cases l with
      | nil => have : s.To = endF s'.To l' := h'; omega
      | cons t l =>
        obtain ⟨q1, q2, q3, q4, q5⟩ := f
        unfold cov at h3
        rw [if_neg (by omega), if_pos ⟨by omega, by omega⟩] at h3
        unfold cov at h3
        rw [if_pos ⟨by omega, by omega⟩] at h3
        exact q4 (by rw [h3, hk])
    have t1 := no a b f a' b' f'.cont hk h' hc
    have t2 := no a' b' f' a b f.cont hk.symm h'.symm (fun n hn => (hc n hn).symm)
    have ht : s.To = s'.To := by omega
    have hs : s = s' := by
      obtain ⟨f1, t1, k1⟩ := s
      obtain ⟨f2, t2, k2⟩ := s'
      simp only at *
      subst a a' ht hk; rfl
    subst hs
    rw [canon f f' (by rw [e]; exact h') (fun n hn => by
      have := hc n (by omega)
      unfold cov at this
      rwa [if_neg (by omega), if_neg (by omega)] at this)]
/-! ### Neighbours of one kind are joined -/
def jn (c : api_Span) : List api_Span → List api_Span
  | [] => [c]
  | s :: l => if c.Kind = s.Kind then jn ⟨c.From, s.To, c.Kind⟩ l else c :: jn s l
def jnL : List api_Span → List api_Span
  | [] => []
  | s :: l => jn s l
theorem jn_ok : ∀ {l : List api_Span} {c : api_Span} {g k : Int}, c.From = g → g ≤ c.To → KOk c.Kind → c.Kind ≠ k → Cont (c.To + 1) l → PropF g k (jn c l) ∧ endF (g - 1) (jn c l) = endF c.To l ∧ ∀ n, cov (jn c l) n = cov (c :: l) n
  | [], c, g, k, a, b, h, d, _ => ⟨⟨a, b, h, d, trivial⟩, rfl, fun _ => rfl⟩
  | s :: l, c, g, k, a, b, h, d, ⟨a', b', h', d'⟩ => by
    unfold jn
    by_cases e : c.Kind = s.Kind
    · rw [if_pos e]
      obtain ⟨p1, p2, p3⟩ := jn_ok (l := l) (c := ⟨c.From, s.To, c.Kind⟩) (g := g) (k := k) a (by show g ≤ s.To; omega) h d d'
      refine ⟨p1, p2, fun n => ?_⟩
      rw [p3]
      unfold cov
      show (if c.From ≤ n ∧ n ≤ s.To then c.Kind else cov l n) = _
      by_cases h1 : c.From ≤ n ∧ n ≤ c.To
      · rw [if_pos h1, if_pos ⟨h1.1, by omega⟩]
      · rw [if_neg h1]
        show _ = cov (s :: l) n
        conv => rhs; unfold cov
        by_cases h2 : s.From ≤ n ∧ n ≤ s.To
        · rw [if_pos h2, if_pos ⟨by omega, h2.2⟩, e]
        · rw [if_neg h2, if_neg (by omega)]
    · rw [if_neg e]
      have e1 : c.To + 1 - 1 = c.To := by omega
      obtain ⟨p1, p2, p3⟩ := jn_ok (l := l) (c := s) (g := c.To + 1) (k := c.Kind) a' b' h' (fun k => e k.symm) d'
      refine ⟨⟨a, b, h, d, p1⟩, ?_, fun n => ?_⟩
      · show endF c.To (jn s l) = endF s.To l
        rw [← p2, e1]
      · show (if c.From ≤ n ∧ n ≤ c.To then c.Kind else cov (jn s l) n) = (if c.From ≤ n ∧ n ≤ c.To then c.Kind else cov (s :: l) n)
        rw [p3]
theorem jn_len : ∀ (l : List api_Span) (c : api_Span), (jn c l).length ≤ l.length + 1
  | [], _ => Nat.le_refl _
  | s :: l, c => by
    unfold jn
    have h1 := jn_len l ⟨c.From, s.To, c.Kind⟩
    have h2 := jn_len l s
    split <;> simp only [List.length_cons] <;> omega
theorem jnL_ok {l : List api_Span} {g : Int} (h : Cont g l) : PropF g 0 (jnL l) ∧ endF (g - 1) (jnL l) = endF (g - 1) l ∧ ∀ n, cov (jnL l) n = cov l n := by
  cases l with
  | nil => exact ⟨trivial, rfl, fun _ => rfl⟩
  | cons s l =>
    obtain ⟨a, b, c, d⟩ := h
    exact jn_ok a b c (by have := c.1; omega) d
theorem join_loop {z : List api_Span} (hz : z.length < 100000000) : ∀ (k i : Nat) (pre : List api_Span) (c : api_Span), i ≤ z.length → z.length < k + i → pre.length < i →
    f_coverage_join_api_Span_l1 z k (pre ++ [c]) i = some (pre ++ jn c (z.drop i)) := by
  intro k
  induction k with
  | zero => intro i _ _ h1 h2; omega
  | succ k ih =>
    intro i pre c h1 h2 h3
    rw [f_coverage_join_api_Span_l1]
    by_cases h : i < z.length
    · have e : z.drop i = z[i] :: z.drop (i + 1) := (List.getElem_cons_drop h).symm
      have hl : ((pre ++ [c]).length : Int) - 1 = (pre.length : Int) := by simp
      have w : IntKind.wrap .i64 (((pre ++ [c]).length : Int) - 1) = (pre.length : Int) := by rw [hl]; exact wrap_id (by omega) (by omega)
      refine ite_t (dec_t (by omega)) (bind_of (at_get h) (ite_t (dec_t (by simp)) (bind_of (y := c) (by rw [w]; exact at_nat (by simp)) ?_)))
      rw [w, wrap_up (by omega), e]
      by_cases hk : c.Kind = z[i].Kind
      · refine ite_t (by simpa using hk) ?_
        have es : (pre ++ [c]).set (pre.length : Int).toNat (⟨c.From, z[i].To, c.Kind⟩ : api_Span) = pre ++ [⟨c.From, z[i].To, c.Kind⟩] := by simp
        rw [es, ih (i + 1) pre _ (by omega) (by omega) (by omega)]
        conv => rhs; unfold jn
        rw [if_pos hk]
      · refine ite_f (by simpa using hk) (ck_of (fits_of (by simp; omega)) ?_)
        rw [ih (i + 1) (pre ++ [c]) z[i] (by omega) (by omega) (by simp; omega)]
        conv => rhs; unfold jn
        rw [if_neg hk, List.append_assoc]; rfl
    · obtain rfl : i = z.length := by omega
      rw [List.drop_length]
      exact ite_f (dec_f (by omega)) rfl
theorem join_ok {z : List api_Span} (hz : z.length < 100000000) : f_coverage_join_api_Span z = some (jnL z) := by
  unfold f_coverage_join_api_Span
  cases z with
  | nil => rfl
  | cons s l =>
    have e : ((((s :: l).length : Int) : Int) - 0).toNat + 1 = ((s :: l).length) + 1 := by omega
    rw [e, f_coverage_join_api_Span_l1]
    refine ite_t (dec_t (by simp)) (bind_of (show at_ (s :: l) 0 = some s from rfl) (ite_f rfl (ck_of rfl ?_)))
    have := join_loop (z := s :: l) hz (s :: l).length 1 [] s (by simp) (by omega) (by simp)
    exact this
end Go.Proofs.YthmjklpmamfncaaDoor.Gx

/- Spans: which are proper; what joining two lists says. -/
set_option linter.unusedVariables false
set_option maxRecDepth 100000
namespace Go.Proofs.YthmjklpmamfncaaDoor.Gx
open Go.Gx Go.RowKit
def prB : Int → Int → List api_Span → Bool
  | _, _, [] => true
  | g, k, s :: l => decide (s.From = g ∧ g ≤ s.To ∧ 1 ≤ s.Kind ∧ s.Kind ≤ 4 ∧ s.Kind ≠ k) && prB (s.To + 1) s.Kind l
theorem prB_iff : ∀ {l : List api_Span} {g k : Int}, prB g k l = true ↔ PropF g k l
  | [], _, _ => by simp [prB, PropF]
  | s :: l, g, k => by
    unfold prB PropF KOk
    rw [Bool.and_eq_true, decide_eq_true_eq, prB_iff]
    constructor
    · rintro ⟨⟨a, b, c, d, e⟩, f⟩; exact ⟨a, b, ⟨c, d⟩, e, f⟩
    · rintro ⟨a, b, ⟨c, d⟩, e, f⟩; exact ⟨⟨a, b, c, d, e⟩, f⟩
def is64 (n : Int) : Prop := -9223372036854775808 ≤ n ∧ n < 9223372036854775808
def Fit (l : List api_Span) : Prop := ∀ s ∈ l, is64 s.From ∧ is64 s.To ∧ is64 s.Kind
theorem prB_cons (g k : Int) (s : api_Span) (l : List api_Span) : prB g k (s :: l) = (decide (s.From = g ∧ g ≤ s.To ∧ 1 ≤ s.Kind ∧ s.Kind ≤ 4 ∧ s.Kind ≠ k) && prB (s.To + 1) s.Kind l) := rfl
theorem Proper_loop {z : List api_Span} (hz : z.length < 4611686018427387904) (hf : Fit z) : ∀ (k i : Nat) (g kk : Int), i ≤ z.length → z.length < k + i → 1 ≤ g → (i = 0 → g = 1 ∧ kk = 0) → (∀ j, i = j + 1 → ∃ p, z[j]? = some p ∧ g = p.To + 1 ∧ kk = p.Kind) →
    f_coverage_Proper_l1 z k i = some (prB g kk (z.drop i)) := by
  intro k
  induction k with
  | zero => intro i _ _ h1 h2; omega
  | succ k ih =>
    intro i g kk h1 h2 hg h0 hp
    rw [f_coverage_Proper_l1]
    by_cases h : i < z.length
    · have e : z.drop i = z[i] :: z.drop (i + 1) := (List.getElem_cons_drop h).symm
      have hm := List.getElem_mem h
      generalize hs : z[i] = s at e hm
      have hs' : z[i]? = some s := by rw [← hs]; exact List.getElem?_eq_getElem h
      obtain ⟨⟨f1, f2⟩, ⟨t1, t2⟩, ⟨k1, k2⟩⟩ := hf s hm
      rw [e, prB_cons]
      have next : 1 ≤ s.From → s.From ≤ s.To → f_coverage_Proper_l1 z k (IntKind.wrap .i64 ((i : Int) + 1)) = some (prB (s.To + 1) s.Kind (z.drop (i + 1))) := fun a b => by
        rw [wrap_up (by omega)]
        exact ih (i + 1) _ _ (by omega) (by omega) (by omega) (by omega) (fun j hj => ⟨s, (Nat.succ.inj hj) ▸ hs', rfl, rfl⟩)
      have no : ¬ (s.From = g ∧ g ≤ s.To ∧ 1 ≤ s.Kind ∧ s.Kind ≤ 4 ∧ s.Kind ≠ kk) → some (decide (s.From = g ∧ g ≤ s.To ∧ 1 ≤ s.Kind ∧ s.Kind ≤ 4 ∧ s.Kind ≠ kk) && prB (s.To + 1) s.Kind (z.drop (i + 1))) = some false := fun hn => by rw [dec_f hn, Bool.false_and]
      have yes : (s.From = g ∧ g ≤ s.To ∧ 1 ≤ s.Kind ∧ s.Kind ≤ 4 ∧ s.Kind ≠ kk) → some (decide (s.From = g ∧ g ≤ s.To ∧ 1 ≤ s.Kind ∧ s.Kind ≤ 4 ∧ s.Kind ≠ kk) && prB (s.To + 1) s.Kind (z.drop (i + 1))) = some (prB (s.To + 1) s.Kind (z.drop (i + 1))) := fun hn => by rw [dec_t hn, Bool.true_and]
      refine ite_t (dec_t (by omega)) (bind_of (at_nat hs') ?_)
      by_cases c1 : s.From < 1
      · exact ite_t (dec_t c1) (no (by omega)).symm
      refine ite_f (dec_f c1) ?_
      by_cases c2 : s.From > s.To
      · exact ite_t (dec_t c2) (no (by omega)).symm
      refine ite_f (dec_f c2) ?_
      by_cases c3 : s.Kind < 1
      · exact ite_t (dec_t c3) (no (by omega)).symm
      refine ite_f (dec_f c3) ?_
      by_cases c4 : s.Kind > 4
      · exact ite_t (dec_t c4) (no (by omega)).symm
      refine ite_f (dec_f c4) ?_
      cases i with
      | zero =>
        obtain ⟨rfl, rfl⟩ := h0 rfl
        refine ite_t rfl ?_
        by_cases c5 : s.From = 1
        · refine ite_f (by simp [c5]) (ite_f (dec_f (by omega)) ?_)
          rw [yes ⟨c5, by omega, by omega, by omega, by omega⟩]
          exact next (by omega) (by omega)
        · exact ite_t (by simp [c5]) (no (by omega)).symm
      | succ j =>
        obtain ⟨p, hpj, rfl, rfl⟩ := hp j rfl
        refine ite_f (by rw [beq_eq_false_iff_ne]; omega) (ite_t (dec_t (by omega)) (bind_of (by rw [wrap_dn (by omega)]; exact at_nat hpj) ?_))
        rw [wrap_id (n := s.From - 1) (by omega) (by omega)]
        by_cases c5 : p.To = s.From - 1
        · refine ite_f (by simp [c5]) ?_
          by_cases c6 : p.Kind = s.Kind
          · exact ite_t (by simpa using c6) (no (fun h => h.2.2.2.2 c6.symm)).symm
          · refine ite_f (by simpa using c6) ?_
            rw [yes ⟨by omega, by omega, by omega, by omega, fun h => c6 h.symm⟩]
            exact next (by omega) (by omega)
        · exact ite_t (by simpa using c5) (no (by omega)).symm
    · obtain rfl : i = z.length := by omega
      rw [List.drop_length]
      exact ite_f (dec_f (by omega)) rfl
theorem Proper_ok {z : List api_Span} (hz : z.length < 4611686018427387904) (hf : Fit z) : f_coverage_Proper z = some (prB 1 0 z) := by
  unfold f_coverage_Proper
  have e : (((z.length : Int) : Int) - 0).toNat + 1 = z.length + 1 := by omega
  rw [e]
  exact Proper_loop hz hf (z.length + 1) 0 1 0 (by omega) (by omega) (by omega) (fun _ => ⟨rfl, rfl⟩) (fun j h => by omega)
/-! ### Two lists, one behind the other -/
def mrg : Nat → Int → List api_Span → List api_Span → List api_Span
  | 0, _, _, _ => []
  | _ + 1, _, [], [] => []
  | n + 1, f, x :: a, [] => ⟨f, x.To, min 4 x.Kind⟩ :: mrg n (x.To + 1) a []
  | n + 1, f, [], y :: b => ⟨f, y.To, min 4 y.Kind⟩ :: mrg n (y.To + 1) [] b
  | n + 1, f, x :: a, y :: b => ⟨f, min x.To y.To, min (min 4 x.Kind) y.Kind⟩ :: mrg n (min x.To y.To + 1) (if x.To = min x.To y.To then a else x :: a) (if y.To = min x.To y.To then b else y :: b)
/-- The first span has f. -/
def Cov (f : Int) : List api_Span → Prop
  | [] => True
  | x :: a => x.From ≤ f ∧ f ≤ x.To ∧ KOk x.Kind ∧ Cont (x.To + 1) a
theorem Cont.cov : ∀ {l : List api_Span} {g : Int}, Cont g l → Cov g l
  | [], _, _ => trivial
  | s :: l, g, ⟨a, b, c, d⟩ => ⟨by omega, b, c, d⟩
theorem cov_tail {x : api_Span} {a : List api_Span} {n : Int} (h : x.To < n) : cov (x :: a) n = cov a n := by
  unfold cov
  rw [if_neg (by omega)]
  cases a <;> rfl
theorem cov_head {x : api_Span} {a : List api_Span} {n : Int} (h : x.From ≤ n) (h' : n ≤ x.To) : cov (x :: a) n = x.Kind := by
  unfold cov
  rw [if_pos ⟨h, h'⟩]
theorem min4 {k : Int} (h : KOk k) : min 4 k = k := by have := h.2; omega
theorem endF_ge {a : List api_Span} {g : Int} (h : Cont g a) : g - 1 ≤ endF (g - 1) a := cont_end h
theorem mrg_ok : ∀ (n : Nat) {f : Int} {a b : List api_Span}, Cov f a → Cov f b → a.length + b.length ≤ n →
    Cont f (mrg n f a b) ∧ (∀ m, f ≤ m → cov (mrg n f a b) m = min (cov a m) (cov b m)) ∧ endF (f - 1) (mrg n f a b) = max (endF (f - 1) a) (endF (f - 1) b) := by
  intro n
  induction n with
  | zero =>
    intro f a b ha hb h
    obtain rfl : a = [] := List.eq_nil_of_length_eq_zero (by omega)
    obtain rfl : b = [] := List.eq_nil_of_length_eq_zero (by omega)
    exact ⟨trivial, fun _ _ => rfl, by show f - 1 = max (f - 1) (f - 1); omega⟩
  | succ n ih =>
    intro f a b ha hb h
    match a, b, ha, hb, h with
    | [], [], _, _, _ => exact ⟨trivial, fun _ _ => rfl, by show f - 1 = max (f - 1) (f - 1); omega⟩
    | x :: a, [], ⟨a1, a2, a3, a4⟩, _, h =>
      have e : x.To + 1 - 1 = x.To := by omega
      have h4 := endF_ge a4
      obtain ⟨i1, i2, i3⟩ := ih (f := x.To + 1) (a := a) (b := []) a4.cov trivial (by simp at h ⊢; omega)
      rw [e] at i3 h4
      refine ⟨⟨rfl, a2, by rw [min4 a3]; exact a3, i1⟩, fun m hm => ?_, ?_⟩
      · unfold mrg
        by_cases hmt : m ≤ x.To
        · rw [cov_head (x := ⟨f, x.To, min 4 x.Kind⟩) hm hmt, cov_head (by omega) hmt, min4 a3]
          have := a3.2
          show x.Kind = min x.Kind 4
          omega
        · rw [cov_tail (x := ⟨f, x.To, min 4 x.Kind⟩) (by show x.To < m; omega), i2 m (by omega), cov_tail (x := x) (by omega)]
      · show endF x.To (mrg n (x.To + 1) a []) = max (endF x.To a) (f - 1)
        rw [i3]
        show max (endF x.To a) x.To = _
        omega
    | [], y :: b, _, ⟨a1, a2, a3, a4⟩, h =>
      have e : y.To + 1 - 1 = y.To := by omega
      have h4 := endF_ge a4
      obtain ⟨i1, i2, i3⟩ := ih (f := y.To + 1) (a := []) (b := b) trivial a4.cov (by simp at h ⊢; omega)
      rw [e] at i3 h4
      refine ⟨⟨rfl, a2, by rw [min4 a3]; exact a3, i1⟩, fun m hm => ?_, ?_⟩
      · unfold mrg
        by_cases hmt : m ≤ y.To
        · rw [cov_head (x := ⟨f, y.To, min 4 y.Kind⟩) hm hmt, cov_head (x := y) (by omega) hmt, min4 a3]
          have := a3.2
          show y.Kind = min 4 y.Kind
          omega
        · rw [cov_tail (x := ⟨f, y.To, min 4 y.Kind⟩) (by show y.To < m; omega), i2 m (by omega), cov_tail (x := y) (by omega)]
      · show endF y.To (mrg n (y.To + 1) [] b) = max (f - 1) (endF y.To b)
        rw [i3]
        show max y.To (endF y.To b) = _
        omega
    | x :: a, y :: b, ⟨a1, a2, a3, a4⟩, ⟨b1, b2, b3, b4⟩, h =>
      have ea : x.To + 1 - 1 = x.To := by omega
      have eb : y.To + 1 - 1 = y.To := by omega
      have h4 := endF_ge a4
      have h5 := endF_ge b4
      rw [ea] at h4
      rw [eb] at h5
      generalize ht : min x.To y.To = t
      have hx : t ≤ x.To := by omega
      have hy : t ≤ y.To := by omega
      have hf : f ≤ t := by omega
      have kk : KOk (min (min 4 x.Kind) y.Kind) := by rw [min4 a3]; have := a3.1; have := a3.2; have := b3.1; have := b3.2; exact ⟨by omega, by omega⟩
      have ca : Cov (t + 1) (if x.To = t then a else x :: a) := by
        split
        · rename_i e; rw [← e]; exact a4.cov
        · exact ⟨by omega, by omega, a3, a4⟩
      have cb : Cov (t + 1) (if y.To = t then b else y :: b) := by
        split
        · rename_i e; rw [← e]; exact b4.cov
        · exact ⟨by omega, by omega, b3, b4⟩
      have hlen : (if x.To = t then a else x :: a).length + (if y.To = t then b else y :: b).length ≤ n := by
        simp only [List.length_cons] at h
        have : x.To = t ∨ y.To = t := by omega
        rcases this with e | e
        · rw [if_pos e]; split <;> (try simp only [List.length_cons]) <;> omega
        · rw [if_pos e]; split <;> (try simp only [List.length_cons]) <;> omega
      obtain ⟨i1, i2, i3⟩ := ih (f := t + 1) ca cb hlen
      have e1 : t + 1 - 1 = t := by omega
      rw [e1] at i3
      have em : mrg (n + 1) f (x :: a) (y :: b) = ⟨f, t, min (min 4 x.Kind) y.Kind⟩ :: mrg n (t + 1) (if x.To = t then a else x :: a) (if y.To = t then b else y :: b) := by rw [← ht]; rfl
      rw [em]
      refine ⟨⟨rfl, hf, kk, i1⟩, fun m hm => ?_, ?_⟩
      · by_cases hmt : m ≤ t
        · rw [cov_head (x := ⟨f, t, min (min 4 x.Kind) y.Kind⟩) hm hmt, cov_head (x := x) (by omega) (by omega), cov_head (x := y) (by omega) (by omega), min4 a3]
        · rw [cov_tail (x := ⟨f, t, min (min 4 x.Kind) y.Kind⟩) (by show t < m; omega), i2 m (by omega)]
          have p1 : cov (if x.To = t then a else x :: a) m = cov (x :: a) m := by
            split
            · rw [cov_tail (x := x) (by omega)]
            · rfl
          have p2 : cov (if y.To = t then b else y :: b) m = cov (y :: b) m := by
            split
            · rw [cov_tail (x := y) (by omega)]
            · rfl
          rw [p1, p2]
      · show endF t (mrg n (t + 1) _ _) = max (endF x.To a) (endF y.To b)
        rw [i3]
        have p1 : endF t (if x.To = t then a else x :: a) = endF x.To a := by
          split
          · rename_i e; rw [e]
          · rfl
        have p2 : endF t (if y.To = t then b else y :: b) = endF y.To b := by
          split
          · rename_i e; rw [e]
          · rfl
        rw [p1, p2]
theorem mrg_len : ∀ (n : Nat) (f : Int) (a b : List api_Span), (mrg n f a b).length ≤ n := by
  intro n
  induction n with
  | zero => intro f a b; exact Nat.le_refl _
  | succ n ih =>
    intro f a b
    match a, b with
    | [], [] => exact Nat.zero_le _
    | x :: a, [] => have := ih (x.To + 1) a []; show (mrg n (x.To + 1) a []).length + 1 ≤ n + 1; omega
    | [], y :: b => have := ih (y.To + 1) [] b; show (mrg n (y.To + 1) [] b).length + 1 ≤ n + 1; omega
    | x :: a, y :: b =>
      have := ih (min x.To y.To + 1) (if x.To = min x.To y.To then a else x :: a) (if y.To = min x.To y.To then b else y :: b)
      show (mrg n _ _ _).length + 1 ≤ n + 1
      omega
/-- What the program's loop makes. -/
theorem Merge_loop {A B : List api_Span} (hA : A.length < 1000000) (hB : B.length < 1000000) (sA : ∀ s ∈ A, is64 (s.To + 1) ∧ is64 s.To) (sB : ∀ s ∈ B, is64 (s.To + 1) ∧ is64 s.To) : ∀ (n : Nat) (acc : List api_Span) (f : Int) (i k : Nat), i ≤ A.length → k ≤ B.length → (A.length - i) + (B.length - k) ≤ n → acc.length + n ≤ 2000000 →
    f_coverage_Merge_l1 A B (n + 1) acc f i k = f_coverage_Merge_j5 (acc ++ mrg n f (A.drop i) (B.drop k)) := by
  intro n
  induction n with
  | zero =>
    intro acc f i k h1 h2 h3 h4
    obtain rfl : i = A.length := by omega
    obtain rfl : k = B.length := by omega
    rw [f_coverage_Merge_l1]
    refine ite_f (dec_f (by omega)) (ite_f (dec_f (by omega)) ?_)
    unfold mrg
    rw [List.append_nil]
  | succ n ih =>
    intro acc f i k h1 h2 h3 h4
    rw [f_coverage_Merge_l1]
    have step : ∀ (t kd : Int) (i' k' : Nat), is64 (t + 1) → i' ≤ A.length → k' ≤ B.length → (A.length - i') + (B.length - k') ≤ n →
        f_coverage_Merge_j4 acc f t i' (f_coverage_Merge_l1 A B (n + 1)) k' kd = f_coverage_Merge_j5 (acc ++ (⟨f, t, kd⟩ :: mrg n (t + 1) (A.drop i') (B.drop k'))) := by
      intro t kd i' k' ht q1 q2 q3
      unfold f_coverage_Merge_j4
      refine ck_of (fits_of (by simp; omega)) ?_
      rw [wrap_id ht.1 ht.2, ih _ _ i' k' q1 q2 q3 (by simp; omega), List.append_assoc]; rfl
    by_cases hi : i < A.length
    · have ea : A.drop i = A[i] :: A.drop (i + 1) := (List.getElem_cons_drop hi).symm
      have sx := sA _ (List.getElem_mem hi)
      have gx := at_get hi
      generalize A[i] = x at ea sx gx
      refine ite_t (dec_t (by omega)) ?_
      unfold f_coverage_Merge_j1
      refine ite_f (by rw [beq_eq_false_iff_ne]; omega) ?_
      by_cases hk : k < B.length
      · have eb : B.drop k = B[k] :: B.drop (k + 1) := (List.getElem_cons_drop hk).symm
        have sy := sB _ (List.getElem_mem hk)
        have gy := at_get hk
        generalize B[k] = y at eb sy gy
        refine ite_f (by rw [beq_eq_false_iff_ne]; omega) (bind_of gx (bind_of gy ?_))
        have em : mrg (n + 1) f (A.drop i) (B.drop k) = ⟨f, min x.To y.To, min (min 4 x.Kind) y.Kind⟩ :: mrg n (min x.To y.To + 1) (if x.To = min x.To y.To then A.drop (i + 1) else A.drop i) (if y.To = min x.To y.To then B.drop (k + 1) else B.drop k) := by
          rw [ea, eb]; rfl
        rw [em]
        have h64 : is64 (min x.To y.To + 1) := by
          rcases Int.le_total x.To y.To with h | h
          · rw [Int.min_eq_left h]; exact sx.1
          · rw [Int.min_eq_right h]; exact sy.1
        generalize ht : min x.To y.To = t at h64 ⊢
        unfold f_coverage_Merge_j2
        refine ite_t (dec_t (by omega)) (bind_of gx ?_)
        have j3 : ∀ (i' : Nat) (kd : Int), f_coverage_Merge_j3 B acc f k t (f_coverage_Merge_l1 A B (n + 1)) i' kd = if y.To = t then f_coverage_Merge_j4 acc f t i' (f_coverage_Merge_l1 A B (n + 1)) ((k + 1 : Nat) : Int) (min kd y.Kind) else f_coverage_Merge_j4 acc f t i' (f_coverage_Merge_l1 A B (n + 1)) k (min kd y.Kind) := by
          intro i' kd
          unfold f_coverage_Merge_j3
          refine ite_t (dec_t (by omega)) (bind_of gy ?_)
          by_cases e : y.To = t
          · rw [if_pos e]; exact ite_t (by simpa using e) (by rw [wrap_up (by omega)])
          · rw [if_neg e]; exact ite_f (by simpa using e) rfl
        by_cases e1 : x.To = t
        · refine ite_t (by simpa using e1) ?_
          rw [wrap_up (by omega), j3, if_pos e1]
          by_cases e2 : y.To = t
          · rw [if_pos e2, if_pos e2]; exact step t _ (i + 1) (k + 1) h64 (by omega) (by omega) (by omega)
          · rw [if_neg e2, if_neg e2]; exact step t _ (i + 1) k h64 (by omega) (by omega) (by omega)
        · have e2 : y.To = t := by omega
          refine ite_f (by simpa using e1) ?_
          rw [j3, if_neg e1, if_pos e2, if_pos e2]
          exact step t _ i (k + 1) h64 (by omega) (by omega) (by omega)
      · obtain rfl : k = B.length := by omega
        refine ite_t (by simp) (bind_of gx ?_)
        have em : mrg (n + 1) f (A.drop i) (B.drop B.length) = ⟨f, x.To, min 4 x.Kind⟩ :: mrg n (x.To + 1) (A.drop (i + 1)) (B.drop B.length) := by
          rw [ea, List.drop_length]; rfl
        rw [em]
        unfold f_coverage_Merge_j2
        refine ite_t (dec_t (by omega)) (bind_of gx (ite_t (by simp) ?_))
        rw [wrap_up (by omega)]
        unfold f_coverage_Merge_j3
        refine ite_f (dec_f (by omega)) ?_
        exact step x.To _ (i + 1) B.length sx.1 (by omega) (by omega) (by omega)
    · obtain rfl : i = A.length := by omega
      refine ite_f (dec_f (by omega)) ?_
      by_cases hk : k < B.length
      · have eb : B.drop k = B[k] :: B.drop (k + 1) := (List.getElem_cons_drop hk).symm
        have sy := sB _ (List.getElem_mem hk)
        have gy := at_get hk
        generalize B[k] = y at eb sy gy
        refine ite_t (dec_t (by omega)) ?_
        unfold f_coverage_Merge_j1
        refine ite_t (by simp) (bind_of gy ?_)
        have em : mrg (n + 1) f (A.drop A.length) (B.drop k) = ⟨f, y.To, min 4 y.Kind⟩ :: mrg n (y.To + 1) (A.drop A.length) (B.drop (k + 1)) := by
          rw [eb, List.drop_length]; rfl
        rw [em]
        unfold f_coverage_Merge_j2
        refine ite_f (dec_f (by omega)) ?_
        unfold f_coverage_Merge_j3
        refine ite_t (dec_t (by omega)) (bind_of gy (ite_t (by simp) ?_))
        rw [wrap_up (by omega)]
        exact step y.To _ A.length (k + 1) sy.1 (by omega) (by omega) (by omega)
      · refine ite_f (dec_f (by omega)) ?_
        obtain rfl : k = B.length := by omega
        rw [List.drop_length, List.drop_length]
        unfold mrg
        rw [List.append_nil]
end Go.Proofs.YthmjklpmamfncaaDoor.Gx

/- Function 17, (*kaudit/kauditmill.Case).Int: what it answers as a plain function, and that the Go code comes to exactly that (where the plain function gives an answer). -/
set_option linter.unusedVariables false
set_option linter.unusedSimpArgs false
namespace Go.Proofs.YthmjklpmamfncaaDoor.Gx
open Go.Gx Go.RowKit
noncomputable section
/-! ### (*kaudit/kauditmill.Case).Int: function 17 -/
def f_kauditmill_Case_Int (z0 : kauditmill_Case) (z1 : Int) : Option (Int × Int) := if (decide (z1 < 2)) = true then (some (0, z0.at_)) else (if (decide (z0.at_ ≥ (z0.codes.length : Int))) = true then (some (0, z0.at_)) else ((at_ z0.codes (IntKind.wrap .i64 ((IntKind.wrap .i64 (z0.at_ + 1)) - 1))).bind fun el23 => ck (z1 ≠ 0) <| some ((((IntKind.wrap .i64 el23) : Int).tmod z1), (IntKind.wrap .i64 (z0.at_ + 1)))))
set_option maxHeartbeats 4000000 in
set_option maxRecDepth 100000 in
theorem C17 (z0 : kauditmill_Case) (z1 : Int) (g_ : Nat) (p1 : Option Addr) (m2 : Nat) (c3 : Nat) (r : Int × Int) (h : f_kauditmill_Case_Int z0 z1 = some r) : FunG Tryd.prog 17 #[.pointer (some ⟨g_, 0, none⟩), .int .i64 z1] [vw (kSlice 5 (kInt .u8)) z0.codes [.slice p1 m2 c3], g_pow10, g_kinds] [[blk g_ [.slice p1 m2 c3, .int .i64 z0.at_] 43]] (fun (_ : Unit) => .int .i64 r.1) (fun _ => []) (fun _ => [[blk g_ [.slice p1 m2 c3, .int .i64 r.2] 43]]) := by
  unfold f_kauditmill_Case_Int at h
  refine t_begin (args := [.pointer (some ⟨g_, 0, none⟩), .int .i64 z1]) Tryd.func17 rfl Tryd.ntmps17 rfl fun c R hR => ?_
  have hQ : ∀ X, X = r → ∀ w2 (_ : Unit), PostG c.w0 w2 c.M c.Y [] [[blk g_ [.slice p1 m2 c3, .int .i64 X.2] 43]] → R (.returned (.int .i64 X.1)) w2 := fun X e => by subst e; exact hR
  refine t_seq fun K4 hK5 => ?_
  refine t_region ?_
  refine c_p (r_as rfl) rfl ?_
  refine t_nil ?_
  refine t_then hK5 ?_
  refine t_seq fun K6 hK7 => ?_
  refine t_seq fun K8 hK9 => ?_
  refine t_quiet mixed (by kernel_rfl) (panic_then (panic_then panic_body)) ?_
  refine k_p (r_mv rfl) rfl ?_
  refine k_p (r_i rfl rfl rfl) rfl ?_
  refine k_p (r_mv rfl) rfl ?_
  rcases Bool.eq_false_or_eq_true (decide (z1 < 2)) with hb10 | hb10
  · replace h := itT hb10 h
    refine k_x rfl rfl hb10 rfl ?_
    refine k_x rfl rfl hb10 rfl ?_
    refine k_x rfl rfl hb10 rfl ?_
    refine k_x rfl rfl hb10 rfl ?_
    refine k_x rfl rfl hb10 rfl ?_
    refine k_x rfl rfl hb10 rfl ?_
    refine k_x rfl rfl hb10 rfl ?_
    refine k_x rfl rfl hb10 rfl ?_
    refine k_x rfl rfl hb10 rfl ?_
    refine k_x rfl rfl hb10 rfl ?_
    refine k_p (r_pT rfl hb10 rfl) rfl ?_
    refine k_z ?_
    refine t_then hK9 ?_
    refine t_T rfl rfl ?_
    refine t_seq fun K11 hK12 => ?_
    refine t_region ?_
    refine c_p (r_as rfl) rfl ?_
    refine t_nil ?_
    refine t_then hK12 ?_
    refine t_ret ?_
    exact tr (ret1 rfl (v_t rfl) (t_leave (hQ _ (Option.some.inj h)) () rfl (fun w Z hA => V0) (.cons e0 .nil)))
  · replace h := itF hb10 h
    refine kg_p rfl rfl hb10 (r_mv rfl) rfl ?_
    refine kg_p rfl rfl hb10 (r_nc rfl) rfl ?_
    refine kg_p rfl rfl hb10 (r_fa (off' := 1) Tryd.underlying43 rfl ti3 rfl rfl) rfl ?_
    refine kg_s rfl rfl hb10 (r_ld a0 Tryd.underlying3 rfl rfl rfl) rfl ?_
    refine kg_p rfl rfl hb10 (r_mv rfl) rfl ?_
    refine kg_p rfl rfl hb10 (r_nc rfl) rfl ?_
    refine kg_p rfl rfl hb10 (r_fa (off' := 0) Tryd.underlying43 rfl ti22 rfl rfl) rfl ?_
    refine kg_s rfl rfl hb10 (r_ld a0 Tryd.underlying22 rfl rfl rfl) rfl ?_
    refine kg_s rfl rfl hb10 (r_lnA a0 Tryd.underlying22 rfl) rfl ?_
    refine kg_p rfl rfl hb10 (r_i rfl rfl rfl) rfl ?_
    refine k_p (r_pF rfl hb10 rfl) rfl ?_
    refine k_z ?_
    refine t_then hK9 ?_
    rcases Bool.eq_false_or_eq_true (decide (z0.at_ ≥ (z0.codes.length : Int))) with hb13 | hb13
    · replace h := itT hb13 h
      refine t_T rfl hb13 ?_
      refine t_seq fun K14 hK15 => ?_
      refine t_region ?_
      refine c_p (r_as rfl) rfl ?_
      refine t_nil ?_
      refine t_then hK15 ?_
      refine t_ret ?_
      exact tr (ret1 rfl (v_t rfl) (t_leave (hQ _ (Option.some.inj h)) () rfl (fun w Z hA => V0) (.cons e0 .nil)))
    · replace h := itF hb13 h
      refine t_F rfl hb13 ?_
      refine t_skip ?_
      refine t_then hK7 ?_
      refine t_seq fun K16 hK17 => ?_
      refine t_region ?_
      refine c_p (r_mv rfl) rfl ?_
      refine c_p (r_nc rfl) rfl ?_
      refine c_p (r_fa (off' := 1) Tryd.underlying43 rfl ti3 rfl rfl) rfl ?_
      refine c_s (r_ld a0 Tryd.underlying3 rfl rfl rfl) rfl ?_
      refine c_p (r_i rfl rfl rfl) rfl ?_
      refine c_p (r_nc rfl) rfl ?_
      refine c_p (r_fa (off' := 1) Tryd.underlying43 rfl ti3 rfl rfl) rfl ?_
      refine nx (t_st u0 ti3 rfl rfl rfl rfl rfl (.s (.t (.s .z))) ?_)
      refine t_nil ?_
      refine t_then hK17 ?_
      refine t_seq fun K18 hK19 => ?_
      refine t_quiet mixed (by kernel_rfl) (panic_then panic_body) ?_
      refine k_p (r_mv rfl) rfl ?_
      refine k_p (r_nc rfl) rfl ?_
      refine k_p (r_fa (off' := 0) Tryd.underlying43 rfl ti22 rfl rfl) rfl ?_
      refine k_s (r_ld a0 Tryd.underlying22 rfl rfl rfl) rfl ?_
      refine k_p (r_mv rfl) rfl ?_
      refine k_p (r_nc rfl) rfl ?_
      refine k_p (r_fa (off' := 1) Tryd.underlying43 rfl ti3 rfl rfl) rfl ?_
      refine k_s (r_ld a0 Tryd.underlying3 rfl rfl rfl) rfl ?_
      refine k_p (r_i rfl rfl rfl) rfl ?_
      obtain ⟨el23, hel23, h⟩ := bs h
      refine t_q a0 hel23 fun q20 hq21 hm22 => ?_
      refine k_p (r_idx hq21 hm22 hel23 Tryd.underlying22 ti5 rfl rfl) rfl ?_
      refine t_op (opens_int .u8) a0 hel23 fun t24 => ?_
      refine k_s (r_e1 a0 hq21 Tryd.underlying5 rfl rfl rfl) rfl ?_
      refine k_p (r_ci Tryd.underlying5 Tryd.underlying3 rfl) rfl ?_
      refine k_p (r_mv rfl) rfl ?_
      obtain ⟨hc25, h⟩ := ck_out h
      refine k_p (r_rem rfl rfl hc25) rfl ?_
      refine k_p (r_as rfl) rfl ?_
      refine k_z ?_
      refine t_then hK19 ?_
      refine t_ret ?_
      exact ret1 rfl (v_t rfl) (t_leave (hQ _ (Option.some.inj h)) () rfl (fun w Z hA => V0) (.cons e0 .nil))
end
end Go.Proofs.YthmjklpmamfncaaDoor.Gx

/- Function 22, (*kaudit/kauditmill.Case).Pick: what it answers as a plain function, and that the Go code comes to exactly that (where the plain function gives an answer). -/
set_option linter.unusedVariables false
set_option linter.unusedSimpArgs false
namespace Go.Proofs.YthmjklpmamfncaaDoor.Gx
open Go.Gx Go.RowKit
noncomputable section
/-! ### (*kaudit/kauditmill.Case).Pick: function 22 -/
def f_kauditmill_Case_Pick (z0 : kauditmill_Case) (z1 : (List Int)) : Option (Int × Int) := (f_kauditmill_Case_Int z0 (z1.length : Int)).bind fun y11 => (at_ z1 y11.1).bind fun el16 => some (el16, y11.2)
set_option maxHeartbeats 4000000 in
set_option maxRecDepth 100000 in
theorem C22 (z0 : kauditmill_Case) (z1 : (List Int)) (g_ : Nat) (p1 : Option Addr) (m2 : Nat) (c3 : Nat) (p4 : Option Addr) (m5 : Nat) (c6 : Nat) (r : Int × Int) (h : f_kauditmill_Case_Pick z0 z1 = some r) : FunG Tryd.prog 22 #[.pointer (some ⟨g_, 0, none⟩), .slice p4 m5 c6] [vw (kSlice 5 (kInt .u8)) z0.codes [.slice p1 m2 c3], vw (kSlice 3 (kInt .i64)) z1 [.slice p4 m5 c6], g_pow10, g_kinds] [[blk g_ [.slice p1 m2 c3, .int .i64 z0.at_] 43]] (fun (_ : Unit) => .int .i64 r.1) (fun _ => []) (fun _ => [[blk g_ [.slice p1 m2 c3, .int .i64 r.2] 43]]) := by
  unfold f_kauditmill_Case_Pick at h
  refine t_begin (args := [.pointer (some ⟨g_, 0, none⟩), .slice p4 m5 c6]) Tryd.func22 rfl Tryd.ntmps22 rfl fun c R hR => ?_
  have hQ : ∀ X, X = r → ∀ w2 (_ : Unit), PostG c.w0 w2 c.M c.Y [] [[blk g_ [.slice p1 m2 c3, .int .i64 X.2] 43]] → R (.returned (.int .i64 X.1)) w2 := fun X e => by subst e; exact hR
  refine t_seq fun K7 hK8 => ?_
  refine t_region ?_
  refine c_p (r_as rfl) rfl ?_
  refine t_nil ?_
  refine t_then hK8 ?_
  refine t_seq fun K9 hK10 => ?_
  refine t_region ?_
  refine c_p (r_mv rfl) rfl ?_
  refine c_p (r_mv rfl) rfl ?_
  refine c_p (r_mv rfl) rfl ?_
  refine c_s (r_lnA a1 Tryd.underlying49 rfl) rfl ?_
  obtain ⟨y11, hy11, h⟩ := bs h
  refine nx (t_ca (C17 _ _ _ _ _ _ _ hy11) Tryd.func17 nm17 rfl rfl rfl (.cons e0 .nil) (fun w Z hA => (V1 a0 hA (V1 a2 hA (V1 a3 hA V0)))) rfl fun t12 => ?_)
  obtain ⟨el16, hel16, h⟩ := bs h
  refine t_q a1 hel16 fun q13 hq14 hm15 => ?_
  refine c_p (r_idx hq14 hm15 hel16 Tryd.underlying49 ti3 rfl rfl) rfl ?_
  refine t_op (opens_int .i64) a1 hel16 fun t17 => ?_
  refine c_s (r_e1 a0 hq14 Tryd.underlying3 rfl rfl rfl) rfl ?_
  refine c_p (r_as rfl) rfl ?_
  refine t_nil ?_
  refine t_then hK10 ?_
  refine t_ret ?_
  exact ret1 rfl (v_t rfl) (t_leave (hQ _ (Option.some.inj h)) () rfl (fun w Z hA => V0) (.cons e0 .nil))
end
end Go.Proofs.YthmjklpmamfncaaDoor.Gx

/- The generator of inputs (mill): what its numbers are. -/
set_option linter.unusedVariables false
namespace Go.Proofs.YthmjklpmamfncaaDoor.Gx
open Go.Gx Go.RowKit
/-- A list of codes, and a place in it. -/
structure COk (cs : List Int) (a : Int) : Prop where
  lo : 0 ≤ a
  hi : a ≤ cs.length
  len : cs.length ≤ 1000000
  byte : ∀ x ∈ cs, 0 ≤ x ∧ x < 256
theorem COk.zero {cs : List Int} (h : cs.length ≤ 1000000) (hb : ∀ x ∈ cs, 0 ≤ x ∧ x < 256) : COk cs 0 := ⟨by omega, by omega, h, hb⟩
theorem Int_ok {cs : List Int} {a n : Int} (C : COk cs a) (hn : n < 4611686018427387904) :
    ∃ v a', f_kauditmill_Case_Int ⟨cs, a⟩ n = some (v, a') ∧ 0 ≤ v ∧ (2 ≤ n → v < n) ∧ (n < 2 → v = 0) ∧ COk cs a' ∧ a ≤ a' ∧ v < 256 := by
  obtain ⟨h0, h1, h2, hb⟩ := C
  unfold f_kauditmill_Case_Int
  by_cases hs : n < 2
  · exact ⟨0, a, ite_t (dec_t hs) rfl, by omega, by omega, fun _ => rfl, ⟨h0, h1, h2, hb⟩, by omega, by omega⟩
  · by_cases he : a ≥ cs.length
    · exact ⟨0, a, ite_f (dec_f hs) (ite_t (dec_t he) rfl), by omega, by omega, fun _ => rfl, ⟨h0, h1, h2, hb⟩, by omega, by omega⟩
    · have e1 : IntKind.wrap .i64 (a + 1) = a + 1 := wrap_id (by omega) (by omega)
      have e2 : IntKind.wrap .i64 (a + 1 - 1) = a := by rw [wrap_id] <;> omega
      obtain ⟨u, hu, hm⟩ := at_lt (xs := cs) h0 (by omega)
      obtain ⟨b0, b1⟩ := hb u hm
      have e3 : IntKind.wrap .i64 u = u := wrap_id (by omega) (by omega)
      have m0 := Int.emod_nonneg u (show n ≠ 0 by omega)
      have m1 := Int.emod_lt_of_pos u (show 0 < n by omega)
      have m2 : u % n ≤ u := by
        obtain ⟨p, rfl⟩ := Int.eq_ofNat_of_zero_le b0
        obtain ⟨q, rfl⟩ := Int.eq_ofNat_of_zero_le (show 0 ≤ n by omega)
        have := Nat.mod_le p q
        omega
      refine ⟨u.tmod n, a + 1, ite_f (dec_f hs) (ite_f (dec_f he) ?_), ?_, ?_, by omega, ⟨by omega, by omega, h2, hb⟩, by omega, ?_⟩
      · show (at_ cs _).bind _ = _
        rw [e1, e2]
        refine bind_of hu (ck_of (by omega) ?_)
        rw [e3]
      all_goals rw [tmod_nn b0]
      · exact m0
      · exact fun _ => m1
      · omega
theorem Pick_ok {cs : List Int} {a : Int} (C : COk cs a) {l : List Int} (hl : l ≠ []) (hl' : l.length < 4611686018427387904) :
    ∃ u a', f_kauditmill_Case_Pick ⟨cs, a⟩ l = some (u, a') ∧ u ∈ l ∧ COk cs a' ∧ a ≤ a' := by
  have := List.length_pos_iff.2 hl
  obtain ⟨v, a', hr, v0, v1, v2, C', ha, _⟩ := Int_ok (n := l.length) C (by omega)
  have : v < l.length := by
    by_cases h : (2 : Int) ≤ l.length
    · exact v1 h
    · have := v2 (by omega); omega
  obtain ⟨u, hu, hm⟩ := at_lt v0 this
  exact ⟨u, a', by unfold f_kauditmill_Case_Pick; exact bind_of hr (bind_of hu rfl), hm, C', ha⟩
end Go.Proofs.YthmjklpmamfncaaDoor.Gx

/- Function 6, kaudit/kauditlaw40.spans: what it answers as a plain function, and that the Go code comes to exactly that (where the plain function gives an answer). -/
set_option linter.unusedVariables false
set_option linter.unusedSimpArgs false
namespace Go.Proofs.YthmjklpmamfncaaDoor.Gx
open Go.Gx Go.RowKit
noncomputable section
/-! ### kaudit/kauditlaw40.spans: function 6 -/
def f_kauditlaw40_spans_j1 (x97 : List api_Span) (x98 : Int) (x100 : Int) (y115 : Int × Int) (y119 : Int × Int) (rec_f_kauditlaw40_spans_l1 : Int → List api_Span → Int → Int → Int → Option ((List api_Span) × Int)) (x126 : Int) : Option ((List api_Span) × Int) := ck (fits (x97.length + [(⟨x98, (IntKind.wrap .i64 ((IntKind.wrap .i64 (x98 + (IntKind.wrap .i64 (1 + y115.1)))) - 1)), x126⟩ : api_Span)].length) 24 = true) <| rec_f_kauditlaw40_spans_l1 y119.2 (x97 ++ [(⟨x98, (IntKind.wrap .i64 ((IntKind.wrap .i64 (x98 + (IntKind.wrap .i64 (1 + y115.1)))) - 1)), x126⟩ : api_Span)]) (IntKind.wrap .i64 (x98 + (IntKind.wrap .i64 (1 + y115.1)))) x126 (IntKind.wrap .i64 (x100 - 1))
def f_kauditlaw40_spans_l1 (z0 : kauditmill_Case) : Nat → Int → List api_Span → Int → Int → Int → Option ((List api_Span) × Int)
  | 0, _, _, _, _, _ => none
  | k103 + 1, x93, x97, x98, x99, x100 => if (decide (x100 > 0)) = true then ((f_kauditmill_Case_Pick (⟨z0.codes, x93⟩ : kauditmill_Case) [0, 0, 2, 9, 100]).bind fun y115 => (f_kauditmill_Case_Int (⟨z0.codes, y115.2⟩ : kauditmill_Case) 4).bind fun y119 => if ((IntKind.wrap .i64 (1 + y119.1)) == x99) = true then (f_kauditlaw40_spans_j1 x97 x98 x100 y115 y119 (f_kauditlaw40_spans_l1 z0 k103) (IntKind.wrap .i64 (1 + ((x99 : Int).tmod 4)))) else (f_kauditlaw40_spans_j1 x97 x98 x100 y115 y119 (f_kauditlaw40_spans_l1 z0 k103) (IntKind.wrap .i64 (1 + y119.1)))) else (some (x97, x93))
def f_kauditlaw40_spans (z0 : kauditmill_Case) : Option ((List api_Span) × Int) := (f_kauditmill_Case_Int z0 7).bind fun y14 => f_kauditlaw40_spans_l1 z0 (((y14.1 : Int) - (0)).toNat + 1) y14.2 ([] : List api_Span) 1 0 y14.1
set_option maxHeartbeats 4000000 in
set_option maxRecDepth 100000 in
theorem C6 (z0 : kauditmill_Case) (g_ : Nat) (p1 : Option Addr) (m2 : Nat) (c3 : Nat) (r : (List api_Span) × Int) (h : f_kauditlaw40_spans z0 = some r) : FunG Tryd.prog 6 #[.pointer (some ⟨g_, 0, none⟩)] [vw (kSlice 5 (kInt .u8)) z0.codes [.slice p1 m2 c3], g_pow10, g_kinds] [[blk g_ [.slice p1 m2 c3, .int .i64 z0.at_] 43]] (fun t : (Option Addr × Nat × Nat) => .slice t.1 t.2.1 t.2.2) (fun t => []) (fun t => [[blk g_ [.slice p1 m2 c3, .int .i64 r.2] 43], [row 46 k_api_Span r.1 (.slice t.1 t.2.1 t.2.2)]]) := by
  unfold f_kauditlaw40_spans at h
  refine t_begin (args := [.pointer (some ⟨g_, 0, none⟩)]) Tryd.func6 rfl Tryd.ntmps6 rfl fun c R hR => ?_
  have hQ : ∀ X, X = r → ∀ w2 (t : (Option Addr × Nat × Nat)), PostG c.w0 w2 c.M c.Y [] [[blk g_ [.slice p1 m2 c3, .int .i64 X.2] 43], [row 46 k_api_Span X.1 (.slice t.1 t.2.1 t.2.2)]] → R (.returned (.slice t.1 t.2.1 t.2.2)) w2 := fun X e => by subst e; exact hR
  refine t_seq fun K4 hK5 => ?_
  refine t_region ?_
  refine c_p (r_as rfl) rfl ?_
  refine t_nil ?_
  refine t_then hK5 ?_
  refine t_seq fun K6 hK7 => ?_
  refine t_region ?_
  refine c_p (r_as rfl) rfl ?_
  refine t_nil ?_
  refine t_then hK7 ?_
  refine t_seq fun K8 hK9 => ?_
  refine t_region ?_
  refine c_p (r_as rfl) rfl ?_
  refine c_p (r_as rfl) rfl ?_
  refine t_nil ?_
  refine t_then hK9 ?_
  refine t_seq fun K10 hK11 => ?_
  refine t_seq fun K12 hK13 => ?_
  refine t_region ?_
  refine c_p (r_mv rfl) rfl ?_
  obtain ⟨y14, hy14, h⟩ := bs h
  refine nx (t_ca (C17 _ _ _ _ _ _ _ hy14) Tryd.func17 nm17 rfl rfl rfl (.cons e0 .nil) (fun w Z hA => (V1 a0 hA (V1 a1 hA (V1 a2 hA V0)))) rfl fun t15 => ?_)
  refine c_p (r_as rfl) rfl ?_
  refine t_nil ?_
  refine t_then hK13 ?_
  refine t_block ?_
  refine t_nr 46 k_api_Span ?_
  refine t_lp fun k91 hk92 => ?_
  have LP101 : ∀ (k103 : Nat) (x93 : Int) (p94 : Option Addr) (m95 : Nat) (c96 : Nat) (x97 : List api_Span) (x98 : Int) (x99 : Int) (x100 : Int), f_kauditlaw40_spans_l1 z0 k103 x93 x97 x98 x99 x100 = some r → T 43 c [vw (kSlice 5 (kInt .u8)) z0.codes [.slice p1 m2 c3], g_pow10, g_kinds] [[blk g_ [.slice p1 m2 c3, .int .i64 x93] 43], [row 46 k_api_Span x97 (.slice p94 m95 c96)]] [(0, .pointer (some ⟨g_, 0, none⟩)), (3, .slice p94 m95 c96), (4, .int .i64 x98), (5, .int .i64 x99), (6, .int .i64 x100)] k91 := by
    intro k103
    induction k103 with
    | zero => intro x93 p94 m95 c96 x97 x98 x99 x100 h102; rewrite [f_kauditlaw40_spans_l1] at h102; cases h102
    | succ k103 ih104 =>
      intro x93 p94 m95 c96 x97 x98 x99 x100 h102
      rewrite [f_kauditlaw40_spans_l1] at h102
      refine ti hk92 ?_
      refine t_seq fun K105 hK106 => ?_
      refine t_seq fun K107 hK108 => ?_
      refine t_region ?_
      refine c_p (r_mv rfl) rfl ?_
      refine c_p (r_i rfl rfl rfl) rfl ?_
      refine t_nil ?_
      refine t_then hK108 ?_
      rcases Bool.eq_false_or_eq_true (decide (x100 > 0)) with hb109 | hb109
      · replace h102 := itT hb109 h102
        refine t_T rfl hb109 ?_
        refine t_skip ?_
        refine t_then hK106 ?_
        refine t_seq fun K110 hK111 => ?_
        refine t_block ?_
        refine t_seq fun K112 hK113 => ?_
        refine t_region ?_
        refine c_p (r_mv rfl) rfl ?_
        refine nx (t_bs (ps := [(0, .int .i64 0), (1, .int .i64 0), (2, .int .i64 2), (3, .int .i64 9), (4, .int .i64 100)]) (cs := [.int .i64 0, .int .i64 0, .int .i64 2, .int .i64 9, .int .i64 100]) Tryd.underlying49 ti3 rfl rfl (by kernel_rfl) rfl fun g114 => ?_)
        refine t_tr (Kd := (kInt .i64)) (xs := [0, 0, 2, 9, 100]) (.cons e0 .nil) rfl (fun w Z S hA hN => flat_EO (S := Nil) (flatK_int .i64) (er1 (c1 := [.int .i64 0]) rfl (er1 (c1 := [.int .i64 0]) rfl (er1 (c1 := [.int .i64 2]) rfl (er1 (c1 := [.int .i64 9]) rfl (er1 (c1 := [.int .i64 100]) rfl er0)))))) ?_
        obtain ⟨y115, hy115, h102⟩ := bs h102
        refine nx (t_cf (C22 _ _ _ _ _ _ _ _ _ _ hy115) (fun _ => (flat_blk flat_nil)) Tryd.func22 nm22 rfl rfl rfl (.cons e1 .nil) (fun w Z S hA hL => (F1 a0 hA (FL a0 hL (F1 a1 hA (F1 a2 hA F0))))) rfl fun t116 => ?_)
        refine c_p (r_i rfl rfl rfl) rfl ?_
        refine c_p (r_as rfl) rfl ?_
        refine t_nil ?_
        refine t_then hK113 ?_
        refine t_seq fun K117 hK118 => ?_
        refine t_region ?_
        refine c_p (r_mv rfl) rfl ?_
        obtain ⟨y119, hy119, h102⟩ := bs h102
        refine nx (t_ca (C17 _ _ _ _ _ _ _ hy119) Tryd.func17 nm17 rfl rfl rfl (.cons e0 .nil) (fun w Z hA => (V1 a0 hA (V1 a1 hA (V1 a2 hA V0)))) rfl fun t120 => ?_)
        refine c_p (r_i rfl rfl rfl) rfl ?_
        refine c_p (r_as rfl) rfl ?_
        refine t_nil ?_
        refine t_then hK118 ?_
        refine t_seq fun K121 hK122 => ?_
        have J127 : ∀ (x126 : Int), f_kauditlaw40_spans_j1 x97 x98 x100 y115 y119 (f_kauditlaw40_spans_l1 z0 k103) x126 = some r → T 43 c [vw (kSlice 5 (kInt .u8)) z0.codes [.slice p1 m2 c3], g_pow10, g_kinds] [[blk g_ [.slice p1 m2 c3, .int .i64 y119.2] 43], [row 46 k_api_Span x97 (.slice p94 m95 c96)]] [(0, .pointer (some ⟨g_, 0, none⟩)), (3, .slice p94 m95 c96), (4, .int .i64 x98), (6, .int .i64 x100), (7, .int .i64 (IntKind.wrap .i64 (1 + y115.1))), (8, .int .i64 x126)] K121 := by
          intro x126 h128
          unfold f_kauditlaw40_spans_j1 at h128
          refine ti hK122 ?_
          refine t_seq fun K129 hK130 => ?_
          refine t_region ?_
          refine c_p (r_mv rfl) rfl ?_
          refine c_p (r_mv rfl) rfl ?_
          refine c_p (r_mv rfl) rfl ?_
          refine c_p (r_mv rfl) rfl ?_
          refine c_p (r_i rfl rfl rfl) rfl ?_
          refine c_p (r_i rfl rfl rfl) rfl ?_
          refine c_p (r_mv rfl) rfl ?_
          refine c_p (r_bu (ps := [(0, .int .i64 x98), (1, .int .i64 (IntKind.wrap .i64 ((IntKind.wrap .i64 (x98 + (IntKind.wrap .i64 (1 + y115.1)))) - 1))), (2, .int .i64 x126)]) (cs := [.int .i64 x98, .int .i64 (IntKind.wrap .i64 ((IntKind.wrap .i64 (x98 + (IntKind.wrap .i64 (1 + y115.1)))) - 1)), .int .i64 x126]) rfl (by kernel_rfl)) rfl ?_
          refine nx (t_bs (ps := [(0, .agg #[.int .i64 x98, .int .i64 (IntKind.wrap .i64 ((IntKind.wrap .i64 (x98 + (IntKind.wrap .i64 (1 + y115.1)))) - 1)), .int .i64 x126])]) (cs := [.int .i64 x98, .int .i64 (IntKind.wrap .i64 ((IntKind.wrap .i64 (x98 + (IntKind.wrap .i64 (1 + y115.1)))) - 1)), .int .i64 x126]) Tryd.underlying23 ti46 rfl rfl (by kernel_rfl) rfl fun g131 => ?_)
          obtain ⟨hc132, h128⟩ := ck_out h128
          refine nx (t_app (Kd := k_api_Span) (xs := x97) (ys := [(⟨x98, (IntKind.wrap .i64 ((IntKind.wrap .i64 (x98 + (IntKind.wrap .i64 (1 + y115.1)))) - 1)), x126⟩ : api_Span)]) (.cons e2 .nil) rfl rfl Tryd.underlying23 Tryd.underlying23 ti46 rfl rfl hc132 (srcB a0 (fun w Z S hA hN => flat_EO (S := Nil) k_api_Span_flatK (er1 (c1 := [.int .i64 x98, .int .i64 (IntKind.wrap .i64 ((IntKind.wrap .i64 (x98 + (IntKind.wrap .i64 (1 + y115.1)))) - 1)), .int .i64 x126]) (k_api_Span_shuts (x := (⟨x98, (IntKind.wrap .i64 ((IntKind.wrap .i64 (x98 + (IntKind.wrap .i64 (1 + y115.1)))) - 1)), x126⟩ : api_Span)) (t := ()) trivial) er0))) rfl fun t133 => ?_)
          refine c_p (r_as rfl) rfl ?_
          refine t_nil ?_
          refine t_then hK130 ?_
          refine t_region ?_
          refine c_p (r_mv rfl) rfl ?_
          refine c_p (r_mv rfl) rfl ?_
          refine c_p (r_i rfl rfl rfl) rfl ?_
          refine c_p (r_mv rfl) rfl ?_
          refine c_p (r_as rfl) rfl ?_
          refine c_p (r_as rfl) rfl ?_
          refine t_nil ?_
          refine t_blockN ?_
          refine t_then hK111 ?_
          refine t_region ?_
          refine c_p (r_mv rfl) rfl ?_
          refine c_p (r_i rfl rfl rfl) rfl ?_
          refine c_p (r_as rfl) rfl ?_
          refine t_nil ?_
          exact t_norm (t_go (ih104 y119.2 t133.1 t133.2.1 t133.2.2 (x97 ++ [(⟨x98, (IntKind.wrap .i64 ((IntKind.wrap .i64 (x98 + (IntKind.wrap .i64 (1 + y115.1)))) - 1)), x126⟩ : api_Span)]) (IntKind.wrap .i64 (x98 + (IntKind.wrap .i64 (1 + y115.1)))) x126 (IntKind.wrap .i64 (x100 - 1)) h128) ⟨rfl, rfl, rfl, rfl, rfl, trivial⟩ (.cons e2 (.cons e0 .nil)) (fun w Z hA => V1 a0 hA (V1 a1 hA (V1 a2 hA (V0)))))
        refine t_seq fun K123 hK124 => ?_
        refine t_region ?_
        refine c_p (r_mv rfl) rfl ?_
        refine c_p (r_mv rfl) rfl ?_
        refine c_p (r_i rfl rfl rfl) rfl ?_
        refine t_nil ?_
        refine t_then hK124 ?_
        rcases Bool.eq_false_or_eq_true ((IntKind.wrap .i64 (1 + y119.1)) == x99) with hb125 | hb125
        · replace h102 := itT hb125 h102
          refine t_T rfl hb125 ?_
          refine t_region ?_
          refine c_p (r_mv rfl) rfl ?_
          refine c_p (r_rem rfl rfl (by decide)) rfl ?_
          refine c_p (r_i rfl rfl rfl) rfl ?_
          refine c_p (r_as rfl) rfl ?_
          refine t_nil ?_
          exact t_norm (t_go (J127 (IntKind.wrap .i64 (1 + ((x99 : Int).tmod 4))) h102) ⟨rfl, rfl, rfl, rfl, rfl, rfl, trivial⟩ (.cons e0 (.cons e1 .nil)) (fun w Z hA => V1 a0 hA (V1 a1 hA (V1 a2 hA (V0)))))
        · replace h102 := itF hb125 h102
          refine t_F rfl hb125 ?_
          refine t_skip ?_
          exact t_norm (t_go (J127 (IntKind.wrap .i64 (1 + y119.1)) h102) ⟨rfl, rfl, rfl, rfl, rfl, rfl, trivial⟩ (.cons e0 (.cons e1 .nil)) (fun w Z hA => V1 a0 hA (V1 a1 hA (V1 a2 hA (V0)))))
      · replace h102 := itF hb109 h102
        refine t_F rfl hb109 ?_
        refine t_exit ?_
        refine te (te (bx ?_))
        refine t_then hK11 ?_
        refine t_seq fun K134 hK135 => ?_
        refine t_region ?_
        refine c_p (r_mv rfl) rfl ?_
        refine c_p (r_as rfl) rfl ?_
        refine t_nil ?_
        refine t_then hK135 ?_
        refine t_ret ?_
        exact ret1 rfl (v_t rfl) (t_leave (hQ _ (Option.some.inj h102)) (p94, m95, c96) rfl (fun w Z hA => V0) (.cons e0 (.cons e0 .nil)))
  exact t_go (LP101 (((y14.1 : Int) - (0)).toNat + 1) y14.2 none 0 0 ([] : List api_Span) 1 0 y14.1 h) ⟨rfl, rfl, rfl, rfl, rfl, trivial⟩ (.cons e1 (.cons e0 .nil)) (fun w Z hA => V1 a0 hA (V1 a1 hA (V1 a2 hA (V0))))
end
end Go.Proofs.YthmjklpmamfncaaDoor.Gx

/- Joining does not depend on the order, and never makes a number worse: CoverageMerges, as a plain law (but for its example). -/
set_option linter.unusedVariables false
set_option maxRecDepth 100000
namespace Go.Proofs.YthmjklpmamfncaaDoor.Gx
open Go.Gx Go.RowKit
structure Sm (l : List api_Span) : Prop where
  pr : PropF 1 0 l
  len : l.length ≤ 1000
  fin : endF 0 l ≤ 1000000
theorem cont_mem : ∀ {l : List api_Span} {g : Int} {s : api_Span}, Cont g l → s ∈ l → g ≤ s.From ∧ s.From ≤ s.To ∧ KOk s.Kind ∧ s.To ≤ endF (g - 1) l
  | t :: l, g, s, ⟨a, b, c, d⟩, h => by
    have e : t.To + 1 - 1 = t.To := by omega
    rcases List.mem_cons.1 h with rfl | h
    · have := cont_end d
      rw [e] at this
      exact ⟨by omega, by omega, c, this⟩
    · have ⟨h1, h2, h3, h4⟩ := cont_mem d h
      rw [e] at h4
      exact ⟨by omega, h2, h3, h4⟩
theorem Sm.mem {l : List api_Span} (S : Sm l) {s : api_Span} (h : s ∈ l) : 1 ≤ s.From ∧ s.From ≤ s.To ∧ KOk s.Kind ∧ s.To ≤ 1000000 := by
  obtain ⟨a, b, c, d⟩ := cont_mem S.pr.cont h
  have := S.fin
  have e : (1 : Int) - 1 = 0 := rfl
  rw [e] at d
  exact ⟨a, b, c, by omega⟩
theorem Sm.fit {l : List api_Span} (S : Sm l) : Fit l := fun s h => by
  obtain ⟨a, b, c, d⟩ := S.mem h
  have := c.1; have := c.2
  exact ⟨⟨by omega, by omega⟩, ⟨by omega, by omega⟩, ⟨by omega, by omega⟩⟩
theorem Sm.proper {l : List api_Span} (S : Sm l) : f_coverage_Proper l = some true := by
  have := S.len
  rw [Proper_ok (by omega) S.fit, prB_iff.2 S.pr]
def Mg (a b : List api_Span) : List api_Span := jnL (mrg (a.length + b.length) 1 a b)
theorem jnL_len (l : List api_Span) : (jnL l).length ≤ l.length := by
  cases l with
  | nil => exact Nat.le_refl _
  | cons s l => exact jn_len l s
theorem Mg_ok {a b : List api_Span} (A : Sm a) (B : Sm b) : f_coverage_Merge a b = some (Mg a b) ∧ PropF 1 0 (Mg a b) ∧ endF 0 (Mg a b) = max (endF 0 a) (endF 0 b) ∧ (∀ n, 1 ≤ n → cov (Mg a b) n = min (cov a n) (cov b n)) ∧ (Mg a b).length ≤ a.length + b.length := by
  obtain ⟨h1, h2, h3⟩ := mrg_ok (a.length + b.length) A.pr.cont.cov B.pr.cont.cov (Nat.le_refl _)
  obtain ⟨j1, j2, j3⟩ := jnL_ok h1
  have hl := mrg_len (a.length + b.length) 1 a b
  have la := A.len; have lb := B.len
  refine ⟨?_, j1, j2.trans h3, fun n hn => (j3 n).trans (h2 n hn), Nat.le_trans (jnL_len _) hl⟩
  unfold f_coverage_Merge
  refine bind_of A.proper (ite_t rfl (bind_of B.proper (ite_t rfl ?_)))
  have := Merge_loop (A := a) (B := b) (by omega) (by omega) (fun s h => by have := A.mem h; exact ⟨⟨by omega, by omega⟩, by omega, by omega⟩) (fun s h => by have := B.mem h; exact ⟨⟨by omega, by omega⟩, by omega, by omega⟩) (a.length + b.length) [] 1 0 0 (by omega) (by omega) (by omega) (by simp; omega)
  rw [List.nil_append, List.drop_zero, List.drop_zero] at this
  refine Eq.trans this ?_
  unfold f_coverage_Merge_j5
  exact bind_of (join_ok (by omega)) rfl
theorem Mg_sm {a b : List api_Span} (A : Sm a) (B : Sm b) (h : a.length + b.length ≤ 1000) : Sm (Mg a b) := by
  obtain ⟨_, h1, h2, h3, h4⟩ := Mg_ok A B
  have := A.fin; have := B.fin
  exact ⟨h1, by omega, by omega⟩
theorem Sm.eq {l l' : List api_Span} (h : PropF 1 0 l) (h' : PropF 1 0 l') (he : endF 0 l = endF 0 l') (hc : ∀ n, 1 ≤ n → cov l n = cov l' n) : l = l' := canon h h' he hc
theorem Mg_comm {a b : List api_Span} (A : Sm a) (B : Sm b) : Mg a b = Mg b a := by
  obtain ⟨_, h1, h2, h3, _⟩ := Mg_ok A B
  obtain ⟨_, k1, k2, k3, _⟩ := Mg_ok B A
  exact Sm.eq h1 k1 (by rw [h2, k2]; omega) (fun n hn => by rw [h3 n hn, k3 n hn]; omega)
theorem Mg_assoc {a b d : List api_Span} (A : Sm a) (B : Sm b) (D : Sm d) (h1 : a.length + b.length ≤ 1000) (h2 : b.length + d.length ≤ 1000) : Mg (Mg a b) d = Mg a (Mg b d) := by
  have AB := Mg_sm A B h1
  have BD := Mg_sm B D h2
  obtain ⟨_, a1, a2, a3, _⟩ := Mg_ok A B
  obtain ⟨_, b1, b2, b3, _⟩ := Mg_ok B D
  obtain ⟨_, c1, c2, c3, _⟩ := Mg_ok AB D
  obtain ⟨_, d1, d2, d3, _⟩ := Mg_ok A BD
  exact Sm.eq c1 d1 (by rw [c2, d2, a2, b2]; omega) (fun n hn => by rw [c3 n hn, d3 n hn, a3 n hn, b3 n hn]; omega)
theorem Mg_self {a : List api_Span} (A : Sm a) : Mg a a = a := by
  obtain ⟨_, a1, a2, a3, _⟩ := Mg_ok A A
  exact Sm.eq a1 A.pr (by rw [a2]; omega) (fun n hn => by rw [a3 n hn]; omega)
/-! ### Lists compared -/
theorem Same_loop {z : List api_Span} (hz : z.length < 4611686018427387904) : ∀ (k i : Nat), i ≤ z.length → z.length < k + i → f_kauditref40_Same_l1 z z k i = some true := by
  intro k
  induction k with
  | zero => intro i h1 h2; omega
  | succ k ih =>
    intro i h1 h2
    rw [f_kauditref40_Same_l1]
    by_cases h : i < z.length
    · refine ite_t (dec_t (by omega)) (bind_of (at_get h) (bind_of (at_get h) (ite_t (by simp) ?_)))
      rw [wrap_up (by omega)]
      exact ih (i + 1) (by omega) (by omega)
    · exact ite_f (dec_f (by omega)) rfl
theorem Same_refl {z : List api_Span} (hz : z.length < 4611686018427387904) : f_kauditref40_Same z z = some true := by
  unfold f_kauditref40_Same
  exact ite_f (by simp) (Same_loop hz _ 0 (by omega) (by omega))
/-! ### Parts -/
def wl (l : List api_Span) (a b : Int) : List api_Span := (l.filter (fun s => decide (max s.From a ≤ min s.To b))).map (fun s => ⟨max s.From a, min s.To b, s.Kind⟩)
theorem Within_loop {z : List api_Span} (hz : z.length < 1000000) (a b : Int) : ∀ (k i : Nat) (acc : List api_Span), i ≤ z.length → z.length < k + i → acc.length ≤ i → f_coverage_Within_l1 z a b k acc i = some (acc ++ wl (z.drop i) a b) := by
  intro k
  induction k with
  | zero => intro i _ h1 h2; omega
  | succ k ih =>
    intro i acc h1 h2 h3
    rw [f_coverage_Within_l1]
    by_cases h : i < z.length
    · have e : z.drop i = z[i] :: z.drop (i + 1) := (List.getElem_cons_drop h).symm
      refine ite_t (dec_t (by omega)) (bind_of (at_get h) ?_)
      rw [wrap_up (by omega), e]
      by_cases c : max z[i].From a ≤ min z[i].To b
      · refine ite_t (dec_t c) (ck_of (fits_of (by simp; omega)) ?_)
        rw [ih (i + 1) _ (by omega) (by omega) (by simp; omega)]
        unfold wl
        rw [List.filter_cons_of_pos (by simpa using c), List.map_cons, List.append_assoc]; rfl
      · refine ite_f (dec_f c) ?_
        rw [ih (i + 1) _ (by omega) (by omega) (by omega)]
        unfold wl
        rw [List.filter_cons_of_neg (by simpa using c)]
    · obtain rfl : i = z.length := by omega
      refine ite_f (dec_f (by omega)) ?_
      rw [List.drop_length]; simp [wl]
theorem wl_cons (s : api_Span) (l : List api_Span) (a b : Int) : wl (s :: l) a b = if max s.From a ≤ min s.To b then ⟨max s.From a, min s.To b, s.Kind⟩ :: wl l a b else wl l a b := by
  unfold wl
  by_cases c : max s.From a ≤ min s.To b
  · rw [if_pos c, List.filter_cons_of_pos (by simpa using c), List.map_cons]
  · rw [if_neg c, List.filter_cons_of_neg (by simpa using c)]
theorem wl_one : ∀ {l : List api_Span} {g n : Int}, Cont g l → (wl l n n = [] ∧ cov l n = 4) ∨ ∃ s, wl l n n = [s] ∧ s.Kind = cov l n
  | [], _, _, _ => .inl ⟨rfl, rfl⟩
  | s :: l, g, n, ⟨a, b, c, d⟩ => by
    rw [wl_cons]
    unfold cov
    by_cases h : s.From ≤ n ∧ n ≤ s.To
    · rw [if_pos (by omega), if_pos h]
      have e : wl l n n = [] := by
        have none : ∀ {l : List api_Span} {g : Int}, Cont g l → n < g → wl l n n = [] := by
          intro l
          induction l with
          | nil => intro _ _ _; rfl
          | cons t l ih =>
            intro g ⟨a, b, c, d⟩ hg
            rw [wl_cons, if_neg (by omega)]
            exact ih d (by omega)
        exact none d (by omega)
      rw [e]
      exact .inr ⟨_, rfl, rfl⟩
    · rw [if_neg (by omega), if_neg h]
      exact wl_one d
theorem kind_ok {l : List api_Span} (S : Sm l) (n : Int) : f_kauditlaw40_kind l n = some (cov l n) := by
  have := S.len
  unfold f_kauditlaw40_kind f_coverage_Within
  have hw : (f_coverage_Proper l).bind (fun y10 => if y10 = true then f_coverage_Within_l1 l n n ((((l.length : Int) : Int) - (0)).toNat + 1) ([] : List api_Span) 0 else some ([] : List api_Span)) = some (wl l n n) := by
    refine bind_of S.proper (ite_t rfl ?_)
    have := Within_loop (z := l) (by omega) n n ((((l.length : Int) : Int) - (0)).toNat + 1) 0 [] (by omega) (by omega) (by simp)
    exact this
  refine bind_of hw ?_
  rcases wl_one (n := n) S.pr.cont with ⟨e, h⟩ | ⟨s, e, h⟩
  · rw [e, h]; exact ite_f rfl rfl
  · rw [e, ← h]; exact ite_t rfl (bind_of (show at_ [s] 0 = some s from rfl) rfl)
/-! ### What the cases' generator makes -/
def lastK : Int → List api_Span → Int
  | k, [] => k
  | _, s :: l => lastK s.Kind l
theorem snoc : ∀ {l : List api_Span} {g k : Int} {s : api_Span}, PropF g k l → s.From = endF (g - 1) l + 1 → s.From ≤ s.To → KOk s.Kind → s.Kind ≠ lastK k l → PropF g k (l ++ [s]) ∧ endF (g - 1) (l ++ [s]) = s.To ∧ lastK k (l ++ [s]) = s.Kind
  | [], g, k, s, _, h1, h2, h3, h4 => ⟨⟨by have : s.From = g - 1 + 1 := h1; omega, by have : s.From = g - 1 + 1 := h1; omega, h3, h4, trivial⟩, rfl, rfl⟩
  | t :: l, g, k, s, ⟨a, b, c, d, f⟩, h1, h2, h3, h4 => by
    have e : t.To + 1 - 1 = t.To := by omega
    obtain ⟨p1, p2, p3⟩ := snoc (g := t.To + 1) (k := t.Kind) f (by rw [e]; exact h1) h2 h3 h4
    rw [e] at p2
    exact ⟨⟨a, b, c, d, p1⟩, p2, p3⟩
theorem spans_loop {cs : List Int} (at0 : Int) : ∀ (k m : Nat) (a : Int) (acc : List api_Span) (p kd : Int), COk cs a → m < k → acc.length + m ≤ 10 → PropF 1 0 acc → endF 0 acc + 1 = p → lastK 0 acc = kd → 0 ≤ kd → kd ≤ 4 → p ≤ 1 + 101 * acc.length → 1 ≤ p →
    ∃ l a', f_kauditlaw40_spans_l1 ⟨cs, at0⟩ k a acc p kd m = some (l, a') ∧ Sm l ∧ l.length ≤ 10 ∧ COk cs a' := by
  intro k
  induction k with
  | zero => intro m _ _ _ _ _ h; omega
  | succ k ih =>
    intro m a acc p kd C hm hl hp he hk k0 k4 hb hp1
    rw [f_kauditlaw40_spans_l1]
    cases m with
    | zero => exact ⟨acc, a, ite_f (dec_f (by omega)) rfl, ⟨hp, by omega, by omega⟩, by omega, C⟩
    | succ m =>
      obtain ⟨u, a1, h1, hu, C1, _⟩ := Pick_ok C (l := [0, 0, 2, 9, 100]) (by simp) (by simp)
      obtain ⟨v, a2, h2, v0, v1, _, C2, _⟩ := Int_ok (n := 4) C1 (by omega)
      have v1 := v1 (by omega)
      have hu' : 0 ≤ u ∧ u ≤ 100 := by simp only [List.mem_cons, List.not_mem_nil, or_false] at hu; omega
      have e1 : IntKind.wrap .i64 (1 + v) = 1 + v := wrap_id (by omega) (by omega)
      have e2 : IntKind.wrap .i64 (1 + u) = 1 + u := wrap_id (by omega) (by omega)
      have e3 : IntKind.wrap .i64 (p + (1 + u)) = p + (1 + u) := wrap_id (by omega) (by omega)
      have e4 : IntKind.wrap .i64 (p + (1 + u) - 1) = p + u := by rw [wrap_id (by omega) (by omega)]; omega
      have key : ∀ x : Int, 1 ≤ x → x ≤ 4 → x ≠ kd → ∃ l a', f_kauditlaw40_spans_j1 acc p ((m + 1 : Nat) : Int) (u, a1) (v, a2) (f_kauditlaw40_spans_l1 ⟨cs, at0⟩ k) x = some (l, a') ∧ Sm l ∧ l.length ≤ 10 ∧ COk cs a' := by
        intro x x1 x4 xk
        unfold f_kauditlaw40_spans_j1
        simp only
        rw [e2, e3, e4, wrap_dn (by omega)]
        obtain ⟨q1, q2, q3⟩ := snoc (s := ⟨p, p + u, x⟩) hp (by show p = endF 0 acc + 1; omega) (by show p ≤ p + u; omega) ⟨x1, x4⟩ (by rw [hk]; exact xk)
        have q2' : endF 0 (acc ++ [(⟨p, p + u, x⟩ : api_Span)]) = p + u := q2
        have hlen : (acc ++ [(⟨p, p + u, x⟩ : api_Span)]).length = acc.length + 1 := by simp
        obtain ⟨l, a', h3, S, L, C3⟩ := ih m a2 (acc ++ [⟨p, p + u, x⟩]) (p + (1 + u)) x C2 (by omega) (by omega) q1 (by rw [q2']; omega) q3 (by omega) (by omega) (by rw [hlen]; omega) (by omega)
        exact ⟨l, a', ck_of (fits_of (by simp; omega)) h3, S, L, C3⟩
      by_cases c : 1 + v = kd
      · obtain ⟨l, a', h3, S, L, C3⟩ := key (IntKind.wrap .i64 (1 + kd.tmod 4)) (by rw [tmod_nn k0, wrap_id (by omega) (by omega)]; omega) (by rw [tmod_nn k0, wrap_id (by omega) (by omega)]; omega) (by rw [tmod_nn k0, wrap_id (by omega) (by omega)]; omega)
        exact ⟨l, a', ite_t (dec_t (by omega)) (bind_of h1 (bind_of h2 (ite_t (by rw [e1]; simpa using c) h3))), S, L, C3⟩
      · obtain ⟨l, a', h3, S, L, C3⟩ := key (1 + v) (by omega) (by omega) c
        exact ⟨l, a', ite_t (dec_t (by omega)) (bind_of h1 (bind_of h2 (ite_f (by rw [e1]; simpa using c) (by rw [e1]; exact h3)))), S, L, C3⟩
theorem spans_ok {cs : List Int} {a : Int} (C : COk cs a) : ∃ l a', f_kauditlaw40_spans ⟨cs, a⟩ = some (l, a') ∧ Sm l ∧ l.length ≤ 10 ∧ COk cs a' := by
  unfold f_kauditlaw40_spans
  obtain ⟨v, a1, h1, v0, v1, _, C1, _⟩ := Int_ok (n := 7) C (by omega)
  have v1 := v1 (by omega)
  obtain ⟨m, rfl⟩ := Int.eq_ofNat_of_zero_le v0
  obtain ⟨l, a', h3, S, L, C3⟩ := spans_loop (cs := cs) a (m + 1) m a1 [] 1 0 C1 (by omega) (by simp; omega) trivial rfl rfl (by omega) (by omega) (by simp) (by omega)
  refine ⟨l, a', bind_of h1 ?_, S, L, C3⟩
  have e : (((m : Int), a1).1 - 0).toNat + 1 = m + 1 := by simp
  rw [e]
  exact h3
end Go.Proofs.YthmjklpmamfncaaDoor.Gx

/- Function 9, kaudit/kauditref40.Proper: what it answers as a plain function, and that the Go code comes to exactly that (where the plain function gives an answer). -/
set_option linter.unusedVariables false
set_option linter.unusedSimpArgs false
namespace Go.Proofs.YthmjklpmamfncaaDoor.Gx
open Go.Gx Go.RowKit
noncomputable section
/-! ### kaudit/kauditref40.Proper: function 9 -/
def f_kauditref40_Proper_l1 (z0 : (List api_Span)) : Nat → Int → Option (Bool)
  | 0, _ => none
  | k134 + 1, x131 => if (decide (x131 < (z0.length : Int))) = true then ((at_ z0 x131).bind fun el148 => if (decide (el148.To < el148.From)) = true then (some false) else (if (decide (el148.Kind < 1)) = true then (some false) else (if (decide (el148.Kind > 4)) = true then (some false) else (if (x131 == 0) = true then (if (el148.From != 1) = true then (some false) else (if (decide (x131 > 0)) = true then ((at_ z0 (IntKind.wrap .i64 (x131 - 1))).bind fun el163 => if (decide (el148.From ≤ el163.To)) = true then (some false) else (if ((IntKind.wrap .i64 (el148.From - 1)) != el163.To) = true then (some false) else (if (el148.Kind == el163.Kind) = true then (some false) else (f_kauditref40_Proper_l1 z0 k134 (IntKind.wrap .i64 (x131 + 1)))))) else (f_kauditref40_Proper_l1 z0 k134 (IntKind.wrap .i64 (x131 + 1))))) else (if (decide (x131 > 0)) = true then ((at_ z0 (IntKind.wrap .i64 (x131 - 1))).bind fun el167 => if (decide (el148.From ≤ el167.To)) = true then (some false) else (if ((IntKind.wrap .i64 (el148.From - 1)) != el167.To) = true then (some false) else (if (el148.Kind == el167.Kind) = true then (some false) else (f_kauditref40_Proper_l1 z0 k134 (IntKind.wrap .i64 (x131 + 1)))))) else (f_kauditref40_Proper_l1 z0 k134 (IntKind.wrap .i64 (x131 + 1)))))))) else (some true)
def f_kauditref40_Proper (z0 : (List api_Span)) : Option (Bool) := f_kauditref40_Proper_l1 z0 ((((z0.length : Int) : Int) - (0)).toNat + 1) 0
set_option maxHeartbeats 4000000 in
set_option maxRecDepth 100000 in
theorem C9 (z0 : (List api_Span)) (p1 : Option Addr) (m2 : Nat) (c3 : Nat) (r : Bool) (h : f_kauditref40_Proper z0 = some r) : FunG Tryd.prog 9 #[.slice p1 m2 c3] [vw (kSlice 46 k_api_Span) z0 [.slice p1 m2 c3], g_pow10, g_kinds] [] (fun (_ : Unit) => .bool r) (fun _ => []) (fun _ => []) := by
  unfold f_kauditref40_Proper at h
  refine t_begin (args := [.slice p1 m2 c3]) Tryd.func9 rfl Tryd.ntmps9 rfl fun c R hR => ?_
  have hQ : ∀ X, X = r → ∀ w2 (_ : Unit), PostG c.w0 w2 c.M c.Y [] [] → R (.returned (.bool X)) w2 := fun X e => by subst e; exact hR
  refine t_seq fun K4 hK5 => ?_
  refine t_region ?_
  refine c_p (r_as rfl) rfl ?_
  refine t_nil ?_
  refine t_then hK5 ?_
  refine t_seq fun K6 hK7 => ?_
  refine t_seq fun K8 hK9 => ?_
  refine t_region ?_
  refine c_p (r_mv rfl) rfl ?_
  refine c_s (r_lnA a0 Tryd.underlying23 rfl) rfl ?_
  refine c_p (r_mv rfl) rfl ?_
  refine t_nil ?_
  refine t_then hK9 ?_
  refine t_block ?_
  refine t_lp fun k129 hk130 => ?_
  have LP132 : ∀ (k134 : Nat) (x131 : Int), f_kauditref40_Proper_l1 z0 k134 x131 = some r → T 75 c [vw (kSlice 46 k_api_Span) z0 [.slice p1 m2 c3], g_pow10, g_kinds] [] [(0, .slice p1 m2 c3), (5, .slice p1 m2 c3), (6, .int .i64 (z0.length : Int)), (7, .int .i64 x131)] k129 := by
    intro k134
    induction k134 with
    | zero => intro x131 h133; rewrite [f_kauditref40_Proper_l1] at h133; cases h133
    | succ k134 ih135 =>
      intro x131 h133
      rewrite [f_kauditref40_Proper_l1] at h133
      refine ti hk130 ?_
      refine t_seq fun K136 hK137 => ?_
      refine t_region ?_
      refine c_p (r_i rfl rfl rfl) rfl ?_
      refine t_nil ?_
      refine t_then hK137 ?_
      refine t_seq fun K138 hK139 => ?_
      rcases Bool.eq_false_or_eq_true (decide (x131 < (z0.length : Int))) with hb140 | hb140
      · replace h133 := itT hb140 h133
        refine t_T rfl hb140 ?_
        refine t_skip ?_
        refine t_then hK139 ?_
        refine t_seq fun K141 hK142 => ?_
        refine t_block ?_
        refine t_seq fun K143 hK144 => ?_
        refine t_region ?_
        refine c_p (r_mv rfl) rfl ?_
        obtain ⟨el148, hel148, h133⟩ := bs h133
        refine t_q a0 hel148 fun q145 hq146 hm147 => ?_
        refine c_p (r_idx hq146 hm147 hel148 Tryd.underlying23 ti46 rfl rfl) rfl ?_
        refine t_op k_api_Span_opens a0 hel148 fun t149 => ?_
        refine c_s (r_eA a0 hq146 Tryd.underlying46 rfl ti46 rfl rfl) rfl ?_
        refine nx (t_al (cs := [.int .i64 0, .int .i64 0, .int .i64 0]) ti46 rfl rfl fun g150 => ?_)
        refine c_p (r_as rfl) rfl ?_
        refine nx (t_st u0 ti46 rfl rfl rfl rfl rfl (.t (.s (.s (.s .z)))) ?_)
        refine t_nil ?_
        refine t_then hK144 ?_
        refine t_seq fun K151 hK152 => ?_
        refine t_quiet mixed (by kernel_rfl) (panic_then (panic_block (panic_then (panic_then (panic_block (panic_then panic_body)))))) ?_
        refine k_p (r_fa (off' := 1) Tryd.underlying46 rfl ti3 rfl rfl) rfl ?_
        refine k_s (r_ld a0 Tryd.underlying3 rfl rfl rfl) rfl ?_
        refine k_p (r_fa (off' := 0) Tryd.underlying46 rfl ti3 rfl rfl) rfl ?_
        refine k_s (r_ld a0 Tryd.underlying3 rfl rfl rfl) rfl ?_
        refine k_p (r_i rfl rfl rfl) rfl ?_
        refine k_p (r_mv rfl) rfl ?_
        rcases Bool.eq_false_or_eq_true (decide (el148.To < el148.From)) with hb153 | hb153
        · replace h133 := itT hb153 h133
          refine k_x rfl rfl hb153 rfl ?_
          refine k_x rfl rfl hb153 rfl ?_
          refine k_x rfl rfl hb153 rfl ?_
          refine k_p (r_pT rfl hb153 rfl) rfl ?_
          refine k_p (r_mv rfl) rfl ?_
          refine k_x rfl rfl rfl rfl ?_
          refine k_x rfl rfl rfl rfl ?_
          refine k_x rfl rfl rfl rfl ?_
          refine k_p (r_pT rfl rfl rfl) rfl ?_
          refine k_p (r_mv rfl) rfl ?_
          refine k_x rfl rfl rfl rfl ?_
          refine k_x rfl rfl rfl rfl ?_
          refine k_x rfl rfl rfl rfl ?_
          refine k_xU rfl rfl rfl ?_
          refine k_xU rfl rfl rfl ?_
          refine k_xU rfl rfl rfl ?_
          refine k_x rfl rfl rfl rfl ?_
          refine k_p (r_pT rfl rfl rfl) rfl ?_
          refine k_p (r_mv rfl) rfl ?_
          refine k_x rfl rfl rfl rfl ?_
          refine k_x rfl rfl rfl rfl ?_
          refine k_x rfl rfl rfl rfl ?_
          refine k_xU rfl rfl rfl ?_
          refine k_xU rfl rfl rfl ?_
          refine k_xU rfl rfl rfl ?_
          refine k_xU rfl rfl rfl ?_
          refine k_xU rfl rfl rfl ?_
          refine k_xU rfl rfl rfl ?_
          refine k_xU rfl rfl rfl ?_
          refine k_xU rfl rfl rfl ?_
          refine k_xU rfl rfl rfl ?_
          refine k_xU rfl rfl rfl ?_
          refine k_xU rfl rfl rfl ?_
          refine k_xU rfl rfl rfl ?_
          refine k_xU rfl rfl rfl ?_
          refine k_xU rfl rfl rfl ?_
          refine k_xU rfl rfl rfl ?_
          refine k_xU rfl rfl rfl ?_
          refine k_xU rfl rfl rfl ?_
          refine k_xU rfl rfl rfl ?_
          refine k_xU rfl rfl rfl ?_
          refine k_xU rfl rfl rfl ?_
          refine k_xU rfl rfl rfl ?_
          refine k_xU rfl rfl rfl ?_
          refine k_xU rfl rfl rfl ?_
          refine k_xU rfl rfl rfl ?_
          refine k_xU rfl rfl rfl ?_
          refine k_xU rfl rfl rfl ?_
          refine k_xU rfl rfl rfl ?_
          refine k_xU rfl rfl rfl ?_
          refine k_xU rfl rfl rfl ?_
          refine k_xU rfl rfl rfl ?_
          refine k_xU rfl rfl rfl ?_
          refine k_xU rfl rfl rfl ?_
          refine k_x rfl rfl rfl rfl ?_
          refine k_p (r_pT rfl rfl rfl) rfl ?_
          refine k_z ?_
          refine t_then hK152 ?_
          refine t_T rfl rfl ?_
          refine t_seq fun K202 hK203 => ?_
          refine t_region ?_
          refine c_p (r_as rfl) rfl ?_
          refine t_nil ?_
          refine t_then hK203 ?_
          refine t_ret ?_
          exact br (tr (tr (br (tr (ret1 rfl (v_t rfl) (t_leave (hQ _ (Option.some.inj h133)) () rfl (fun w Z hA => V0) .nil))))))
        · replace h133 := itF hb153 h133
          refine kg_p rfl rfl hb153 (r_fa (off' := 2) Tryd.underlying46 rfl ti3 rfl rfl) rfl ?_
          refine kg_s rfl rfl hb153 (r_ld a0 Tryd.underlying3 rfl rfl rfl) rfl ?_
          refine kg_p rfl rfl hb153 (r_i rfl rfl rfl) rfl ?_
          refine k_p (r_pF rfl hb153 rfl) rfl ?_
          refine k_p (r_mv rfl) rfl ?_
          rcases Bool.eq_false_or_eq_true (decide (el148.Kind < 1)) with hb154 | hb154
          · replace h133 := itT hb154 h133
            refine k_x rfl rfl hb154 rfl ?_
            refine k_x rfl rfl hb154 rfl ?_
            refine k_x rfl rfl hb154 rfl ?_
            refine k_p (r_pT rfl hb154 rfl) rfl ?_
            refine k_p (r_mv rfl) rfl ?_
            refine k_x rfl rfl rfl rfl ?_
            refine k_x rfl rfl rfl rfl ?_
            refine k_x rfl rfl rfl rfl ?_
            refine k_xU rfl rfl rfl ?_
            refine k_xU rfl rfl rfl ?_
            refine k_xU rfl rfl rfl ?_
            refine k_x rfl rfl rfl rfl ?_
            refine k_p (r_pT rfl rfl rfl) rfl ?_
            refine k_p (r_mv rfl) rfl ?_
            refine k_x rfl rfl rfl rfl ?_
            refine k_x rfl rfl rfl rfl ?_
            refine k_x rfl rfl rfl rfl ?_
            refine k_xU rfl rfl rfl ?_
            refine k_xU rfl rfl rfl ?_
            refine k_xU rfl rfl rfl ?_
            refine k_xU rfl rfl rfl ?_
            refine k_xU rfl rfl rfl ?_
            refine k_xU rfl rfl rfl ?_
            refine k_xU rfl rfl rfl ?_
            refine k_xU rfl rfl rfl ?_
            refine k_xU rfl rfl rfl ?_
            refine k_xU rfl rfl rfl ?_
            refine k_xU rfl rfl rfl ?_
            refine k_xU rfl rfl rfl ?_
            refine k_xU rfl rfl rfl ?_
            refine k_xU rfl rfl rfl ?_
            refine k_xU rfl rfl rfl ?_
            refine k_xU rfl rfl rfl ?_
            refine k_xU rfl rfl rfl ?_
            refine k_xU rfl rfl rfl ?_
            refine k_xU rfl rfl rfl ?_
            refine k_xU rfl rfl rfl ?_
            refine k_xU rfl rfl rfl ?_
            refine k_xU rfl rfl rfl ?_
            refine k_xU rfl rfl rfl ?_
            refine k_xU rfl rfl rfl ?_
            refine k_xU rfl rfl rfl ?_
            refine k_xU rfl rfl rfl ?_
            refine k_xU rfl rfl rfl ?_
            refine k_xU rfl rfl rfl ?_
            refine k_xU rfl rfl rfl ?_
            refine k_xU rfl rfl rfl ?_
            refine k_xU rfl rfl rfl ?_
            refine k_xU rfl rfl rfl ?_
            refine k_x rfl rfl rfl rfl ?_
            refine k_p (r_pT rfl rfl rfl) rfl ?_
            refine k_z ?_
            refine t_then hK152 ?_
            refine t_T rfl rfl ?_
            refine t_seq fun K204 hK205 => ?_
            refine t_region ?_
            refine c_p (r_as rfl) rfl ?_
            refine t_nil ?_
            refine t_then hK205 ?_
            refine t_ret ?_
            exact br (tr (tr (br (tr (ret1 rfl (v_t rfl) (t_leave (hQ _ (Option.some.inj h133)) () rfl (fun w Z hA => V0) .nil))))))
          · replace h133 := itF hb154 h133
            refine kg_p rfl rfl hb154 (r_fa (off' := 2) Tryd.underlying46 rfl ti3 rfl rfl) rfl ?_
            refine kg_s rfl rfl hb154 (r_ld a0 Tryd.underlying3 rfl rfl rfl) rfl ?_
            refine kg_p rfl rfl hb154 (r_i rfl rfl rfl) rfl ?_
            refine k_p (r_pF rfl hb154 rfl) rfl ?_
            refine k_p (r_mv rfl) rfl ?_
            rcases Bool.eq_false_or_eq_true (decide (el148.Kind > 4)) with hb155 | hb155
            · replace h133 := itT hb155 h133
              refine k_x rfl rfl hb155 rfl ?_
              refine k_x rfl rfl hb155 rfl ?_
              refine k_x rfl rfl hb155 rfl ?_
              refine k_xU rfl rfl rfl ?_
              refine k_xU rfl rfl rfl ?_
              refine k_xU rfl rfl rfl ?_
              refine k_x rfl rfl hb155 rfl ?_
              refine k_p (r_pT rfl hb155 rfl) rfl ?_
              refine k_p (r_mv rfl) rfl ?_
              refine k_x rfl rfl rfl rfl ?_
              refine k_x rfl rfl rfl rfl ?_
              refine k_x rfl rfl rfl rfl ?_
              refine k_xU rfl rfl rfl ?_
              refine k_xU rfl rfl rfl ?_
              refine k_xU rfl rfl rfl ?_
              refine k_xU rfl rfl rfl ?_
              refine k_xU rfl rfl rfl ?_
              refine k_xU rfl rfl rfl ?_
              refine k_xU rfl rfl rfl ?_
              refine k_xU rfl rfl rfl ?_
              refine k_xU rfl rfl rfl ?_
              refine k_xU rfl rfl rfl ?_
              refine k_xU rfl rfl rfl ?_
              refine k_xU rfl rfl rfl ?_
              refine k_xU rfl rfl rfl ?_
              refine k_xU rfl rfl rfl ?_
              refine k_xU rfl rfl rfl ?_
              refine k_xU rfl rfl rfl ?_
              refine k_xU rfl rfl rfl ?_
              refine k_xU rfl rfl rfl ?_
              refine k_xU rfl rfl rfl ?_
              refine k_xU rfl rfl rfl ?_
              refine k_xU rfl rfl rfl ?_
              refine k_xU rfl rfl rfl ?_
              refine k_xU rfl rfl rfl ?_
              refine k_xU rfl rfl rfl ?_
              refine k_xU rfl rfl rfl ?_
              refine k_xU rfl rfl rfl ?_
              refine k_xU rfl rfl rfl ?_
              refine k_xU rfl rfl rfl ?_
              refine k_xU rfl rfl rfl ?_
              refine k_xU rfl rfl rfl ?_
              refine k_xU rfl rfl rfl ?_
              refine k_xU rfl rfl rfl ?_
              refine k_x rfl rfl rfl rfl ?_
              refine k_p (r_pT rfl rfl rfl) rfl ?_
              refine k_z ?_
              refine t_then hK152 ?_
              refine t_T rfl rfl ?_
              refine t_seq fun K206 hK207 => ?_
              refine t_region ?_
              refine c_p (r_as rfl) rfl ?_
              refine t_nil ?_
              refine t_then hK207 ?_
              refine t_ret ?_
              exact br (tr (tr (br (tr (ret1 rfl (v_t rfl) (t_leave (hQ _ (Option.some.inj h133)) () rfl (fun w Z hA => V0) .nil))))))
            · replace h133 := itF hb155 h133
              refine kg_p rfl rfl hb155 (r_mv rfl) rfl ?_
              refine kg_p rfl rfl hb155 (r_i rfl rfl rfl) rfl ?_
              refine kg_p rfl rfl hb155 (r_mv rfl) rfl ?_
              rcases Bool.eq_false_or_eq_true (x131 == 0) with hb156 | hb156
              · replace h133 := itT hb156 h133
                refine kg_p rfl rfl hb156 (r_fa (off' := 0) Tryd.underlying46 rfl ti3 rfl rfl) rfl ?_
                refine kg_s rfl rfl hb156 (r_ld a0 Tryd.underlying3 rfl rfl rfl) rfl ?_
                refine kg_p rfl rfl hb156 (r_i rfl rfl rfl) rfl ?_
                refine kg_p rfl rfl hb155 (r_pT rfl hb156 rfl) rfl ?_
                refine k_p (r_pF rfl hb155 rfl) rfl ?_
                refine k_p (r_mv rfl) rfl ?_
                rcases Bool.eq_false_or_eq_true (el148.From != 1) with hb157 | hb157
                · replace h133 := itT hb157 h133
                  refine k_x rfl rfl hb157 rfl ?_
                  refine k_x rfl rfl hb157 rfl ?_
                  refine k_x rfl rfl hb157 rfl ?_
                  refine k_xU rfl rfl rfl ?_
                  refine k_xU rfl rfl rfl ?_
                  refine k_xU rfl rfl rfl ?_
                  refine k_xU rfl rfl rfl ?_
                  refine k_xU rfl rfl rfl ?_
                  refine k_xU rfl rfl rfl ?_
                  refine k_xU rfl rfl rfl ?_
                  refine k_xU rfl rfl rfl ?_
                  refine k_xU rfl rfl rfl ?_
                  refine k_xU rfl rfl rfl ?_
                  refine k_xU rfl rfl rfl ?_
                  refine k_xU rfl rfl rfl ?_
                  refine k_xU rfl rfl rfl ?_
                  refine k_xU rfl rfl rfl ?_
                  refine k_xU rfl rfl rfl ?_
                  refine k_xU rfl rfl rfl ?_
                  refine k_xU rfl rfl rfl ?_
                  refine k_xU rfl rfl rfl ?_
                  refine k_xU rfl rfl rfl ?_
                  refine k_xU rfl rfl rfl ?_
                  refine k_xU rfl rfl rfl ?_
                  refine k_xU rfl rfl rfl ?_
                  refine k_xU rfl rfl rfl ?_
                  refine k_xU rfl rfl rfl ?_
                  refine k_xU rfl rfl rfl ?_
                  refine k_xU rfl rfl rfl ?_
                  refine k_xU rfl rfl rfl ?_
                  refine k_xU rfl rfl rfl ?_
                  refine k_xU rfl rfl rfl ?_
                  refine k_xU rfl rfl rfl ?_
                  refine k_xU rfl rfl rfl ?_
                  refine k_xU rfl rfl rfl ?_
                  refine k_x rfl rfl hb157 rfl ?_
                  refine k_p (r_pT rfl hb157 rfl) rfl ?_
                  refine k_z ?_
                  refine t_then hK152 ?_
                  refine t_T rfl rfl ?_
                  refine t_seq fun K208 hK209 => ?_
                  refine t_region ?_
                  refine c_p (r_as rfl) rfl ?_
                  refine t_nil ?_
                  refine t_then hK209 ?_
                  refine t_ret ?_
                  exact br (tr (tr (br (tr (ret1 rfl (v_t rfl) (t_leave (hQ _ (Option.some.inj h133)) () rfl (fun w Z hA => V0) .nil))))))
                · replace h133 := itF hb157 h133
                  refine kg_p rfl rfl hb157 (r_mv rfl) rfl ?_
                  refine kg_p rfl rfl hb157 (r_i rfl rfl rfl) rfl ?_
                  refine kg_p rfl rfl hb157 (r_mv rfl) rfl ?_
                  rcases Bool.eq_false_or_eq_true (decide (x131 > 0)) with hb158 | hb158
                  · replace h133 := itT hb158 h133
                    refine kg_p rfl rfl hb158 (r_fa (off' := 0) Tryd.underlying46 rfl ti3 rfl rfl) rfl ?_
                    refine kg_s rfl rfl hb158 (r_ld a0 Tryd.underlying3 rfl rfl rfl) rfl ?_
                    refine kg_p rfl rfl hb158 (r_mv rfl) rfl ?_
                    refine kg_p rfl rfl hb158 (r_mv rfl) rfl ?_
                    refine kg_p rfl rfl hb158 (r_i rfl rfl rfl) rfl ?_
                    obtain ⟨el163, hel163, h133⟩ := bs h133
                    refine t_q a1 hel163 fun q160 hq161 hm162 => ?_
                    refine kg_p rfl rfl hb158 (r_idx hq161 hm162 hel163 Tryd.underlying23 ti46 rfl rfl) rfl ?_
                    refine t_qf hq161 1 fun q168 hq169 => ?_
                    refine kg_p rfl rfl hb158 (r_fai hq161 hq169 Tryd.underlying46 rfl ti3 rfl rfl) rfl ?_
                    refine t_op k_api_Span_opens a1 hel163 fun t172 => ?_
                    refine kg_s rfl rfl hb158 (r_e1 a0 hq169 Tryd.underlying3 rfl rfl rfl) rfl ?_
                    refine kg_p rfl rfl hb158 (r_i rfl rfl rfl) rfl ?_
                    refine kg_p rfl rfl hb158 (r_mv rfl) rfl ?_
                    rcases Bool.eq_false_or_eq_true (decide (el148.From ≤ el163.To)) with hb174 | hb174
                    · replace h133 := itT hb174 h133
                      refine k_x rfl rfl hb174 rfl ?_
                      refine k_x rfl rfl hb174 rfl ?_
                      refine k_x rfl rfl hb174 rfl ?_
                      refine k_x rfl rfl hb174 rfl ?_
                      refine k_x rfl rfl hb174 rfl ?_
                      refine k_x rfl rfl hb174 rfl ?_
                      refine k_x rfl rfl hb174 rfl ?_
                      refine k_x rfl rfl hb174 rfl ?_
                      refine k_x rfl rfl hb174 rfl ?_
                      refine k_x rfl rfl hb174 rfl ?_
                      refine kg_p rfl rfl hb158 (r_pT rfl hb174 rfl) rfl ?_
                      refine kg_p rfl rfl hb158 (r_mv rfl) rfl ?_
                      refine k_x rfl rfl rfl rfl ?_
                      refine k_x rfl rfl rfl rfl ?_
                      refine k_x rfl rfl rfl rfl ?_
                      refine k_x rfl rfl rfl rfl ?_
                      refine k_x rfl rfl rfl rfl ?_
                      refine k_x rfl rfl rfl rfl ?_
                      refine k_x rfl rfl rfl rfl ?_
                      refine k_x rfl rfl rfl rfl ?_
                      refine k_x rfl rfl rfl rfl ?_
                      refine kg_p rfl rfl hb158 (r_pT rfl rfl rfl) rfl ?_
                      refine kg_p rfl rfl hb157 (r_pT rfl hb158 rfl) rfl ?_
                      refine k_p (r_pF rfl hb157 rfl) rfl ?_
                      refine k_z ?_
                      refine t_then hK152 ?_
                      refine t_T rfl rfl ?_
                      refine t_seq fun K210 hK211 => ?_
                      refine t_region ?_
                      refine c_p (r_as rfl) rfl ?_
                      refine t_nil ?_
                      refine t_then hK211 ?_
                      refine t_ret ?_
                      exact br (tr (tr (br (tr (ret1 rfl (v_t rfl) (t_leave (hQ _ (Option.some.inj h133)) () rfl (fun w Z hA => V0) .nil))))))
                    · replace h133 := itF hb174 h133
                      refine kg_p rfl rfl hb174 (r_fa (off' := 0) Tryd.underlying46 rfl ti3 rfl rfl) rfl ?_
                      refine kg_s rfl rfl hb174 (r_ld a0 Tryd.underlying3 rfl rfl rfl) rfl ?_
                      refine kg_p rfl rfl hb174 (r_i rfl rfl rfl) rfl ?_
                      refine kg_p rfl rfl hb174 (r_mv rfl) rfl ?_
                      refine kg_p rfl rfl hb174 (r_mv rfl) rfl ?_
                      refine kg_p rfl rfl hb174 (r_i rfl rfl rfl) rfl ?_
                      refine t_q a2 hel163 fun q176 hq177 hm178 => ?_
                      refine kg_p rfl rfl hb174 (r_idx hq177 hm178 hel163 Tryd.underlying23 ti46 rfl rfl) rfl ?_
                      refine t_qf hq177 1 fun q182 hq183 => ?_
                      refine kg_p rfl rfl hb174 (r_fai hq177 hq183 Tryd.underlying46 rfl ti3 rfl rfl) rfl ?_
                      refine t_op k_api_Span_opens a2 hel163 fun t186 => ?_
                      refine kg_s rfl rfl hb174 (r_e1 a0 hq183 Tryd.underlying3 rfl rfl rfl) rfl ?_
                      refine kg_p rfl rfl hb174 (r_i rfl rfl rfl) rfl ?_
                      refine kg_p rfl rfl hb158 (r_pF rfl hb174 rfl) rfl ?_
                      refine kg_p rfl rfl hb158 (r_mv rfl) rfl ?_
                      rcases Bool.eq_false_or_eq_true ((IntKind.wrap .i64 (el148.From - 1)) != el163.To) with hb188 | hb188
                      · replace h133 := itT hb188 h133
                        refine k_x rfl rfl hb188 rfl ?_
                        refine k_x rfl rfl hb188 rfl ?_
                        refine k_x rfl rfl hb188 rfl ?_
                        refine k_x rfl rfl hb188 rfl ?_
                        refine k_x rfl rfl hb188 rfl ?_
                        refine k_x rfl rfl hb188 rfl ?_
                        refine k_x rfl rfl hb188 rfl ?_
                        refine k_x rfl rfl hb188 rfl ?_
                        refine k_x rfl rfl hb188 rfl ?_
                        refine kg_p rfl rfl hb158 (r_pT rfl hb188 rfl) rfl ?_
                        refine kg_p rfl rfl hb157 (r_pT rfl hb158 rfl) rfl ?_
                        refine k_p (r_pF rfl hb157 rfl) rfl ?_
                        refine k_z ?_
                        refine t_then hK152 ?_
                        refine t_T rfl rfl ?_
                        refine t_seq fun K212 hK213 => ?_
                        refine t_region ?_
                        refine c_p (r_as rfl) rfl ?_
                        refine t_nil ?_
                        refine t_then hK213 ?_
                        refine t_ret ?_
                        exact br (tr (tr (br (tr (ret1 rfl (v_t rfl) (t_leave (hQ _ (Option.some.inj h133)) () rfl (fun w Z hA => V0) .nil))))))
                      · replace h133 := itF hb188 h133
                        refine kg_p rfl rfl hb188 (r_fa (off' := 2) Tryd.underlying46 rfl ti3 rfl rfl) rfl ?_
                        refine kg_s rfl rfl hb188 (r_ld a0 Tryd.underlying3 rfl rfl rfl) rfl ?_
                        refine kg_p rfl rfl hb188 (r_mv rfl) rfl ?_
                        refine kg_p rfl rfl hb188 (r_mv rfl) rfl ?_
                        refine kg_p rfl rfl hb188 (r_i rfl rfl rfl) rfl ?_
                        refine t_q a3 hel163 fun q190 hq191 hm192 => ?_
                        refine kg_p rfl rfl hb188 (r_idx hq191 hm192 hel163 Tryd.underlying23 ti46 rfl rfl) rfl ?_
                        refine t_qf hq191 2 fun q196 hq197 => ?_
                        refine kg_p rfl rfl hb188 (r_fai hq191 hq197 Tryd.underlying46 rfl ti3 rfl rfl) rfl ?_
                        refine t_op k_api_Span_opens a3 hel163 fun t200 => ?_
                        refine kg_s rfl rfl hb188 (r_e1 a0 hq197 Tryd.underlying3 rfl rfl rfl) rfl ?_
                        refine kg_p rfl rfl hb188 (r_i rfl rfl rfl) rfl ?_
                        refine kg_p rfl rfl hb158 (r_pF rfl hb188 rfl) rfl ?_
                        refine kg_p rfl rfl hb157 (r_pT rfl hb158 rfl) rfl ?_
                        refine k_p (r_pF rfl hb157 rfl) rfl ?_
                        refine k_z ?_
                        refine t_then hK152 ?_
                        rcases Bool.eq_false_or_eq_true (el148.Kind == el163.Kind) with hb218 | hb218
                        · replace h133 := itT hb218 h133
                          refine t_T rfl hb218 ?_
                          refine t_seq fun K219 hK220 => ?_
                          refine t_region ?_
                          refine c_p (r_as rfl) rfl ?_
                          refine t_nil ?_
                          refine t_then hK220 ?_
                          refine t_ret ?_
                          exact br (tr (tr (br (tr (ret1 rfl (v_t rfl) (t_leave (hQ _ (Option.some.inj h133)) () rfl (fun w Z hA => V0) .nil))))))
                        · replace h133 := itF hb218 h133
                          refine t_F rfl hb218 ?_
                          refine t_skip ?_
                          refine t_blockN ?_
                          refine t_then hK142 ?_
                          refine t_region ?_
                          refine c_p (r_i rfl rfl rfl) rfl ?_
                          refine c_p (r_mv rfl) rfl ?_
                          refine t_nil ?_
                          exact t_norm (t_go (ih135 (IntKind.wrap .i64 (x131 + 1)) h133) ⟨rfl, rfl, rfl, rfl, trivial⟩ .nil (fun w Z hA => V1 a4 hA (V1 a5 hA (V1 a6 hA (V0)))))
                  · replace h133 := itF hb158 h133
                    refine k_x rfl rfl hb158 rfl ?_
                    refine k_x rfl rfl hb158 rfl ?_
                    refine k_x rfl rfl hb158 rfl ?_
                    refine k_x rfl rfl hb158 rfl ?_
                    refine k_x rfl rfl hb158 rfl ?_
                    refine k_x rfl rfl hb158 rfl ?_
                    refine k_x rfl rfl hb158 rfl ?_
                    refine k_x rfl rfl hb158 rfl ?_
                    refine k_x rfl rfl hb158 rfl ?_
                    refine k_x rfl rfl hb158 rfl ?_
                    refine k_xU rfl rfl rfl ?_
                    refine k_xU rfl rfl rfl ?_
                    refine k_xU rfl rfl rfl ?_
                    refine k_xU rfl rfl rfl ?_
                    refine k_xU rfl rfl rfl ?_
                    refine k_xU rfl rfl rfl ?_
                    refine k_xU rfl rfl rfl ?_
                    refine k_xU rfl rfl rfl ?_
                    refine k_xU rfl rfl rfl ?_
                    refine k_xU rfl rfl rfl ?_
                    refine k_x rfl rfl hb158 rfl ?_
                    refine k_x rfl rfl hb158 rfl ?_
                    refine k_xU rfl rfl rfl ?_
                    refine k_xU rfl rfl rfl ?_
                    refine k_xU rfl rfl rfl ?_
                    refine k_xU rfl rfl rfl ?_
                    refine k_xU rfl rfl rfl ?_
                    refine k_xU rfl rfl rfl ?_
                    refine k_xU rfl rfl rfl ?_
                    refine k_xU rfl rfl rfl ?_
                    refine k_xU rfl rfl rfl ?_
                    refine k_x rfl rfl hb158 rfl ?_
                    refine kg_p rfl rfl hb157 (r_pF rfl hb158 rfl) rfl ?_
                    refine k_p (r_pF rfl hb157 rfl) rfl ?_
                    refine k_z ?_
                    refine t_then hK152 ?_
                    refine t_F rfl rfl ?_
                    refine t_skip ?_
                    refine t_blockN ?_
                    refine t_then hK142 ?_
                    refine t_region ?_
                    refine c_p (r_i rfl rfl rfl) rfl ?_
                    refine c_p (r_mv rfl) rfl ?_
                    refine t_nil ?_
                    exact t_norm (t_go (ih135 (IntKind.wrap .i64 (x131 + 1)) h133) ⟨rfl, rfl, rfl, rfl, trivial⟩ .nil (fun w Z hA => V1 a1 hA (V1 a2 hA (V1 a3 hA (V0)))))
              · replace h133 := itF hb156 h133
                refine k_x rfl rfl hb156 rfl ?_
                refine k_x rfl rfl hb156 rfl ?_
                refine k_x rfl rfl hb156 rfl ?_
                refine kg_p rfl rfl hb155 (r_pF rfl hb156 rfl) rfl ?_
                refine k_p (r_pF rfl hb155 rfl) rfl ?_
                refine k_p (r_mv rfl) rfl ?_
                refine kg_p rfl rfl rfl (r_mv rfl) rfl ?_
                refine kg_p rfl rfl rfl (r_i rfl rfl rfl) rfl ?_
                refine kg_p rfl rfl rfl (r_mv rfl) rfl ?_
                rcases Bool.eq_false_or_eq_true (decide (x131 > 0)) with hb159 | hb159
                · replace h133 := itT hb159 h133
                  refine kg_p rfl rfl hb159 (r_fa (off' := 0) Tryd.underlying46 rfl ti3 rfl rfl) rfl ?_
                  refine kg_s rfl rfl hb159 (r_ld a0 Tryd.underlying3 rfl rfl rfl) rfl ?_
                  refine kg_p rfl rfl hb159 (r_mv rfl) rfl ?_
                  refine kg_p rfl rfl hb159 (r_mv rfl) rfl ?_
                  refine kg_p rfl rfl hb159 (r_i rfl rfl rfl) rfl ?_
                  obtain ⟨el167, hel167, h133⟩ := bs h133
                  refine t_q a1 hel167 fun q164 hq165 hm166 => ?_
                  refine kg_p rfl rfl hb159 (r_idx hq165 hm166 hel167 Tryd.underlying23 ti46 rfl rfl) rfl ?_
                  refine t_qf hq165 1 fun q170 hq171 => ?_
                  refine kg_p rfl rfl hb159 (r_fai hq165 hq171 Tryd.underlying46 rfl ti3 rfl rfl) rfl ?_
                  refine t_op k_api_Span_opens a1 hel167 fun t173 => ?_
                  refine kg_s rfl rfl hb159 (r_e1 a0 hq171 Tryd.underlying3 rfl rfl rfl) rfl ?_
                  refine kg_p rfl rfl hb159 (r_i rfl rfl rfl) rfl ?_
                  refine kg_p rfl rfl hb159 (r_mv rfl) rfl ?_
                  rcases Bool.eq_false_or_eq_true (decide (el148.From ≤ el167.To)) with hb175 | hb175
                  · replace h133 := itT hb175 h133
                    refine k_x rfl rfl hb175 rfl ?_
                    refine k_x rfl rfl hb175 rfl ?_
                    refine k_x rfl rfl hb175 rfl ?_
                    refine k_x rfl rfl hb175 rfl ?_
                    refine k_x rfl rfl hb175 rfl ?_
                    refine k_x rfl rfl hb175 rfl ?_
                    refine k_x rfl rfl hb175 rfl ?_
                    refine k_x rfl rfl hb175 rfl ?_
                    refine k_x rfl rfl hb175 rfl ?_
                    refine k_x rfl rfl hb175 rfl ?_
                    refine kg_p rfl rfl hb159 (r_pT rfl hb175 rfl) rfl ?_
                    refine kg_p rfl rfl hb159 (r_mv rfl) rfl ?_
                    refine k_x rfl rfl rfl rfl ?_
                    refine k_x rfl rfl rfl rfl ?_
                    refine k_x rfl rfl rfl rfl ?_
                    refine k_x rfl rfl rfl rfl ?_
                    refine k_x rfl rfl rfl rfl ?_
                    refine k_x rfl rfl rfl rfl ?_
                    refine k_x rfl rfl rfl rfl ?_
                    refine k_x rfl rfl rfl rfl ?_
                    refine k_x rfl rfl rfl rfl ?_
                    refine kg_p rfl rfl hb159 (r_pT rfl rfl rfl) rfl ?_
                    refine kg_p rfl rfl rfl (r_pT rfl hb159 rfl) rfl ?_
                    refine k_p (r_pF rfl rfl rfl) rfl ?_
                    refine k_z ?_
                    refine t_then hK152 ?_
                    refine t_T rfl rfl ?_
                    refine t_seq fun K214 hK215 => ?_
                    refine t_region ?_
                    refine c_p (r_as rfl) rfl ?_
                    refine t_nil ?_
                    refine t_then hK215 ?_
                    refine t_ret ?_
                    exact br (tr (tr (br (tr (ret1 rfl (v_t rfl) (t_leave (hQ _ (Option.some.inj h133)) () rfl (fun w Z hA => V0) .nil))))))
                  · replace h133 := itF hb175 h133
                    refine kg_p rfl rfl hb175 (r_fa (off' := 0) Tryd.underlying46 rfl ti3 rfl rfl) rfl ?_
                    refine kg_s rfl rfl hb175 (r_ld a0 Tryd.underlying3 rfl rfl rfl) rfl ?_
                    refine kg_p rfl rfl hb175 (r_i rfl rfl rfl) rfl ?_
                    refine kg_p rfl rfl hb175 (r_mv rfl) rfl ?_
                    refine kg_p rfl rfl hb175 (r_mv rfl) rfl ?_
                    refine kg_p rfl rfl hb175 (r_i rfl rfl rfl) rfl ?_
                    refine t_q a2 hel167 fun q179 hq180 hm181 => ?_
                    refine kg_p rfl rfl hb175 (r_idx hq180 hm181 hel167 Tryd.underlying23 ti46 rfl rfl) rfl ?_
                    refine t_qf hq180 1 fun q184 hq185 => ?_
                    refine kg_p rfl rfl hb175 (r_fai hq180 hq185 Tryd.underlying46 rfl ti3 rfl rfl) rfl ?_
                    refine t_op k_api_Span_opens a2 hel167 fun t187 => ?_
                    refine kg_s rfl rfl hb175 (r_e1 a0 hq185 Tryd.underlying3 rfl rfl rfl) rfl ?_
                    refine kg_p rfl rfl hb175 (r_i rfl rfl rfl) rfl ?_
                    refine kg_p rfl rfl hb159 (r_pF rfl hb175 rfl) rfl ?_
                    refine kg_p rfl rfl hb159 (r_mv rfl) rfl ?_
                    rcases Bool.eq_false_or_eq_true ((IntKind.wrap .i64 (el148.From - 1)) != el167.To) with hb189 | hb189
                    · replace h133 := itT hb189 h133
                      refine k_x rfl rfl hb189 rfl ?_
                      refine k_x rfl rfl hb189 rfl ?_
                      refine k_x rfl rfl hb189 rfl ?_
                      refine k_x rfl rfl hb189 rfl ?_
                      refine k_x rfl rfl hb189 rfl ?_
                      refine k_x rfl rfl hb189 rfl ?_
                      refine k_x rfl rfl hb189 rfl ?_
                      refine k_x rfl rfl hb189 rfl ?_
                      refine k_x rfl rfl hb189 rfl ?_
                      refine kg_p rfl rfl hb159 (r_pT rfl hb189 rfl) rfl ?_
                      refine kg_p rfl rfl rfl (r_pT rfl hb159 rfl) rfl ?_
                      refine k_p (r_pF rfl rfl rfl) rfl ?_
                      refine k_z ?_
                      refine t_then hK152 ?_
                      refine t_T rfl rfl ?_
                      refine t_seq fun K216 hK217 => ?_
                      refine t_region ?_
                      refine c_p (r_as rfl) rfl ?_
                      refine t_nil ?_
                      refine t_then hK217 ?_
                      refine t_ret ?_
                      exact br (tr (tr (br (tr (ret1 rfl (v_t rfl) (t_leave (hQ _ (Option.some.inj h133)) () rfl (fun w Z hA => V0) .nil))))))
                    · replace h133 := itF hb189 h133
                      refine kg_p rfl rfl hb189 (r_fa (off' := 2) Tryd.underlying46 rfl ti3 rfl rfl) rfl ?_
                      refine kg_s rfl rfl hb189 (r_ld a0 Tryd.underlying3 rfl rfl rfl) rfl ?_
                      refine kg_p rfl rfl hb189 (r_mv rfl) rfl ?_
                      refine kg_p rfl rfl hb189 (r_mv rfl) rfl ?_
                      refine kg_p rfl rfl hb189 (r_i rfl rfl rfl) rfl ?_
                      refine t_q a3 hel167 fun q193 hq194 hm195 => ?_
                      refine kg_p rfl rfl hb189 (r_idx hq194 hm195 hel167 Tryd.underlying23 ti46 rfl rfl) rfl ?_
                      refine t_qf hq194 2 fun q198 hq199 => ?_
                      refine kg_p rfl rfl hb189 (r_fai hq194 hq199 Tryd.underlying46 rfl ti3 rfl rfl) rfl ?_
                      refine t_op k_api_Span_opens a3 hel167 fun t201 => ?_
                      refine kg_s rfl rfl hb189 (r_e1 a0 hq199 Tryd.underlying3 rfl rfl rfl) rfl ?_
                      refine kg_p rfl rfl hb189 (r_i rfl rfl rfl) rfl ?_
                      refine kg_p rfl rfl hb159 (r_pF rfl hb189 rfl) rfl ?_
                      refine kg_p rfl rfl rfl (r_pT rfl hb159 rfl) rfl ?_
                      refine k_p (r_pF rfl rfl rfl) rfl ?_
                      refine k_z ?_
                      refine t_then hK152 ?_
                      rcases Bool.eq_false_or_eq_true (el148.Kind == el167.Kind) with hb221 | hb221
                      · replace h133 := itT hb221 h133
                        refine t_T rfl hb221 ?_
                        refine t_seq fun K222 hK223 => ?_
                        refine t_region ?_
                        refine c_p (r_as rfl) rfl ?_
                        refine t_nil ?_
                        refine t_then hK223 ?_
                        refine t_ret ?_
                        exact br (tr (tr (br (tr (ret1 rfl (v_t rfl) (t_leave (hQ _ (Option.some.inj h133)) () rfl (fun w Z hA => V0) .nil))))))
                      · replace h133 := itF hb221 h133
                        refine t_F rfl hb221 ?_
                        refine t_skip ?_
                        refine t_blockN ?_
                        refine t_then hK142 ?_
                        refine t_region ?_
                        refine c_p (r_i rfl rfl rfl) rfl ?_
                        refine c_p (r_mv rfl) rfl ?_
                        refine t_nil ?_
                        exact t_norm (t_go (ih135 (IntKind.wrap .i64 (x131 + 1)) h133) ⟨rfl, rfl, rfl, rfl, trivial⟩ .nil (fun w Z hA => V1 a4 hA (V1 a5 hA (V1 a6 hA (V0)))))
                · replace h133 := itF hb159 h133
                  refine k_x rfl rfl hb159 rfl ?_
                  refine k_x rfl rfl hb159 rfl ?_
                  refine k_x rfl rfl hb159 rfl ?_
                  refine k_x rfl rfl hb159 rfl ?_
                  refine k_x rfl rfl hb159 rfl ?_
                  refine k_x rfl rfl hb159 rfl ?_
                  refine k_x rfl rfl hb159 rfl ?_
                  refine k_x rfl rfl hb159 rfl ?_
                  refine k_x rfl rfl hb159 rfl ?_
                  refine k_x rfl rfl hb159 rfl ?_
                  refine k_xU rfl rfl rfl ?_
                  refine k_xU rfl rfl rfl ?_
                  refine k_xU rfl rfl rfl ?_
                  refine k_xU rfl rfl rfl ?_
                  refine k_xU rfl rfl rfl ?_
                  refine k_xU rfl rfl rfl ?_
                  refine k_xU rfl rfl rfl ?_
                  refine k_xU rfl rfl rfl ?_
                  refine k_xU rfl rfl rfl ?_
                  refine k_xU rfl rfl rfl ?_
                  refine k_x rfl rfl hb159 rfl ?_
                  refine k_x rfl rfl hb159 rfl ?_
                  refine k_xU rfl rfl rfl ?_
                  refine k_xU rfl rfl rfl ?_
                  refine k_xU rfl rfl rfl ?_
                  refine k_xU rfl rfl rfl ?_
                  refine k_xU rfl rfl rfl ?_
                  refine k_xU rfl rfl rfl ?_
                  refine k_xU rfl rfl rfl ?_
                  refine k_xU rfl rfl rfl ?_
                  refine k_xU rfl rfl rfl ?_
                  refine k_x rfl rfl hb159 rfl ?_
                  refine kg_p rfl rfl rfl (r_pF rfl hb159 rfl) rfl ?_
                  refine k_p (r_pF rfl rfl rfl) rfl ?_
                  refine k_z ?_
                  refine t_then hK152 ?_
                  refine t_F rfl rfl ?_
                  refine t_skip ?_
                  refine t_blockN ?_
                  refine t_then hK142 ?_
                  refine t_region ?_
                  refine c_p (r_i rfl rfl rfl) rfl ?_
                  refine c_p (r_mv rfl) rfl ?_
                  refine t_nil ?_
                  exact t_norm (t_go (ih135 (IntKind.wrap .i64 (x131 + 1)) h133) ⟨rfl, rfl, rfl, rfl, trivial⟩ .nil (fun w Z hA => V1 a1 hA (V1 a2 hA (V1 a3 hA (V0)))))
      · replace h133 := itF hb140 h133
        refine t_F rfl hb140 ?_
        refine t_exit ?_
        refine te (te (bx ?_))
        refine t_then hK7 ?_
        refine t_seq fun K224 hK225 => ?_
        refine t_region ?_
        refine c_p (r_as rfl) rfl ?_
        refine t_nil ?_
        refine t_then hK225 ?_
        refine t_ret ?_
        exact ret1 rfl (v_t rfl) (t_leave (hQ _ (Option.some.inj h133)) () rfl (fun w Z hA => V0) .nil)
  exact t_go (LP132 ((((z0.length : Int) : Int) - (0)).toNat + 1) 0 h) ⟨rfl, rfl, rfl, rfl, trivial⟩ .nil (fun w Z hA => V1 a0 hA (V1 a1 hA (V1 a2 hA (V0))))
end
end Go.Proofs.YthmjklpmamfncaaDoor.Gx

/- Function 16, kaudit/kauditref40.Count: what it answers as a plain function, and that the Go code comes to exactly that (where the plain function gives an answer). -/
set_option linter.unusedVariables false
set_option linter.unusedSimpArgs false
namespace Go.Proofs.YthmjklpmamfncaaDoor.Gx
open Go.Gx Go.RowKit
noncomputable section
/-! ### kaudit/kauditref40.Count: function 16 -/
def f_kauditref40_Count_l1 (z0 : (List api_Span)) (z1 : Int) : Nat → Int → Int → Option (Int)
  | 0, _, _ => none
  | k67 + 1, x63, x64 => if (decide (x64 < (z0.length : Int))) = true then ((at_ z0 x64).bind fun el81 => if (el81.Kind == z1) = true then (f_kauditref40_Count_l1 z0 z1 k67 (IntKind.wrap .i64 (x63 + (IntKind.wrap .i64 ((IntKind.wrap .i64 (el81.To - el81.From)) + 1)))) (IntKind.wrap .i64 (x64 + 1))) else (f_kauditref40_Count_l1 z0 z1 k67 x63 (IntKind.wrap .i64 (x64 + 1)))) else (some x63)
def f_kauditref40_Count (z0 : (List api_Span)) (z1 : Int) : Option (Int) := (f_kauditref40_Proper z0).bind fun y12 => if y12 = true then (f_kauditref40_Count_l1 z0 z1 ((((z0.length : Int) : Int) - (0)).toNat + 1) 0 0) else (some 0)
set_option maxHeartbeats 4000000 in
set_option maxRecDepth 100000 in
theorem C16 (z0 : (List api_Span)) (z1 : Int) (p1 : Option Addr) (m2 : Nat) (c3 : Nat) (r : Int) (h : f_kauditref40_Count z0 z1 = some r) : FunG Tryd.prog 16 #[.slice p1 m2 c3, .int .i64 z1] [vw (kSlice 46 k_api_Span) z0 [.slice p1 m2 c3], g_pow10, g_kinds] [] (fun (_ : Unit) => .int .i64 r) (fun _ => []) (fun _ => []) := by
  unfold f_kauditref40_Count at h
  refine t_begin (args := [.slice p1 m2 c3, .int .i64 z1]) Tryd.func16 rfl Tryd.ntmps16 rfl fun c R hR => ?_
  have hQ : ∀ X, X = r → ∀ w2 (_ : Unit), PostG c.w0 w2 c.M c.Y [] [] → R (.returned (.int .i64 X)) w2 := fun X e => by subst e; exact hR
  refine t_seq fun K4 hK5 => ?_
  refine t_region ?_
  refine c_p (r_as rfl) rfl ?_
  refine t_nil ?_
  refine t_then hK5 ?_
  refine t_seq fun K6 hK7 => ?_
  refine t_region ?_
  refine c_p (r_as rfl) rfl ?_
  refine t_nil ?_
  refine t_then hK7 ?_
  refine t_seq fun K8 hK9 => ?_
  refine t_seq fun K10 hK11 => ?_
  refine t_region ?_
  refine c_p (r_mv rfl) rfl ?_
  obtain ⟨y12, hy12, h⟩ := bs h
  refine nx (t_ca (C9 _ _ _ _ _ hy12) Tryd.func9 nm9 rfl rfl rfl .nil (fun w Z hA => (V1 a0 hA (V1 a1 hA (V1 a2 hA V0)))) rfl fun t13 => ?_)
  refine c_p (r_not rfl) rfl ?_
  refine t_nil ?_
  refine t_then hK11 ?_
  rcases Bool.eq_false_or_eq_true y12 with hb14 | hb14
  · replace h := itT hb14 h
    refine t_F rfl (congrArg Bool.not hb14) ?_
    refine t_skip ?_
    refine t_then hK9 ?_
    refine t_seq fun K17 hK18 => ?_
    refine t_seq fun K19 hK20 => ?_
    refine t_region ?_
    refine c_p (r_mv rfl) rfl ?_
    refine c_s (r_lnA a0 Tryd.underlying23 rfl) rfl ?_
    refine c_p (r_mv rfl) rfl ?_
    refine t_nil ?_
    refine t_then hK20 ?_
    refine t_block ?_
    refine t_lp fun k61 hk62 => ?_
    have LP65 : ∀ (k67 : Nat) (x63 : Int) (x64 : Int), f_kauditref40_Count_l1 z0 z1 k67 x63 x64 = some r → T 31 c [vw (kSlice 46 k_api_Span) z0 [.slice p1 m2 c3], g_pow10, g_kinds] [] [(1, .int .i64 z1), (5, .int .i64 x63), (11, .slice p1 m2 c3), (12, .int .i64 (z0.length : Int)), (13, .int .i64 x64)] k61 := by
      intro k67
      induction k67 with
      | zero => intro x63 x64 h66; rewrite [f_kauditref40_Count_l1] at h66; cases h66
      | succ k67 ih68 =>
        intro x63 x64 h66
        rewrite [f_kauditref40_Count_l1] at h66
        refine ti hk62 ?_
        refine t_seq fun K69 hK70 => ?_
        refine t_region ?_
        refine c_p (r_i rfl rfl rfl) rfl ?_
        refine t_nil ?_
        refine t_then hK70 ?_
        refine t_seq fun K71 hK72 => ?_
        rcases Bool.eq_false_or_eq_true (decide (x64 < (z0.length : Int))) with hb73 | hb73
        · replace h66 := itT hb73 h66
          refine t_T rfl hb73 ?_
          refine t_skip ?_
          refine t_then hK72 ?_
          refine t_seq fun K74 hK75 => ?_
          refine t_block ?_
          refine t_seq fun K76 hK77 => ?_
          refine t_region ?_
          obtain ⟨el81, hel81, h66⟩ := bs h66
          refine t_q a0 hel81 fun q78 hq79 hm80 => ?_
          refine c_p (r_idx hq79 hm80 hel81 Tryd.underlying23 ti46 rfl rfl) rfl ?_
          refine t_op k_api_Span_opens a0 hel81 fun t82 => ?_
          refine c_s (r_eA a0 hq79 Tryd.underlying46 rfl ti46 rfl rfl) rfl ?_
          refine nx (t_al (cs := [.int .i64 0, .int .i64 0, .int .i64 0]) ti46 rfl rfl fun g83 => ?_)
          refine nx (t_st u0 ti46 rfl rfl rfl rfl rfl (.t (.s (.s (.s .z)))) ?_)
          refine t_nil ?_
          refine t_then hK77 ?_
          refine t_seq fun K84 hK85 => ?_
          refine t_region ?_
          refine c_p (r_fa (off' := 2) Tryd.underlying46 rfl ti3 rfl rfl) rfl ?_
          refine c_s (r_ld a0 Tryd.underlying3 rfl rfl rfl) rfl ?_
          refine c_p (r_mv rfl) rfl ?_
          refine c_p (r_i rfl rfl rfl) rfl ?_
          refine t_nil ?_
          refine t_then hK85 ?_
          rcases Bool.eq_false_or_eq_true (el81.Kind == z1) with hb86 | hb86
          · replace h66 := itT hb86 h66
            refine t_T rfl hb86 ?_
            refine t_region ?_
            refine c_p (r_mv rfl) rfl ?_
            refine c_p (r_fa (off' := 1) Tryd.underlying46 rfl ti3 rfl rfl) rfl ?_
            refine c_s (r_ld a0 Tryd.underlying3 rfl rfl rfl) rfl ?_
            refine c_p (r_fa (off' := 0) Tryd.underlying46 rfl ti3 rfl rfl) rfl ?_
            refine c_s (r_ld a0 Tryd.underlying3 rfl rfl rfl) rfl ?_
            refine c_p (r_i rfl rfl rfl) rfl ?_
            refine c_p (r_i rfl rfl rfl) rfl ?_
            refine c_p (r_i rfl rfl rfl) rfl ?_
            refine c_p (r_as rfl) rfl ?_
            refine t_nil ?_
            refine t_blockN ?_
            refine t_then hK75 ?_
            refine t_region ?_
            refine c_p (r_i rfl rfl rfl) rfl ?_
            refine c_p (r_mv rfl) rfl ?_
            refine t_nil ?_
            exact t_norm (t_go (ih68 (IntKind.wrap .i64 (x63 + (IntKind.wrap .i64 ((IntKind.wrap .i64 (el81.To - el81.From)) + 1)))) (IntKind.wrap .i64 (x64 + 1)) h66) ⟨rfl, rfl, rfl, rfl, rfl, trivial⟩ .nil (fun w Z hA => V1 a1 hA (V1 a2 hA (V1 a3 hA (V0)))))
          · replace h66 := itF hb86 h66
            refine t_F rfl hb86 ?_
            refine t_skip ?_
            refine t_blockN ?_
            refine t_then hK75 ?_
            refine t_region ?_
            refine c_p (r_i rfl rfl rfl) rfl ?_
            refine c_p (r_mv rfl) rfl ?_
            refine t_nil ?_
            exact t_norm (t_go (ih68 x63 (IntKind.wrap .i64 (x64 + 1)) h66) ⟨rfl, rfl, rfl, rfl, rfl, trivial⟩ .nil (fun w Z hA => V1 a1 hA (V1 a2 hA (V1 a3 hA (V0)))))
        · replace h66 := itF hb73 h66
          refine t_F rfl hb73 ?_
          refine t_exit ?_
          refine te (te (bx ?_))
          refine t_then hK18 ?_
          refine t_seq fun K87 hK88 => ?_
          refine t_region ?_
          refine c_p (r_mv rfl) rfl ?_
          refine c_p (r_as rfl) rfl ?_
          refine t_nil ?_
          refine t_then hK88 ?_
          refine t_ret ?_
          exact ret1 rfl (v_t rfl) (t_leave (hQ _ (Option.some.inj h66)) () rfl (fun w Z hA => V0) .nil)
    exact t_go (LP65 ((((z0.length : Int) : Int) - (0)).toNat + 1) 0 0 h) ⟨rfl, rfl, rfl, rfl, rfl, trivial⟩ .nil (fun w Z hA => V1 a0 hA (V1 a1 hA (V1 a2 hA (V0))))
  · replace h := itF hb14 h
    refine t_T rfl (congrArg Bool.not hb14) ?_
    refine t_seq fun K15 hK16 => ?_
    refine t_region ?_
    refine c_p (r_as rfl) rfl ?_
    refine t_nil ?_
    refine t_then hK16 ?_
    refine t_ret ?_
    exact tr (ret1 rfl (v_t rfl) (t_leave (hQ _ (Option.some.inj h)) () rfl (fun w Z hA => V0) .nil))
end
end Go.Proofs.YthmjklpmamfncaaDoor.Gx

/- Function 15, kaudit/coverage.Count: what it answers as a plain function, and that the Go code comes to exactly that (where the plain function gives an answer). -/
set_option linter.unusedVariables false
set_option linter.unusedSimpArgs false
namespace Go.Proofs.YthmjklpmamfncaaDoor.Gx
open Go.Gx Go.RowKit
noncomputable section
/-! ### kaudit/coverage.Count: function 15 -/
def f_coverage_Count_l1 (z0 : (List api_Span)) (z1 : Int) : Nat → Int → Int → Option (Int)
  | 0, _, _ => none
  | k67 + 1, x63, x64 => if (decide (x64 < (z0.length : Int))) = true then ((at_ z0 x64).bind fun el81 => if (el81.Kind == z1) = true then (f_coverage_Count_l1 z0 z1 k67 (IntKind.wrap .i64 (x63 + (IntKind.wrap .i64 ((IntKind.wrap .i64 (el81.To - el81.From)) + 1)))) (IntKind.wrap .i64 (x64 + 1))) else (f_coverage_Count_l1 z0 z1 k67 x63 (IntKind.wrap .i64 (x64 + 1)))) else (some x63)
def f_coverage_Count (z0 : (List api_Span)) (z1 : Int) : Option (Int) := (f_coverage_Proper z0).bind fun y10 => if y10 = true then (f_coverage_Count_l1 z0 z1 ((((z0.length : Int) : Int) - (0)).toNat + 1) 0 0) else (some 0)
set_option maxHeartbeats 4000000 in
set_option maxRecDepth 100000 in
theorem C15 (z0 : (List api_Span)) (z1 : Int) (p1 : Option Addr) (m2 : Nat) (c3 : Nat) (r : Int) (h : f_coverage_Count z0 z1 = some r) : FunG Tryd.prog 15 #[.slice p1 m2 c3, .int .i64 z1] [vw (kSlice 46 k_api_Span) z0 [.slice p1 m2 c3], g_pow10, g_kinds] [] (fun (_ : Unit) => .int .i64 r) (fun _ => []) (fun _ => []) := by
  unfold f_coverage_Count at h
  refine t_begin (args := [.slice p1 m2 c3, .int .i64 z1]) Tryd.func15 rfl Tryd.ntmps15 rfl fun c R hR => ?_
  have hQ : ∀ X, X = r → ∀ w2 (_ : Unit), PostG c.w0 w2 c.M c.Y [] [] → R (.returned (.int .i64 X)) w2 := fun X e => by subst e; exact hR
  refine t_seq fun K4 hK5 => ?_
  refine t_region ?_
  refine c_p (r_as rfl) rfl ?_
  refine t_nil ?_
  refine t_then hK5 ?_
  refine t_seq fun K6 hK7 => ?_
  refine t_seq fun K8 hK9 => ?_
  refine t_region ?_
  refine c_p (r_mv rfl) rfl ?_
  obtain ⟨y10, hy10, h⟩ := bs h
  refine nx (t_ca (C8 _ _ _ _ _ hy10) Tryd.func8 nm8 rfl rfl rfl .nil (fun w Z hA => (V1 a0 hA (V1 a1 hA (V1 a2 hA V0)))) rfl fun t11 => ?_)
  refine c_p (r_not rfl) rfl ?_
  refine t_nil ?_
  refine t_then hK9 ?_
  rcases Bool.eq_false_or_eq_true y10 with hb12 | hb12
  · replace h := itT hb12 h
    refine t_F rfl (congrArg Bool.not hb12) ?_
    refine t_skip ?_
    refine t_then hK7 ?_
    refine t_seq fun K15 hK16 => ?_
    refine t_region ?_
    refine c_p (r_as rfl) rfl ?_
    refine t_nil ?_
    refine t_then hK16 ?_
    refine t_seq fun K17 hK18 => ?_
    refine t_seq fun K19 hK20 => ?_
    refine t_region ?_
    refine c_p (r_mv rfl) rfl ?_
    refine c_s (r_lnA a0 Tryd.underlying23 rfl) rfl ?_
    refine c_p (r_mv rfl) rfl ?_
    refine t_nil ?_
    refine t_then hK20 ?_
    refine t_block ?_
    refine t_lp fun k61 hk62 => ?_
    have LP65 : ∀ (k67 : Nat) (x63 : Int) (x64 : Int), f_coverage_Count_l1 z0 z1 k67 x63 x64 = some r → T 31 c [vw (kSlice 46 k_api_Span) z0 [.slice p1 m2 c3], g_pow10, g_kinds] [] [(1, .int .i64 z1), (5, .int .i64 x63), (11, .slice p1 m2 c3), (12, .int .i64 (z0.length : Int)), (13, .int .i64 x64)] k61 := by
      intro k67
      induction k67 with
      | zero => intro x63 x64 h66; rewrite [f_coverage_Count_l1] at h66; cases h66
      | succ k67 ih68 =>
        intro x63 x64 h66
        rewrite [f_coverage_Count_l1] at h66
        refine ti hk62 ?_
        refine t_seq fun K69 hK70 => ?_
        refine t_region ?_
        refine c_p (r_i rfl rfl rfl) rfl ?_
        refine t_nil ?_
        refine t_then hK70 ?_
        refine t_seq fun K71 hK72 => ?_
        rcases Bool.eq_false_or_eq_true (decide (x64 < (z0.length : Int))) with hb73 | hb73
        · replace h66 := itT hb73 h66
          refine t_T rfl hb73 ?_
          refine t_skip ?_
          refine t_then hK72 ?_
          refine t_seq fun K74 hK75 => ?_
          refine t_block ?_
          refine t_seq fun K76 hK77 => ?_
          refine t_region ?_
          obtain ⟨el81, hel81, h66⟩ := bs h66
          refine t_q a0 hel81 fun q78 hq79 hm80 => ?_
          refine c_p (r_idx hq79 hm80 hel81 Tryd.underlying23 ti46 rfl rfl) rfl ?_
          refine t_op k_api_Span_opens a0 hel81 fun t82 => ?_
          refine c_s (r_eA a0 hq79 Tryd.underlying46 rfl ti46 rfl rfl) rfl ?_
          refine nx (t_al (cs := [.int .i64 0, .int .i64 0, .int .i64 0]) ti46 rfl rfl fun g83 => ?_)
          refine nx (t_st u0 ti46 rfl rfl rfl rfl rfl (.t (.s (.s (.s .z)))) ?_)
          refine t_nil ?_
          refine t_then hK77 ?_
          refine t_seq fun K84 hK85 => ?_
          refine t_region ?_
          refine c_p (r_fa (off' := 2) Tryd.underlying46 rfl ti3 rfl rfl) rfl ?_
          refine c_s (r_ld a0 Tryd.underlying3 rfl rfl rfl) rfl ?_
          refine c_p (r_mv rfl) rfl ?_
          refine c_p (r_i rfl rfl rfl) rfl ?_
          refine t_nil ?_
          refine t_then hK85 ?_
          rcases Bool.eq_false_or_eq_true (el81.Kind == z1) with hb86 | hb86
          · replace h66 := itT hb86 h66
            refine t_T rfl hb86 ?_
            refine t_region ?_
            refine c_p (r_mv rfl) rfl ?_
            refine c_p (r_fa (off' := 1) Tryd.underlying46 rfl ti3 rfl rfl) rfl ?_
            refine c_s (r_ld a0 Tryd.underlying3 rfl rfl rfl) rfl ?_
            refine c_p (r_fa (off' := 0) Tryd.underlying46 rfl ti3 rfl rfl) rfl ?_
            refine c_s (r_ld a0 Tryd.underlying3 rfl rfl rfl) rfl ?_
            refine c_p (r_i rfl rfl rfl) rfl ?_
            refine c_p (r_i rfl rfl rfl) rfl ?_
            refine c_p (r_i rfl rfl rfl) rfl ?_
            refine c_p (r_as rfl) rfl ?_
            refine t_nil ?_
            refine t_blockN ?_
            refine t_then hK75 ?_
            refine t_region ?_
            refine c_p (r_i rfl rfl rfl) rfl ?_
            refine c_p (r_mv rfl) rfl ?_
            refine t_nil ?_
            exact t_norm (t_go (ih68 (IntKind.wrap .i64 (x63 + (IntKind.wrap .i64 ((IntKind.wrap .i64 (el81.To - el81.From)) + 1)))) (IntKind.wrap .i64 (x64 + 1)) h66) ⟨rfl, rfl, rfl, rfl, rfl, trivial⟩ .nil (fun w Z hA => V1 a1 hA (V1 a2 hA (V1 a3 hA (V0)))))
          · replace h66 := itF hb86 h66
            refine t_F rfl hb86 ?_
            refine t_skip ?_
            refine t_blockN ?_
            refine t_then hK75 ?_
            refine t_region ?_
            refine c_p (r_i rfl rfl rfl) rfl ?_
            refine c_p (r_mv rfl) rfl ?_
            refine t_nil ?_
            exact t_norm (t_go (ih68 x63 (IntKind.wrap .i64 (x64 + 1)) h66) ⟨rfl, rfl, rfl, rfl, rfl, trivial⟩ .nil (fun w Z hA => V1 a1 hA (V1 a2 hA (V1 a3 hA (V0)))))
        · replace h66 := itF hb73 h66
          refine t_F rfl hb73 ?_
          refine t_exit ?_
          refine te (te (bx ?_))
          refine t_then hK18 ?_
          refine t_seq fun K87 hK88 => ?_
          refine t_region ?_
          refine c_p (r_mv rfl) rfl ?_
          refine c_p (r_as rfl) rfl ?_
          refine t_nil ?_
          refine t_then hK88 ?_
          refine t_ret ?_
          exact ret1 rfl (v_t rfl) (t_leave (hQ _ (Option.some.inj h66)) () rfl (fun w Z hA => V0) .nil)
    exact t_go (LP65 ((((z0.length : Int) : Int) - (0)).toNat + 1) 0 0 h) ⟨rfl, rfl, rfl, rfl, rfl, trivial⟩ .nil (fun w Z hA => V1 a0 hA (V1 a1 hA (V1 a2 hA (V0))))
  · replace h := itF hb12 h
    refine t_T rfl (congrArg Bool.not hb12) ?_
    refine t_seq fun K13 hK14 => ?_
    refine t_region ?_
    refine c_p (r_as rfl) rfl ?_
    refine t_nil ?_
    refine t_then hK14 ?_
    refine t_ret ?_
    exact tr (ret1 rfl (v_t rfl) (t_leave (hQ _ (Option.some.inj h)) () rfl (fun w Z hA => V0) .nil))
end
end Go.Proofs.YthmjklpmamfncaaDoor.Gx

/- Function 19, kaudit/kauditref40.Within: what it answers as a plain function, and that the Go code comes to exactly that (where the plain function gives an answer). -/
set_option linter.unusedVariables false
set_option linter.unusedSimpArgs false
namespace Go.Proofs.YthmjklpmamfncaaDoor.Gx
open Go.Gx Go.RowKit
noncomputable section
/-! ### kaudit/kauditref40.Within: function 19 -/
def f_kauditref40_Within_l1 (z0 : (List api_Span)) (z1 : Int) (z2 : Int) : Nat → List api_Span → Int → Option ((List api_Span))
  | 0, _, _ => none
  | k86 + 1, x82, x83 => if (decide (x83 < (z0.length : Int))) = true then ((at_ z0 x83).bind fun el100 => if (decide ((max el100.From z1) ≤ (min el100.To z2))) = true then (ck (fits (x82.length + [(⟨(max el100.From z1), (min el100.To z2), el100.Kind⟩ : api_Span)].length) 24 = true) <| f_kauditref40_Within_l1 z0 z1 z2 k86 (x82 ++ [(⟨(max el100.From z1), (min el100.To z2), el100.Kind⟩ : api_Span)]) (IntKind.wrap .i64 (x83 + 1))) else (f_kauditref40_Within_l1 z0 z1 z2 k86 x82 (IntKind.wrap .i64 (x83 + 1)))) else (some x82)
def f_kauditref40_Within (z0 : (List api_Span)) (z1 : Int) (z2 : Int) : Option ((List api_Span)) := (f_kauditref40_Proper z0).bind fun y12 => if y12 = true then (f_kauditref40_Within_l1 z0 z1 z2 ((((z0.length : Int) : Int) - (0)).toNat + 1) ([] : List api_Span) 0) else (some ([] : List api_Span))
set_option maxHeartbeats 4000000 in
set_option maxRecDepth 100000 in
theorem C19 (z0 : (List api_Span)) (z1 : Int) (z2 : Int) (p1 : Option Addr) (m2 : Nat) (c3 : Nat) (r : (List api_Span)) (h : f_kauditref40_Within z0 z1 z2 = some r) : FunG Tryd.prog 19 #[.slice p1 m2 c3, .int .i64 z1, .int .i64 z2] [vw (kSlice 46 k_api_Span) z0 [.slice p1 m2 c3], g_pow10, g_kinds] [] (fun t : (Option Addr × Nat × Nat) => .slice t.1 t.2.1 t.2.2) (fun t => []) (fun t => [[row 46 k_api_Span r (.slice t.1 t.2.1 t.2.2)]]) := by
  unfold f_kauditref40_Within at h
  refine t_begin (args := [.slice p1 m2 c3, .int .i64 z1, .int .i64 z2]) Tryd.func19 rfl Tryd.ntmps19 rfl fun c R hR => ?_
  have hQ : ∀ X, X = r → ∀ w2 (t : (Option Addr × Nat × Nat)), PostG c.w0 w2 c.M c.Y [] [[row 46 k_api_Span X (.slice t.1 t.2.1 t.2.2)]] → R (.returned (.slice t.1 t.2.1 t.2.2)) w2 := fun X e => by subst e; exact hR
  refine t_seq fun K4 hK5 => ?_
  refine t_region ?_
  refine c_p (r_as rfl) rfl ?_
  refine t_nil ?_
  refine t_then hK5 ?_
  refine t_seq fun K6 hK7 => ?_
  refine t_region ?_
  refine c_p (r_as rfl) rfl ?_
  refine t_nil ?_
  refine t_then hK7 ?_
  refine t_seq fun K8 hK9 => ?_
  refine t_seq fun K10 hK11 => ?_
  refine t_region ?_
  refine c_p (r_mv rfl) rfl ?_
  obtain ⟨y12, hy12, h⟩ := bs h
  refine nx (t_ca (C9 _ _ _ _ _ hy12) Tryd.func9 nm9 rfl rfl rfl .nil (fun w Z hA => (V1 a0 hA (V1 a1 hA (V1 a2 hA V0)))) rfl fun t13 => ?_)
  refine c_p (r_not rfl) rfl ?_
  refine t_nil ?_
  refine t_then hK11 ?_
  rcases Bool.eq_false_or_eq_true y12 with hb14 | hb14
  · replace h := itT hb14 h
    refine t_F rfl (congrArg Bool.not hb14) ?_
    refine t_skip ?_
    refine t_then hK9 ?_
    refine t_seq fun K17 hK18 => ?_
    refine t_seq fun K19 hK20 => ?_
    refine t_region ?_
    refine c_p (r_mv rfl) rfl ?_
    refine c_s (r_lnA a0 Tryd.underlying23 rfl) rfl ?_
    refine c_p (r_mv rfl) rfl ?_
    refine t_nil ?_
    refine t_then hK20 ?_
    refine t_block ?_
    refine t_nr 46 k_api_Span ?_
    refine t_lp fun k77 hk78 => ?_
    have LP84 : ∀ (k86 : Nat) (p79 : Option Addr) (m80 : Nat) (c81 : Nat) (x82 : List api_Span) (x83 : Int), f_kauditref40_Within_l1 z0 z1 z2 k86 x82 x83 = some r → T 40 c [vw (kSlice 46 k_api_Span) z0 [.slice p1 m2 c3], g_pow10, g_kinds] [[row 46 k_api_Span x82 (.slice p79 m80 c81)]] [(1, .int .i64 z1), (2, .int .i64 z2), (7, .slice p79 m80 c81), (13, .slice p1 m2 c3), (14, .int .i64 (z0.length : Int)), (15, .int .i64 x83)] k77 := by
      intro k86
      induction k86 with
      | zero => intro p79 m80 c81 x82 x83 h85; rewrite [f_kauditref40_Within_l1] at h85; cases h85
      | succ k86 ih87 =>
        intro p79 m80 c81 x82 x83 h85
        rewrite [f_kauditref40_Within_l1] at h85
        refine ti hk78 ?_
        refine t_seq fun K88 hK89 => ?_
        refine t_region ?_
        refine c_p (r_i rfl rfl rfl) rfl ?_
        refine t_nil ?_
        refine t_then hK89 ?_
        refine t_seq fun K90 hK91 => ?_
        rcases Bool.eq_false_or_eq_true (decide (x83 < (z0.length : Int))) with hb92 | hb92
        · replace h85 := itT hb92 h85
          refine t_T rfl hb92 ?_
          refine t_skip ?_
          refine t_then hK91 ?_
          refine t_seq fun K93 hK94 => ?_
          refine t_block ?_
          refine t_seq fun K95 hK96 => ?_
          refine t_region ?_
          obtain ⟨el100, hel100, h85⟩ := bs h85
          refine t_q a0 hel100 fun q97 hq98 hm99 => ?_
          refine c_p (r_idx hq98 hm99 hel100 Tryd.underlying23 ti46 rfl rfl) rfl ?_
          refine t_op k_api_Span_opens a0 hel100 fun t101 => ?_
          refine c_s (r_eA a0 hq98 Tryd.underlying46 rfl ti46 rfl rfl) rfl ?_
          refine nx (t_al (cs := [.int .i64 0, .int .i64 0, .int .i64 0]) ti46 rfl rfl fun g102 => ?_)
          refine nx (t_st u0 ti46 rfl rfl rfl rfl rfl (.t (.s (.s (.s .z)))) ?_)
          refine t_nil ?_
          refine t_then hK96 ?_
          refine t_seq fun K103 hK104 => ?_
          refine t_region ?_
          refine c_p (r_fa (off' := 0) Tryd.underlying46 rfl ti3 rfl rfl) rfl ?_
          refine c_s (r_ld a0 Tryd.underlying3 rfl rfl rfl) rfl ?_
          refine c_p (r_mv rfl) rfl ?_
          refine c_p (r_max rfl rfl) rfl ?_
          refine c_p (r_fa (off' := 1) Tryd.underlying46 rfl ti3 rfl rfl) rfl ?_
          refine c_s (r_ld a0 Tryd.underlying3 rfl rfl rfl) rfl ?_
          refine c_p (r_mv rfl) rfl ?_
          refine c_p (r_min rfl rfl) rfl ?_
          refine c_p (r_fa (off' := 0) Tryd.underlying46 rfl ti3 rfl rfl) rfl ?_
          refine nx (t_st u0 ti3 rfl rfl rfl rfl rfl (.t (.s .z)) ?_)
          refine c_p (r_fa (off' := 1) Tryd.underlying46 rfl ti3 rfl rfl) rfl ?_
          refine nx (t_st u0 ti3 rfl rfl rfl rfl rfl (.s (.t (.s .z))) ?_)
          refine t_nil ?_
          refine t_then hK104 ?_
          refine t_seq fun K105 hK106 => ?_
          refine t_region ?_
          refine c_p (r_fa (off' := 0) Tryd.underlying46 rfl ti3 rfl rfl) rfl ?_
          refine c_s (r_ld a0 Tryd.underlying3 rfl rfl rfl) rfl ?_
          refine c_p (r_fa (off' := 1) Tryd.underlying46 rfl ti3 rfl rfl) rfl ?_
          refine c_s (r_ld a0 Tryd.underlying3 rfl rfl rfl) rfl ?_
          refine c_p (r_i rfl rfl rfl) rfl ?_
          refine t_nil ?_
          refine t_then hK106 ?_
          rcases Bool.eq_false_or_eq_true (decide ((max el100.From z1) ≤ (min el100.To z2))) with hb107 | hb107
          · replace h85 := itT hb107 h85
            refine t_T rfl hb107 ?_
            refine t_region ?_
            refine c_p (r_mv rfl) rfl ?_
            refine c_s (r_ldA a0 Tryd.underlying46 rfl ti46 rfl rfl) rfl ?_
            refine nx (t_bs (ps := [(0, .agg #[.int .i64 (max el100.From z1), .int .i64 (min el100.To z2), .int .i64 el100.Kind])]) (cs := [.int .i64 (max el100.From z1), .int .i64 (min el100.To z2), .int .i64 el100.Kind]) Tryd.underlying23 ti46 rfl rfl (by kernel_rfl) rfl fun g108 => ?_)
            obtain ⟨hc109, h85⟩ := ck_out h85
            refine nx (t_app (Kd := k_api_Span) (xs := x82) (ys := [(⟨(max el100.From z1), (min el100.To z2), el100.Kind⟩ : api_Span)]) (.cons e2 .nil) rfl rfl Tryd.underlying23 Tryd.underlying23 ti46 rfl rfl hc109 (srcB a0 (fun w Z S hA hN => flat_EO (S := Nil) k_api_Span_flatK (er1 (c1 := [.int .i64 (max el100.From z1), .int .i64 (min el100.To z2), .int .i64 el100.Kind]) (k_api_Span_shuts (x := (⟨(max el100.From z1), (min el100.To z2), el100.Kind⟩ : api_Span)) (t := ()) trivial) er0))) rfl fun t110 => ?_)
            refine c_p (r_as rfl) rfl ?_
            refine t_nil ?_
            refine t_blockN ?_
            refine t_then hK94 ?_
            refine t_region ?_
            refine c_p (r_i rfl rfl rfl) rfl ?_
            refine c_p (r_mv rfl) rfl ?_
            refine t_nil ?_
            exact t_norm (t_go (ih87 t110.1 t110.2.1 t110.2.2 (x82 ++ [(⟨(max el100.From z1), (min el100.To z2), el100.Kind⟩ : api_Span)]) (IntKind.wrap .i64 (x83 + 1)) h85) ⟨rfl, rfl, rfl, rfl, rfl, rfl, trivial⟩ (.cons e0 .nil) (fun w Z hA => V1 a1 hA (V1 a2 hA (V1 a3 hA (V0)))))
          · replace h85 := itF hb107 h85
            refine t_F rfl hb107 ?_
            refine t_skip ?_
            refine t_blockN ?_
            refine t_then hK94 ?_
            refine t_region ?_
            refine c_p (r_i rfl rfl rfl) rfl ?_
            refine c_p (r_mv rfl) rfl ?_
            refine t_nil ?_
            exact t_norm (t_go (ih87 p79 m80 c81 x82 (IntKind.wrap .i64 (x83 + 1)) h85) ⟨rfl, rfl, rfl, rfl, rfl, rfl, trivial⟩ (.cons e1 .nil) (fun w Z hA => V1 a1 hA (V1 a2 hA (V1 a3 hA (V0)))))
        · replace h85 := itF hb92 h85
          refine t_F rfl hb92 ?_
          refine t_exit ?_
          refine te (te (bx ?_))
          refine t_then hK18 ?_
          refine t_seq fun K111 hK112 => ?_
          refine t_region ?_
          refine c_p (r_mv rfl) rfl ?_
          refine c_p (r_as rfl) rfl ?_
          refine t_nil ?_
          refine t_then hK112 ?_
          refine t_ret ?_
          exact ret1 rfl (v_t rfl) (t_leave (hQ _ (Option.some.inj h85)) (p79, m80, c81) rfl (fun w Z hA => V0) (.cons e0 .nil))
    exact t_go (LP84 ((((z0.length : Int) : Int) - (0)).toNat + 1) none 0 0 ([] : List api_Span) 0 h) ⟨rfl, rfl, rfl, rfl, rfl, rfl, trivial⟩ (.cons e0 .nil) (fun w Z hA => V1 a0 hA (V1 a1 hA (V1 a2 hA (V0))))
  · replace h := itF hb14 h
    refine t_T rfl (congrArg Bool.not hb14) ?_
    refine t_seq fun K15 hK16 => ?_
    refine t_region ?_
    refine c_p (r_as rfl) rfl ?_
    refine t_nil ?_
    refine t_then hK16 ?_
    refine t_ret ?_
    refine t_nr 46 k_api_Span ?_
    exact tr (ret1 rfl (v_t rfl) (t_leave (hQ _ (Option.some.inj h)) (none, 0, 0) rfl (fun w Z hA => V0) (.cons e0 .nil)))
end
end Go.Proofs.YthmjklpmamfncaaDoor.Gx

/- CoverageSpans: what the program answers is what the reference answers: which spans are proper, counts, parts. -/
set_option linter.unusedVariables false
set_option maxRecDepth 100000
namespace Go.Proofs.YthmjklpmamfncaaDoor.Gx
open Go.Gx Go.RowKit
theorem RProper_loop {z : List api_Span} (hz : z.length < 4611686018427387904) (hf : Fit z) : ∀ (k i : Nat) (g kk : Int), i ≤ z.length → z.length < k + i → 1 ≤ g → (i = 0 → g = 1 ∧ kk = 0) → (∀ j, i = j + 1 → ∃ p, z[j]? = some p ∧ g = p.To + 1 ∧ kk = p.Kind) →
    f_kauditref40_Proper_l1 z k i = some (prB g kk (z.drop i)) := by
  intro k
  induction k with
  | zero => intro i _ _ h1 h2; omega
  | succ k ih =>
    intro i g kk h1 h2 hg h0 hp
    rw [f_kauditref40_Proper_l1]
    by_cases h : i < z.length
    · have e : z.drop i = z[i] :: z.drop (i + 1) := (List.getElem_cons_drop h).symm
      have hm := List.getElem_mem h
      generalize hs : z[i] = s at e hm
      have hs' : z[i]? = some s := by rw [← hs]; exact List.getElem?_eq_getElem h
      obtain ⟨⟨f1, f2⟩, ⟨t1, t2⟩, ⟨k1, k2⟩⟩ := hf s hm
      rw [e, prB_cons]
      have next : 1 ≤ s.From → s.From ≤ s.To → f_kauditref40_Proper_l1 z k (IntKind.wrap .i64 ((i : Int) + 1)) = some (prB (s.To + 1) s.Kind (z.drop (i + 1))) := fun a b => by
        rw [wrap_up (by omega)]
        exact ih (i + 1) _ _ (by omega) (by omega) (by omega) (by omega) (fun j hj => ⟨s, (Nat.succ.inj hj) ▸ hs', rfl, rfl⟩)
      have no : ¬ (s.From = g ∧ g ≤ s.To ∧ 1 ≤ s.Kind ∧ s.Kind ≤ 4 ∧ s.Kind ≠ kk) → some (decide (s.From = g ∧ g ≤ s.To ∧ 1 ≤ s.Kind ∧ s.Kind ≤ 4 ∧ s.Kind ≠ kk) && prB (s.To + 1) s.Kind (z.drop (i + 1))) = some false := fun hn => by rw [dec_f hn, Bool.false_and]
      have yes : (s.From = g ∧ g ≤ s.To ∧ 1 ≤ s.Kind ∧ s.Kind ≤ 4 ∧ s.Kind ≠ kk) → some (decide (s.From = g ∧ g ≤ s.To ∧ 1 ≤ s.Kind ∧ s.Kind ≤ 4 ∧ s.Kind ≠ kk) && prB (s.To + 1) s.Kind (z.drop (i + 1))) = some (prB (s.To + 1) s.Kind (z.drop (i + 1))) := fun hn => by rw [dec_t hn, Bool.true_and]
      refine ite_t (dec_t (by omega)) (bind_of (at_nat hs') ?_)
      by_cases c2 : s.To < s.From
      · exact ite_t (dec_t c2) (no (by omega)).symm
      refine ite_f (dec_f c2) ?_
      by_cases c3 : s.Kind < 1
      · exact ite_t (dec_t c3) (no (by omega)).symm
      refine ite_f (dec_f c3) ?_
      by_cases c4 : s.Kind > 4
      · exact ite_t (dec_t c4) (no (by omega)).symm
      refine ite_f (dec_f c4) ?_
      cases i with
      | zero =>
        obtain ⟨rfl, rfl⟩ := h0 rfl
        refine ite_t rfl ?_
        by_cases c5 : s.From = 1
        · refine ite_f (by simp [c5]) (ite_f (dec_f (by omega)) ?_)
          rw [yes ⟨c5, by omega, by omega, by omega, by omega⟩]
          exact next (by omega) (by omega)
        · exact ite_t (by simp [c5]) (no (by omega)).symm
      | succ j =>
        obtain ⟨p, hpj, rfl, rfl⟩ := hp j rfl
        refine ite_f (by rw [beq_eq_false_iff_ne]; omega) (ite_t (dec_t (by omega)) (bind_of (by rw [wrap_dn (by omega)]; exact at_nat hpj) ?_))
        by_cases c5 : s.From ≤ p.To
        · exact ite_t (dec_t c5) (no (by omega)).symm
        refine ite_f (dec_f c5) ?_
        rw [wrap_id (n := s.From - 1) (by omega) (by omega)]
        by_cases c6 : s.From - 1 = p.To
        · refine ite_f (by simp [c6]) ?_
          by_cases c7 : s.Kind = p.Kind
          · exact ite_t (by simpa using c7) (no (fun h => h.2.2.2.2 c7)).symm
          · refine ite_f (by simpa using c7) ?_
            rw [yes ⟨by omega, by omega, by omega, by omega, c7⟩]
            exact next (by omega) (by omega)
        · exact ite_t (by simpa using c6) (no (by omega)).symm
    · obtain rfl : i = z.length := by omega
      rw [List.drop_length]
      exact ite_f (dec_f (by omega)) rfl
theorem RProper_ok {z : List api_Span} (hz : z.length < 4611686018427387904) (hf : Fit z) : f_kauditref40_Proper z = some (prB 1 0 z) := by
  unfold f_kauditref40_Proper
  have e : (((z.length : Int) : Int) - 0).toNat + 1 = z.length + 1 := by omega
  rw [e]
  exact RProper_loop hz hf (z.length + 1) 0 1 0 (by omega) (by omega) (by omega) (fun _ => ⟨rfl, rfl⟩) (fun j h => by omega)
theorem Count_loop {z : List api_Span} (hz : z.length < 4611686018427387904) (kd : Int) : ∀ (k i : Nat) (x : Int), i ≤ z.length → z.length < k + i → ∃ n, f_coverage_Count_l1 z kd k x i = some n ∧ f_kauditref40_Count_l1 z kd k x i = some n := by
  intro k
  induction k with
  | zero => intro i _ h1 h2; omega
  | succ k ih =>
    intro i x h1 h2
    rw [f_coverage_Count_l1, f_kauditref40_Count_l1]
    by_cases h : i < z.length
    · have w : IntKind.wrap .i64 ((i : Int) + 1) = ((i + 1 : Nat) : Int) := wrap_up (by omega)
      by_cases c : (z[i].Kind == kd) = true
      · obtain ⟨n, a, b⟩ := ih (i + 1) (IntKind.wrap .i64 (x + (IntKind.wrap .i64 ((IntKind.wrap .i64 (z[i].To - z[i].From)) + 1)))) (by omega) (by omega)
        exact ⟨n, ite_t (dec_t (by omega)) (bind_of (at_get h) (ite_t c (by rw [w]; exact a))), ite_t (dec_t (by omega)) (bind_of (at_get h) (ite_t c (by rw [w]; exact b)))⟩
      · obtain ⟨n, a, b⟩ := ih (i + 1) x (by omega) (by omega)
        exact ⟨n, ite_t (dec_t (by omega)) (bind_of (at_get h) (ite_f (by simpa using c) (by rw [w]; exact a))), ite_t (dec_t (by omega)) (bind_of (at_get h) (ite_f (by simpa using c) (by rw [w]; exact b)))⟩
    · exact ⟨x, ite_f (dec_f (by omega)) rfl, ite_f (dec_f (by omega)) rfl⟩
theorem Count_eq {z : List api_Span} (hz : z.length < 4611686018427387904) (hf : Fit z) (kd : Int) : ∃ n, f_coverage_Count z kd = some n ∧ f_kauditref40_Count z kd = some n := by
  unfold f_coverage_Count f_kauditref40_Count
  cases hp : prB 1 0 z with
  | false => exact ⟨0, bind_of (Proper_ok hz hf) (ite_f hp rfl), bind_of (RProper_ok hz hf) (ite_f hp rfl)⟩
  | true =>
    obtain ⟨n, a, b⟩ := Count_loop hz kd ((((z.length : Int) : Int) - (0)).toNat + 1) 0 0 (by omega) (by omega)
    exact ⟨n, bind_of (Proper_ok hz hf) (ite_t hp a), bind_of (RProper_ok hz hf) (ite_t hp b)⟩
theorem RWithin_loop {z : List api_Span} (hz : z.length < 1000000000) (a b : Int) : ∀ (k i : Nat) (acc : List api_Span), i ≤ z.length → z.length < k + i → acc.length ≤ i → ∃ r, f_coverage_Within_l1 z a b k acc i = some r ∧ f_kauditref40_Within_l1 z a b k acc i = some r ∧ r.length ≤ z.length := by
  intro k
  induction k with
  | zero => intro i _ h1 h2; omega
  | succ k ih =>
    intro i acc h1 h2 h3
    rw [f_coverage_Within_l1, f_kauditref40_Within_l1]
    by_cases h : i < z.length
    · have w : IntKind.wrap .i64 ((i : Int) + 1) = ((i + 1 : Nat) : Int) := wrap_up (by omega)
      by_cases c : max z[i].From a ≤ min z[i].To b
      · obtain ⟨r, p, q, l⟩ := ih (i + 1) (acc ++ [⟨max z[i].From a, min z[i].To b, z[i].Kind⟩]) (by omega) (by omega) (by simp; omega)
        exact ⟨r, ite_t (dec_t (by omega)) (bind_of (at_get h) (ite_t (dec_t c) (ck_of (fits_of (by simp; omega)) (by rw [w]; exact p)))), ite_t (dec_t (by omega)) (bind_of (at_get h) (ite_t (dec_t c) (ck_of (fits_of (by simp; omega)) (by rw [w]; exact q)))), l⟩
      · obtain ⟨r, p, q, l⟩ := ih (i + 1) acc (by omega) (by omega) (by omega)
        exact ⟨r, ite_t (dec_t (by omega)) (bind_of (at_get h) (ite_f (dec_f c) (by rw [w]; exact p))), ite_t (dec_t (by omega)) (bind_of (at_get h) (ite_f (dec_f c) (by rw [w]; exact q))), l⟩
    · exact ⟨acc, ite_f (dec_f (by omega)) rfl, ite_f (dec_f (by omega)) rfl, by omega⟩
theorem Within_eq {z : List api_Span} (hz : z.length < 1000000000) (hf : Fit z) (a b : Int) : ∃ r, f_coverage_Within z a b = some r ∧ f_kauditref40_Within z a b = some r ∧ r.length ≤ z.length := by
  unfold f_coverage_Within f_kauditref40_Within
  cases hp : prB 1 0 z with
  | false => exact ⟨[], bind_of (Proper_ok (by omega) hf) (ite_f hp rfl), bind_of (RProper_ok (by omega) hf) (ite_f hp rfl), by simp⟩
  | true =>
    obtain ⟨r, p, q, l⟩ := RWithin_loop hz a b ((((z.length : Int) : Int) - (0)).toNat + 1) 0 [] (by omega) (by omega) (by simp)
    exact ⟨r, bind_of (Proper_ok (by omega) hf) (ite_t hp p), bind_of (RProper_ok (by omega) hf) (ite_t hp q), l⟩
end Go.Proofs.YthmjklpmamfncaaDoor.Gx
