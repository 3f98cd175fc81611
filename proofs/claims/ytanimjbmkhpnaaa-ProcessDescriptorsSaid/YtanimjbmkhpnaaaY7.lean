/- Function 7, kaudit/kauditlaw09.ProcessDescriptors: what it answers as a plain function, and that the Go code comes to exactly that (where the plain function gives an answer). -/
import Derived.Test.YtanimjbmkhpnaaaYT
import Derived.Test.YtanimjbmkhpnaaaY9
import Derived.Test.YtanimjbmkhpnaaaY15
import Derived.Test.YtanimjbmkhpnaaaY17
import Derived.Test.YtanimjbmkhpnaaaY28
import Derived.Test.YtanimjbmkhpnaaaY29
set_option linter.unusedVariables false
set_option linter.unusedSimpArgs false
namespace Go.Proofs.Ytanimjbmkhpnaaa.Gx
open Go.Gx Go.RowKit
/-! ### kaudit/kauditlaw09.ProcessDescriptors: function 7 -/
def f_kauditlaw09_ProcessDescriptors_j1 (x273 : Int) (x274 : Int) (x278 : List api_Process) (x279 : List Bool) (x280 : Int) (y301 : Int × Int) (y305 : api_Table × Int) (rec_f_kauditlaw09_ProcessDescriptors_l1 : Int → Int → Int → List api_Process → List Bool → Int → Option (Bool)) : Option (Bool) := if (y305.2 == 0) = true then (ck (0 ≤ y301.1 ∧ y301.1 < 8) <| (at_ x279 y301.1).bind fun el329 => rec_f_kauditlaw09_ProcessDescriptors_l1 y301.2 y305.1.Next y305.1.NextSession y305.1.Processes (x279.set y301.1.toNat false) (IntKind.wrap .i64 (x280 + 1))) else (rec_f_kauditlaw09_ProcessDescriptors_l1 y301.2 x273 x274 x278 x279 (IntKind.wrap .i64 (x280 + 1)))
def f_kauditlaw09_ProcessDescriptors_j3 : Option (Bool) := (f_kauditlaw09_awake).bind fun y401 => some y401
def f_kauditlaw09_ProcessDescriptors_j2 (x273 : Int) (x274 : Int) (x278 : List api_Process) (x279 : List Bool) (x280 : Int) (y296 : Int × Int) (rec_f_kauditlaw09_ProcessDescriptors_l1 : Int → Int → Int → List api_Process → List Bool → Int → Option (Bool)) (x365 : Int) : Option (Bool) := (f_process_OpenFile (⟨x273, x274, x278⟩ : api_Table) 1 (⟨0, 1⟩ : api_File) 1).bind fun y370 => if (x365 == 8) = true then (if (y370.2.2 != 24) = true then (some false) else (rec_f_kauditlaw09_ProcessDescriptors_l1 y296.2 x273 x274 x278 x279 (IntKind.wrap .i64 (x280 + 1)))) else (if (y370.2.2 != 0) = true then (some false) else (if (y370.2.1 != x365) = true then (some false) else (ck (0 ≤ x365 ∧ x365 < 8) <| (at_ x279 x365).bind fun el396 => rec_f_kauditlaw09_ProcessDescriptors_l1 y296.2 y370.1.Next y370.1.NextSession y370.1.Processes (x279.set x365.toNat true) (IntKind.wrap .i64 (x280 + 1)))))
def f_kauditlaw09_ProcessDescriptors_l2 (x273 : Int) (x274 : Int) (x278 : List api_Process) (x279 : List Bool) (x280 : Int) (y296 : Int × Int) (rec_f_kauditlaw09_ProcessDescriptors_l1 : Int → Int → Int → List api_Process → List Bool → Int → Option (Bool)) : Nat → Int → Option (Bool)
  | 0, _ => none
  | k355 + 1, x352 => if (decide (x352 < 8)) = true then (ck (0 ≤ x352 ∧ x352 < 8) <| (at_ x279 x352).bind fun el363 => if el363 = true then (f_kauditlaw09_ProcessDescriptors_l2 x273 x274 x278 x279 x280 y296 rec_f_kauditlaw09_ProcessDescriptors_l1 k355 (IntKind.wrap .i64 (x352 + 1))) else (f_kauditlaw09_ProcessDescriptors_j2 x273 x274 x278 x279 x280 y296 rec_f_kauditlaw09_ProcessDescriptors_l1 x352)) else (f_kauditlaw09_ProcessDescriptors_j2 x273 x274 x278 x279 x280 y296 rec_f_kauditlaw09_ProcessDescriptors_l1 x352)
def f_kauditlaw09_ProcessDescriptors_l1 (z0 : (List Int)) : Nat → Int → Int → Int → List api_Process → List Bool → Int → Option (Bool)
  | 0, _, _, _, _, _, _ => none
  | k283 + 1, x272, x273, x274, x278, x279, x280 => if (decide (x280 < 24)) = true then ((f_kauditmake_Src_N (⟨z0, x272⟩ : kauditmake_Src) 3).bind fun y296 => if (y296.1 == 0) = true then ((f_kauditmake_Src_N (⟨z0, y296.2⟩ : kauditmake_Src) 8).bind fun y301 => (f_process_CloseFile (⟨x273, x274, x278⟩ : api_Table) 1 y301.1).bind fun y305 => ck (0 ≤ y301.1 ∧ y301.1 < 8) <| (at_ x279 y301.1).bind fun el313 => if ((y305.2 == 0) != el313) = true then (some false) else (if (y305.2 != 0) = true then (if (y305.2 != 9) = true then (some false) else (f_kauditlaw09_ProcessDescriptors_j1 x273 x274 x278 x279 x280 y301 y305 (f_kauditlaw09_ProcessDescriptors_l1 z0 k283))) else (f_kauditlaw09_ProcessDescriptors_j1 x273 x274 x278 x279 x280 y301 y305 (f_kauditlaw09_ProcessDescriptors_l1 z0 k283)))) else (f_kauditlaw09_ProcessDescriptors_l2 x273 x274 x278 x279 x280 y296 (f_kauditlaw09_ProcessDescriptors_l1 z0 k283) (((8 : Int) - (0)).toNat + 1) 0)) else (f_kauditlaw09_ProcessDescriptors_j3)
def f_kauditlaw09_ProcessDescriptors (z0 : (List Int)) : Option (Bool) := (f_process_New (⟨0, 1⟩ : api_File)).bind fun y19 => f_kauditlaw09_ProcessDescriptors_l1 z0 (((24 : Int) - (0)).toNat + 1) 0 y19.Next y19.NextSession y19.Processes (List.replicate 8 false) 0
set_option maxHeartbeats 4000000 in
set_option maxRecDepth 100000 in
theorem C7 (z0 : (List Int)) (p1 : Option Addr) (m2 : Nat) (c3 : Nat) (r : Bool) (h : f_kauditlaw09_ProcessDescriptors z0 = some r) : FunG Try.prog 7 #[.slice p1 m2 c3] [vw (kSlice 3 (kInt .i64)) z0 [.slice p1 m2 c3]] [] (fun (_ : Unit) => .bool r) (fun _ => []) (fun _ => []) := by
  unfold f_kauditlaw09_ProcessDescriptors at h
  refine t_begin (args := [.slice p1 m2 c3]) Try.func7 rfl Try.ntmps7 rfl fun c R hR => ?_
  have hQ : ∀ X, X = r → ∀ w2 (_ : Unit), PostG c.w0 w2 c.M c.Y [] [] → R (.returned (.bool X)) w2 := fun X e => by subst e; exact hR
  refine t_seq fun K4 hK5 => ?_
  refine t_region ?_
  refine c_p (r_as rfl) rfl ?_
  refine t_nil ?_
  refine t_then hK5 ?_
  refine t_seq fun K6 hK7 => ?_
  refine t_region ?_
  refine c_p (r_mv rfl) rfl ?_
  refine nx (t_in (args := [.slice p1 m2 c3]) (cap := []) (all := [.slice p1 m2 c3]) rfl rfl Try.func8 nm8 rfl rfl rfl Try.ntmps8 rfl fun R8 k9 hk10 hR11 => ?_)
  refine t_seq fun K12 hK13 => ?_
  refine t_region ?_
  refine c_p (r_as rfl) rfl ?_
  refine t_nil ?_
  refine t_then hK13 ?_
  refine t_seq fun K14 hK15 => ?_
  refine t_region ?_
  refine c_p (r_mv rfl) rfl ?_
  refine c_p (r_bu (ps := [(0, .slice p1 m2 c3)]) (cs := [.slice p1 m2 c3, .int .i64 0]) rfl (by kernel_rfl)) rfl ?_
  refine nx (t_bx (cs := [.slice p1 m2 c3, .int .i64 0]) rfl rfl rfl fun g16 => ?_)
  refine c_p (r_as rfl) rfl ?_
  refine t_nil ?_
  refine t_then hK15 ?_
  refine t_ret ?_
  refine ret1 rfl (v_t rfl) (t_bk hR11 ?_)
  refine ti hk10 ?_
  refine c_p (r_as rfl) rfl ?_
  refine t_nil ?_
  refine t_then hK7 ?_
  refine t_seq fun K17 hK18 => ?_
  refine t_region ?_
  refine c_p (r_bu (ps := [(1, .int .i64 1)]) (cs := [.int .i64 0, .int .i64 1]) rfl (by kernel_rfl)) rfl ?_
  obtain ⟨y19, hy19, h⟩ := bs h
  refine nx (t_ca (C9 _ _ hy19) Try.func9 nm9 rfl rfl rfl .nil (fun w Z hA => V0) rfl fun t20 => ?_)
  refine nx (t_al (cs := [.int .i64 0, .int .i64 0, .slice none 0 0]) ti28 rfl rfl fun g21 => ?_)
  refine nx (t_st u0 ti28 rfl rfl rfl rfl rfl (.t (.s (.s (.s .z)))) ?_)
  refine t_nil ?_
  refine t_then hK18 ?_
  refine t_seq fun K22 hK23 => ?_
  refine t_region ?_
  refine nx (t_al (cs := ((List.replicate 8 false).map Value.bool)) ti56 rfl rfl fun g24 => ?_)
  refine t_nil ?_
  refine t_then hK23 ?_
  refine t_seq fun K25 hK26 => ?_
  have J397 : f_kauditlaw09_ProcessDescriptors_j3 = some r → T 83 c [] [] [] K25 := by
    intro h398
    unfold f_kauditlaw09_ProcessDescriptors_j3 at h398
    refine ti hK26 ?_
    refine t_seq fun K399 hK400 => ?_
    refine t_region ?_
    obtain ⟨y401, hy401, h398⟩ := bs h398
    refine nx (t_ca (C15 _ hy401) Try.func15 nm15 rfl rfl rfl .nil (fun w Z hA => V0) rfl fun t402 => ?_)
    refine c_p (r_as rfl) rfl ?_
    refine t_nil ?_
    refine t_then hK400 ?_
    refine t_ret ?_
    exact ret1 rfl (v_t rfl) (t_leave (hQ _ (Option.some.inj h398)) () rfl (fun w Z hA => V0) .nil)
  refine t_seq fun K27 hK28 => ?_
  refine t_region ?_
  refine c_p (r_as rfl) rfl ?_
  refine t_nil ?_
  refine t_then hK28 ?_
  refine t_block ?_
  refine t_lp fun k270 hk271 => ?_
  have LP281 : ∀ (k283 : Nat) (x272 : Int) (x273 : Int) (x274 : Int) (p275 : Option Addr) (m276 : Nat) (c277 : Nat) (x278 : List api_Process) (x279 : List Bool) (x280 : Int), f_kauditlaw09_ProcessDescriptors_l1 z0 k283 x272 x273 x274 x278 x279 x280 = some r → T 83 c [vw (kSlice 3 (kInt .i64)) z0 [.slice p1 m2 c3]] [[blk g16 [.slice p1 m2 c3, .int .i64 x272] 59], [row 38 k_api_Process x278 (.slice p275 m276 c277)], [blk g21 [.int .i64 x273, .int .i64 x274, .slice p275 m276 c277] 28], [blk g24 (x279.map Value.bool) 56]] [(3, .pointer (some ⟨g16, 0, none⟩)), (4, .pointer (some ⟨g21, 0, none⟩)), (5, .pointer (some ⟨g24, 0, none⟩)), (6, .int .i64 x280)] k270 := by
    intro k283
    induction k283 with
    | zero => intro x272 x273 x274 p275 m276 c277 x278 x279 x280 h282; rewrite [f_kauditlaw09_ProcessDescriptors_l1] at h282; cases h282
    | succ k283 ih284 =>
      intro x272 x273 x274 p275 m276 c277 x278 x279 x280 h282
      rewrite [f_kauditlaw09_ProcessDescriptors_l1] at h282
      refine ti hk271 ?_
      refine t_seq fun K285 hK286 => ?_
      refine t_seq fun K287 hK288 => ?_
      refine t_region ?_
      refine c_p (r_mv rfl) rfl ?_
      refine c_p (r_i rfl rfl rfl) rfl ?_
      refine t_nil ?_
      refine t_then hK288 ?_
      rcases Bool.eq_false_or_eq_true (decide (x280 < 24)) with hb289 | hb289
      · replace h282 := itT hb289 h282
        refine t_T rfl hb289 ?_
        refine t_skip ?_
        refine t_then hK286 ?_
        refine t_seq fun K290 hK291 => ?_
        refine t_block ?_
        refine t_seq fun K292 hK293 => ?_
        refine t_seq fun K294 hK295 => ?_
        refine t_region ?_
        refine c_p (r_mv rfl) rfl ?_
        obtain ⟨y296, hy296, h282⟩ := bs h282
        refine nx (t_ca (C17 _ _ _ _ _ _ _ hy296) Try.func17 nm17 rfl rfl rfl (.cons e0 .nil) (fun w Z hA => (V1 a0 hA V0)) rfl fun t297 => ?_)
        refine c_p (r_i rfl rfl rfl) rfl ?_
        refine t_nil ?_
        refine t_then hK295 ?_
        rcases Bool.eq_false_or_eq_true (y296.1 == 0) with hb298 | hb298
        · replace h282 := itT hb298 h282
          refine t_T rfl hb298 ?_
          refine t_seq fun K299 hK300 => ?_
          refine t_region ?_
          refine c_p (r_mv rfl) rfl ?_
          obtain ⟨y301, hy301, h282⟩ := bs h282
          refine nx (t_ca (C17 _ _ _ _ _ _ _ hy301) Try.func17 nm17 rfl rfl rfl (.cons e0 .nil) (fun w Z hA => (V1 a0 hA V0)) rfl fun t302 => ?_)
          refine c_p (r_as rfl) rfl ?_
          refine t_nil ?_
          refine t_then hK300 ?_
          refine t_seq fun K303 hK304 => ?_
          refine t_region ?_
          refine c_s (r_ldA a2 Try.underlying28 rfl ti28 rfl rfl) rfl ?_
          refine c_p (r_mv rfl) rfl ?_
          obtain ⟨y305, hy305, h282⟩ := bs h282
          refine nx (t_cf (C28 _ _ _ _ _ _ _ hy305) (fun _ => (flat_cons (indK_slice 38 k_api_Process_indK) flat_nil)) Try.func28 nm28 rfl rfl rfl .nil (fun w Z S hA hL => (FL a1 hL F0)) rfl fun t306 => ?_)
          refine c_p (r_mv rfl) rfl ?_
          refine c_p (r_ex rfl rfl) rfl ?_
          refine c_p (r_ex rfl rfl) rfl ?_
          refine nx (t_al (cs := [.int .i64 0, .int .i64 0, .slice none 0 0]) ti28 rfl rfl fun g307 => ?_)
          refine nx (t_st u0 ti28 rfl rfl rfl rfl rfl (.t (.s (.s (.s .z)))) ?_)
          refine c_p (r_as rfl) rfl ?_
          refine t_nil ?_
          refine t_then hK304 ?_
          refine t_seq fun K308 hK309 => ?_
          have J321 : f_kauditlaw09_ProcessDescriptors_j1 x273 x274 x278 x279 x280 y301 y305 (f_kauditlaw09_ProcessDescriptors_l1 z0 k283) = some r → T 83 c [vw (kSlice 3 (kInt .i64)) z0 [.slice p1 m2 c3]] [[blk g16 [.slice p1 m2 c3, .int .i64 y301.2] 59], [row 38 k_api_Process x278 (.slice p275 m276 c277)], [blk g21 [.int .i64 x273, .int .i64 x274, .slice p275 m276 c277] 28], [blk g24 (x279.map Value.bool) 56], [row 38 k_api_Process y305.1.Processes (.slice t306.1 t306.2.1 t306.2.2)], [blk g307 [.int .i64 y305.1.Next, .int .i64 y305.1.NextSession, .slice t306.1 t306.2.1 t306.2.2] 28]] [(3, .pointer (some ⟨g16, 0, none⟩)), (4, .pointer (some ⟨g21, 0, none⟩)), (5, .pointer (some ⟨g24, 0, none⟩)), (6, .int .i64 x280), (7, .int .i64 y301.1), (8, .pointer (some ⟨g307, 0, none⟩)), (9, .int .i64 y305.2), (40, .int .i64 y305.2), (41, .bool (y305.2 != 0)), (42, .bool (y305.2 != 0)), (45, .bool false)] K308 := by
            intro h322
            unfold f_kauditlaw09_ProcessDescriptors_j1 at h322
            refine ti hK309 ?_
            refine t_seq fun K323 hK324 => ?_
            refine t_seq fun K325 hK326 => ?_
            refine t_region ?_
            refine c_p (r_mv rfl) rfl ?_
            refine c_p (r_i rfl rfl rfl) rfl ?_
            refine t_nil ?_
            refine t_then hK326 ?_
            rcases Bool.eq_false_or_eq_true (y305.2 == 0) with hb327 | hb327
            · replace h322 := itT hb327 h322
              refine t_T rfl hb327 ?_
              refine t_region ?_
              refine c_p (r_mv rfl) rfl ?_
              refine c_s (r_ldA a5 Try.underlying28 rfl ti28 rfl rfl) rfl ?_
              refine nx (t_st u2 ti28 rfl rfl rfl rfl rfl (.t (.s (.s (.s .z)))) ?_)
              obtain ⟨hc328, h322⟩ := ck_out h322
              refine c_p (r_ixA Try.underlying56 ti4 rfl rfl hc328) rfl ?_
              obtain ⟨el329, hel329, h322⟩ := bs h322
              refine nx (t_sx (f := Value.bool) (u' := false) u3 ti4 rfl rfl rfl rfl hel329 ?_)
              refine t_nil ?_
              refine t_then hK324 ?_
              refine t_exit ?_
              refine te (bx ?_)
              refine t_then hK291 ?_
              refine t_region ?_
              refine c_p (r_mv rfl) rfl ?_
              refine c_p (r_i rfl rfl rfl) rfl ?_
              refine c_p (r_as rfl) rfl ?_
              refine t_nil ?_
              exact t_norm (t_go (ih284 y301.2 y305.1.Next y305.1.NextSession t306.1 t306.2.1 t306.2.2 y305.1.Processes (x279.set y301.1.toNat false) (IntKind.wrap .i64 (x280 + 1)) h322) ⟨rfl, rfl, rfl, rfl, trivial⟩ (.cons e0 (.cons e3 (.cons e1 (.cons e1 .nil)))) (fun w Z hA => V1 a0 hA (V0)))
            · replace h322 := itF hb327 h322
              refine t_F rfl hb327 ?_
              refine t_skip ?_
              refine t_then hK324 ?_
              refine t_exit ?_
              refine te (bx ?_)
              refine t_then hK291 ?_
              refine t_region ?_
              refine c_p (r_mv rfl) rfl ?_
              refine c_p (r_i rfl rfl rfl) rfl ?_
              refine c_p (r_as rfl) rfl ?_
              refine t_nil ?_
              exact t_norm (t_go (ih284 y301.2 x273 x274 p275 m276 c277 x278 x279 (IntKind.wrap .i64 (x280 + 1)) h322) ⟨rfl, rfl, rfl, rfl, trivial⟩ (.cons e0 (.cons e0 (.cons e0 (.cons e0 .nil)))) (fun w Z hA => V1 a0 hA (V0)))
          refine t_seq fun K310 hK311 => ?_
          refine t_region ?_
          refine c_p (r_mv rfl) rfl ?_
          refine c_p (r_i rfl rfl rfl) rfl ?_
          refine c_p (r_mv rfl) rfl ?_
          obtain ⟨hc312, h282⟩ := ck_out h282
          refine c_p (r_ixA Try.underlying56 ti4 rfl rfl hc312) rfl ?_
          obtain ⟨el313, hel313, h282⟩ := bs h282
          refine c_s (r_ld a5 Try.underlying4 rfl rfl (at_map hel313)) rfl ?_
          refine c_p (r_bne Try.underlying4 rfl rfl) rfl ?_
          refine c_p (r_mv rfl) rfl ?_
          rcases Bool.eq_false_or_eq_true ((y305.2 == 0) != el313) with hb314 | hb314
          · replace h282 := itT hb314 h282
            refine nx (pass rfl rfl hb314 rfl ?_)
            refine nx (pass rfl rfl hb314 rfl ?_)
            refine nx (pass rfl rfl hb314 rfl ?_)
            refine nx (passU rfl rfl rfl ?_)
            refine nx (passU rfl rfl rfl ?_)
            refine nx (pass rfl rfl hb314 rfl ?_)
            refine c_p (r_pT rfl hb314 rfl) rfl ?_
            refine t_nil ?_
            refine t_then hK311 ?_
            refine t_T rfl rfl ?_
            refine t_seq fun K316 hK317 => ?_
            refine t_region ?_
            refine c_p (r_as rfl) rfl ?_
            refine t_nil ?_
            refine t_then hK317 ?_
            refine t_ret ?_
            exact tr (tr (br (tr (tr (br (tr (ret1 rfl (v_t rfl) (t_leave (hQ _ (Option.some.inj h282)) () rfl (fun w Z hA => V0) .nil))))))))
          · replace h282 := itF hb314 h282
            refine nx (gd rfl rfl hb314 (sp (r_mv rfl) rfl ?_))
            refine nx (gd rfl rfl hb314 (sp (r_i rfl rfl rfl) rfl ?_))
            refine nx (gd rfl rfl hb314 (sp (r_mv rfl) rfl ?_))
            rcases Bool.eq_false_or_eq_true (y305.2 != 0) with hb315 | hb315
            · replace h282 := itT hb315 h282
              refine nx (gd rfl rfl hb315 (sp (r_mv rfl) rfl ?_))
              refine nx (gd rfl rfl hb315 (sp (r_i rfl rfl rfl) rfl ?_))
              refine nx (gd rfl rfl hb314 (sp (r_pT rfl hb315 rfl) rfl ?_))
              refine c_p (r_pF rfl hb314 rfl) rfl ?_
              refine t_nil ?_
              refine t_then hK311 ?_
              rcases Bool.eq_false_or_eq_true (y305.2 != 9) with hb318 | hb318
              · replace h282 := itT hb318 h282
                refine t_T rfl hb318 ?_
                refine t_seq fun K319 hK320 => ?_
                refine t_region ?_
                refine c_p (r_as rfl) rfl ?_
                refine t_nil ?_
                refine t_then hK320 ?_
                refine t_ret ?_
                exact tr (tr (br (tr (tr (br (tr (ret1 rfl (v_t rfl) (t_leave (hQ _ (Option.some.inj h282)) () rfl (fun w Z hA => V0) .nil))))))))
              · replace h282 := itF hb318 h282
                refine t_F rfl hb318 ?_
                refine t_skip ?_
                refine t_set (i := 45) (u := .bool false) rfl (congrArg Value.bool hb318) ?_
                exact t_norm (t_go (J321 h282) ⟨rfl, rfl, rfl, rfl, rfl, rfl, rfl, rfl, rfl, rfl, rfl, trivial⟩ (.cons e2 (.cons e2 (.cons e2 (.cons e2 (.cons e1 (.cons e0 .nil)))))) (fun w Z hA => V1 a0 hA (V0)))
            · replace h282 := itF hb315 h282
              refine nx (pass rfl rfl hb315 rfl ?_)
              refine nx (pass rfl rfl hb315 rfl ?_)
              refine nx (gd rfl rfl hb314 (sp (r_pF rfl hb315 rfl) rfl ?_))
              refine c_p (r_pF rfl hb314 rfl) rfl ?_
              refine t_nil ?_
              refine t_then hK311 ?_
              refine t_F rfl rfl ?_
              refine t_skip ?_
              exact t_norm (t_go (J321 h282) ⟨rfl, rfl, rfl, rfl, rfl, rfl, rfl, rfl, rfl, rfl, rfl, trivial⟩ (.cons e2 (.cons e2 (.cons e2 (.cons e2 (.cons e1 (.cons e0 .nil)))))) (fun w Z hA => V1 a0 hA (V0)))
        · replace h282 := itF hb298 h282
          refine t_F rfl hb298 ?_
          refine t_skip ?_
          refine t_then hK293 ?_
          refine t_seq fun K330 hK331 => ?_
          refine t_region ?_
          refine c_p (r_as rfl) rfl ?_
          refine t_nil ?_
          refine t_then hK331 ?_
          refine t_seq fun K332 hK333 => ?_
          have J366 : ∀ (x365 : Int), f_kauditlaw09_ProcessDescriptors_j2 x273 x274 x278 x279 x280 y296 (f_kauditlaw09_ProcessDescriptors_l1 z0 k283) x365 = some r → T 83 c [vw (kSlice 3 (kInt .i64)) z0 [.slice p1 m2 c3]] [[blk g16 [.slice p1 m2 c3, .int .i64 y296.2] 59], [row 38 k_api_Process x278 (.slice p275 m276 c277)], [blk g21 [.int .i64 x273, .int .i64 x274, .slice p275 m276 c277] 28], [blk g24 (x279.map Value.bool) 56]] [(3, .pointer (some ⟨g16, 0, none⟩)), (4, .pointer (some ⟨g21, 0, none⟩)), (5, .pointer (some ⟨g24, 0, none⟩)), (6, .int .i64 x280), (10, .int .i64 x365)] K332 := by
            intro x365 h367
            unfold f_kauditlaw09_ProcessDescriptors_j2 at h367
            refine ti hK333 ?_
            refine t_seq fun K368 hK369 => ?_
            refine t_region ?_
            refine c_s (r_ldA a2 Try.underlying28 rfl ti28 rfl rfl) rfl ?_
            refine c_p (r_bu (ps := [(1, .int .i64 1)]) (cs := [.int .i64 0, .int .i64 1]) rfl (by kernel_rfl)) rfl ?_
            obtain ⟨y370, hy370, h367⟩ := bs h367
            refine nx (t_cf (C29 _ _ _ _ _ _ _ _ hy370) (fun _ => (flat_cons (indK_slice 38 k_api_Process_indK) flat_nil)) Try.func29 nm29 rfl rfl rfl .nil (fun w Z S hA hL => (FL a1 hL F0)) rfl fun t371 => ?_)
            refine c_p (r_mv rfl) rfl ?_
            refine c_p (r_ex rfl rfl) rfl ?_
            refine c_p (r_ex rfl rfl) rfl ?_
            refine c_p (r_ex rfl rfl) rfl ?_
            refine nx (t_al (cs := [.int .i64 0, .int .i64 0, .slice none 0 0]) ti28 rfl rfl fun g372 => ?_)
            refine nx (t_st u0 ti28 rfl rfl rfl rfl rfl (.t (.s (.s (.s .z)))) ?_)
            refine c_p (r_as rfl) rfl ?_
            refine c_p (r_as rfl) rfl ?_
            refine t_nil ?_
            refine t_then hK369 ?_
            refine t_seq fun K373 hK374 => ?_
            refine t_seq fun K375 hK376 => ?_
            refine t_region ?_
            refine c_p (r_mv rfl) rfl ?_
            refine c_p (r_i rfl rfl rfl) rfl ?_
            refine t_nil ?_
            refine t_then hK376 ?_
            rcases Bool.eq_false_or_eq_true (x365 == 8) with hb377 | hb377
            · replace h367 := itT hb377 h367
              refine t_T rfl hb377 ?_
              refine t_seq fun K378 hK379 => ?_
              refine t_seq fun K380 hK381 => ?_
              refine t_region ?_
              refine c_p (r_mv rfl) rfl ?_
              refine c_p (r_i rfl rfl rfl) rfl ?_
              refine t_nil ?_
              refine t_then hK381 ?_
              rcases Bool.eq_false_or_eq_true (y370.2.2 != 24) with hb382 | hb382
              · replace h367 := itT hb382 h367
                refine t_T rfl hb382 ?_
                refine t_seq fun K383 hK384 => ?_
                refine t_region ?_
                refine c_p (r_as rfl) rfl ?_
                refine t_nil ?_
                refine t_then hK384 ?_
                refine t_ret ?_
                exact tr (tr (br (tr (tr (br (tr (ret1 rfl (v_t rfl) (t_leave (hQ _ (Option.some.inj h367)) () rfl (fun w Z hA => V0) .nil))))))))
              · replace h367 := itF hb382 h367
                refine t_F rfl hb382 ?_
                refine t_skip ?_
                refine t_then hK379 ?_
                refine t_exit ?_
                refine te (bx ?_)
                refine t_then hK291 ?_
                refine t_region ?_
                refine c_p (r_mv rfl) rfl ?_
                refine c_p (r_i rfl rfl rfl) rfl ?_
                refine c_p (r_as rfl) rfl ?_
                refine t_nil ?_
                exact t_norm (t_go (ih284 y296.2 x273 x274 p275 m276 c277 x278 x279 (IntKind.wrap .i64 (x280 + 1)) h367) ⟨rfl, rfl, rfl, rfl, trivial⟩ (.cons e2 (.cons e2 (.cons e2 (.cons e2 .nil)))) (fun w Z hA => V1 a0 hA (V0)))
            · replace h367 := itF hb377 h367
              refine t_F rfl hb377 ?_
              refine t_skip ?_
              refine t_then hK374 ?_
              refine t_seq fun K385 hK386 => ?_
              refine t_seq fun K387 hK388 => ?_
              refine t_region ?_
              refine c_p (r_mv rfl) rfl ?_
              refine c_p (r_i rfl rfl rfl) rfl ?_
              refine c_p (r_mv rfl) rfl ?_
              rcases Bool.eq_false_or_eq_true (y370.2.2 != 0) with hb389 | hb389
              · replace h367 := itT hb389 h367
                refine nx (pass rfl rfl hb389 rfl ?_)
                refine nx (pass rfl rfl hb389 rfl ?_)
                refine nx (pass rfl rfl hb389 rfl ?_)
                refine c_p (r_pT rfl hb389 rfl) rfl ?_
                refine t_nil ?_
                refine t_then hK388 ?_
                refine t_T rfl rfl ?_
                refine t_seq fun K390 hK391 => ?_
                refine t_region ?_
                refine c_p (r_as rfl) rfl ?_
                refine t_nil ?_
                refine t_then hK391 ?_
                refine t_ret ?_
                exact tr (br (tr (tr (br (tr (ret1 rfl (v_t rfl) (t_leave (hQ _ (Option.some.inj h367)) () rfl (fun w Z hA => V0) .nil)))))))
              · replace h367 := itF hb389 h367
                refine nx (gd rfl rfl hb389 (sp (r_mv rfl) rfl ?_))
                refine nx (gd rfl rfl hb389 (sp (r_mv rfl) rfl ?_))
                refine nx (gd rfl rfl hb389 (sp (r_i rfl rfl rfl) rfl ?_))
                refine c_p (r_pF rfl hb389 rfl) rfl ?_
                refine t_nil ?_
                refine t_then hK388 ?_
                rcases Bool.eq_false_or_eq_true (y370.2.1 != x365) with hb392 | hb392
                · replace h367 := itT hb392 h367
                  refine t_T rfl hb392 ?_
                  refine t_seq fun K393 hK394 => ?_
                  refine t_region ?_
                  refine c_p (r_as rfl) rfl ?_
                  refine t_nil ?_
                  refine t_then hK394 ?_
                  refine t_ret ?_
                  exact tr (br (tr (tr (br (tr (ret1 rfl (v_t rfl) (t_leave (hQ _ (Option.some.inj h367)) () rfl (fun w Z hA => V0) .nil)))))))
                · replace h367 := itF hb392 h367
                  refine t_F rfl hb392 ?_
                  refine t_skip ?_
                  refine t_then hK386 ?_
                  refine t_region ?_
                  refine c_p (r_mv rfl) rfl ?_
                  refine c_s (r_ldA a0 Try.underlying28 rfl ti28 rfl rfl) rfl ?_
                  refine nx (t_st u4 ti28 rfl rfl rfl rfl rfl (.t (.s (.s (.s .z)))) ?_)
                  obtain ⟨hc395, h367⟩ := ck_out h367
                  refine c_p (r_ixA Try.underlying56 ti4 rfl rfl hc395) rfl ?_
                  obtain ⟨el396, hel396, h367⟩ := bs h367
                  refine nx (t_sx (f := Value.bool) (u' := true) u5 ti4 rfl rfl rfl rfl hel396 ?_)
                  refine t_nil ?_
                  refine t_blockN ?_
                  refine t_then hK291 ?_
                  refine t_region ?_
                  refine c_p (r_mv rfl) rfl ?_
                  refine c_p (r_i rfl rfl rfl) rfl ?_
                  refine c_p (r_as rfl) rfl ?_
                  refine t_nil ?_
                  exact t_norm (t_go (ih284 y296.2 y370.1.Next y370.1.NextSession t371.1 t371.2.1 t371.2.2 y370.1.Processes (x279.set x365.toNat true) (IntKind.wrap .i64 (x280 + 1)) h367) ⟨rfl, rfl, rfl, rfl, trivial⟩ (.cons e2 (.cons e1 (.cons e2 (.cons e2 .nil)))) (fun w Z hA => V1 a0 hA (V0)))
          refine t_block ?_
          refine t_lp fun k350 hk351 => ?_
          have LP353 : ∀ (k355 : Nat) (x352 : Int), f_kauditlaw09_ProcessDescriptors_l2 x273 x274 x278 x279 x280 y296 (f_kauditlaw09_ProcessDescriptors_l1 z0 k283) k355 x352 = some r → T 83 c [vw (kSlice 3 (kInt .i64)) z0 [.slice p1 m2 c3]] [[blk g16 [.slice p1 m2 c3, .int .i64 y296.2] 59], [row 38 k_api_Process x278 (.slice p275 m276 c277)], [blk g21 [.int .i64 x273, .int .i64 x274, .slice p275 m276 c277] 28], [blk g24 (x279.map Value.bool) 56]] [(3, .pointer (some ⟨g16, 0, none⟩)), (4, .pointer (some ⟨g21, 0, none⟩)), (5, .pointer (some ⟨g24, 0, none⟩)), (6, .int .i64 x280), (10, .int .i64 x352)] k350 := by
            intro k355
            induction k355 with
            | zero => intro x352 h354; rewrite [f_kauditlaw09_ProcessDescriptors_l2] at h354; cases h354
            | succ k355 ih356 =>
              intro x352 h354
              rewrite [f_kauditlaw09_ProcessDescriptors_l2] at h354
              refine ti hk351 ?_
              refine t_seq fun K357 hK358 => ?_
              refine t_seq fun K359 hK360 => ?_
              refine t_region ?_
              refine c_p (r_mv rfl) rfl ?_
              refine c_p (r_i rfl rfl rfl) rfl ?_
              refine c_p (r_mv rfl) rfl ?_
              rcases Bool.eq_false_or_eq_true (decide (x352 < 8)) with hb361 | hb361
              · replace h354 := itT hb361 h354
                refine nx (gd rfl rfl hb361 (sp (r_mv rfl) rfl ?_))
                obtain ⟨hc362, h354⟩ := ck_out h354
                refine nx (gd rfl rfl hb361 (sp (r_ixA Try.underlying56 ti4 rfl rfl hc362) rfl ?_))
                obtain ⟨el363, hel363, h354⟩ := bs h354
                refine nx (gd rfl rfl hb361 (ss (r_ld a3 Try.underlying4 rfl rfl (at_map hel363)) rfl ?_))
                refine c_p (r_pT rfl hb361 rfl) rfl ?_
                refine t_nil ?_
                refine t_then hK360 ?_
                rcases Bool.eq_false_or_eq_true el363 with hb364 | hb364
                · replace h354 := itT hb364 h354
                  refine t_T rfl hb364 ?_
                  refine t_skip ?_
                  refine t_then hK358 ?_
                  refine t_block ?_
                  refine t_region ?_
                  refine c_p (r_mv rfl) rfl ?_
                  refine c_p (r_i rfl rfl rfl) rfl ?_
                  refine c_p (r_as rfl) rfl ?_
                  refine t_nil ?_
                  refine t_blockN ?_
                  exact t_norm (t_go (ih356 (IntKind.wrap .i64 (x352 + 1)) h354) ⟨rfl, rfl, rfl, rfl, rfl, trivial⟩ (.cons e0 (.cons e0 (.cons e0 (.cons e0 .nil)))) (fun w Z hA => V1 a0 hA (V0)))
                · replace h354 := itF hb364 h354
                  refine t_F rfl hb364 ?_
                  refine t_exit ?_
                  refine te (te (bx ?_))
                  exact t_norm (t_go (J366 x352 h354) ⟨rfl, rfl, rfl, rfl, rfl, trivial⟩ (.cons e0 (.cons e0 (.cons e0 (.cons e0 .nil)))) (fun w Z hA => V1 a0 hA (V0)))
              · replace h354 := itF hb361 h354
                refine nx (pass rfl rfl hb361 rfl ?_)
                refine nx (pass rfl rfl hb361 rfl ?_)
                refine nx (pass rfl rfl hb361 rfl ?_)
                refine c_p (r_pF rfl hb361 rfl) rfl ?_
                refine t_nil ?_
                refine t_then hK360 ?_
                refine t_F rfl rfl ?_
                refine t_exit ?_
                refine te (te (bx ?_))
                exact t_norm (t_go (J366 x352 h354) ⟨rfl, rfl, rfl, rfl, rfl, trivial⟩ (.cons e0 (.cons e0 (.cons e0 (.cons e0 .nil)))) (fun w Z hA => V1 a0 hA (V0)))
          exact t_go (LP353 (((8 : Int) - (0)).toNat + 1) 0 h282) ⟨rfl, rfl, rfl, rfl, rfl, trivial⟩ (.cons e0 (.cons e0 (.cons e0 (.cons e0 .nil)))) (fun w Z hA => V1 a0 hA (V0))
      · replace h282 := itF hb289 h282
        refine t_F rfl hb289 ?_
        refine t_exit ?_
        refine te (te (bx ?_))
        exact t_norm (t_go (J397 h282) trivial .nil (fun w Z hA => V0))
  exact t_go (LP281 (((24 : Int) - (0)).toNat + 1) 0 y19.Next y19.NextSession t20.1 t20.2.1 t20.2.2 y19.Processes (List.replicate 8 false) 0 h) ⟨rfl, rfl, rfl, rfl, trivial⟩ (.cons e3 (.cons e2 (.cons e1 (.cons e0 .nil)))) (fun w Z hA => V1 a0 hA (V0))
end Go.Proofs.Ytanimjbmkhpnaaa.Gx
