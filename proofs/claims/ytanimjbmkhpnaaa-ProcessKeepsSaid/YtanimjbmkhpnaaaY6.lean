/- Function 6, kaudit/kauditlaw09.ProcessKeeps: what it answers as a plain function, and that the Go code comes to exactly that (where the plain function gives an answer). -/
import Derived.Test.YtanimjbmkhpnaaaYT
import Derived.Test.YtanimjbmkhpnaaaY9
import Derived.Test.YtanimjbmkhpnaaaY10
import Derived.Test.YtanimjbmkhpnaaaY15
import Derived.Test.YtanimjbmkhpnaaaY16
import Derived.Test.YtanimjbmkhpnaaaY17
import Derived.Test.YtanimjbmkhpnaaaY24
import Derived.Test.YtanimjbmkhpnaaaY25
import Derived.Test.YtanimjbmkhpnaaaY26
import Derived.Test.YtanimjbmkhpnaaaY27
set_option linter.unusedVariables false
set_option linter.unusedSimpArgs false
namespace Go.Proofs.Ytanimjbmkhpnaaa.Gx
open Go.Gx Go.RowKit
/-! ### kaudit/kauditlaw09.ProcessKeeps: function 6 -/
def f_kauditlaw09_ProcessKeeps_j1 (x291 : Int) (x292 : Int) (x296 : List api_Process) (x297 : Int) (x299 : Int) (rec_f_kauditlaw09_ProcessKeeps_l1 : Int → Int → Int → List api_Process → Int → Int → Int → Option (Bool)) (x376 : Int) (x377 : Int) (x378 : Int) (x379 : Int) (x383 : List api_Process) (x384 : Int) (x385 : Int) : Option (Bool) := if (x385 != 0) = true then (rec_f_kauditlaw09_ProcessKeeps_l1 x376 x291 x292 x296 x297 x377 (IntKind.wrap .i64 (x299 + 1))) else (if (x384 != 0) = true then (if (decide (x384 ≤ x297)) = true then (some false) else ((f_kauditref09_Valid (⟨x378, x379, x383⟩ : api_Table)).bind fun y399 => if y399 = true then (rec_f_kauditlaw09_ProcessKeeps_l1 x376 x378 x379 x383 (max x297 x384) x377 (IntKind.wrap .i64 (x299 + 1))) else (some false))) else ((f_kauditref09_Valid (⟨x378, x379, x383⟩ : api_Table)).bind fun y401 => if y401 = true then (rec_f_kauditlaw09_ProcessKeeps_l1 x376 x378 x379 x383 (max x297 x384) x377 (IntKind.wrap .i64 (x299 + 1))) else (some false)))
def f_kauditlaw09_ProcessKeeps_j2 : Option (Bool) := (f_kauditlaw09_awake).bind fun y419 => some y419
def f_kauditlaw09_ProcessKeeps_l1 (z0 : (List Int)) : Nat → Int → Int → Int → List api_Process → Int → Int → Int → Option (Bool)
  | 0, _, _, _, _, _, _, _ => none
  | k302 + 1, x290, x291, x292, x296, x297, x298, x299 => if (decide (x299 < 20)) = true then ((f_kauditmake_Src_PID (⟨z0, x290⟩ : kauditmake_Src) (⟨x291, x292, x296⟩ : api_Table)).bind fun y313 => (f_process_Fork (⟨x291, x292, x296⟩ : api_Table) y313.1).bind fun y317 => (f_kauditmake_Src_N (⟨z0, y313.2⟩ : kauditmake_Src) 3).bind fun y324 => if (y324.1 == 0) = true then ((f_process_Exit (⟨x291, x292, x296⟩ : api_Table) y313.1).bind fun y329 => f_kauditlaw09_ProcessKeeps_j1 x291 x292 x296 x297 x299 (f_kauditlaw09_ProcessKeeps_l1 z0 k302) y324.2 x298 y329.1.Next y329.1.NextSession y329.1.Processes 0 y329.2) else ((f_kauditmake_Src_N (⟨z0, y324.2⟩ : kauditmake_Src) 3).bind fun y333 => if (y333.1 == 0) = true then ((f_kauditmake_Src_N (⟨z0, y333.2⟩ : kauditmake_Src) 9).bind fun y338 => (f_process_Login (⟨x291, x292, x296⟩ : api_Table) y313.1 y338.1).bind fun y340 => (f_kauditref09_Get y340.1 y313.1).bind fun y346 => if (y340.2 == 0) = true then (if y346.2 = true then (if (decide (y346.1.Session ≤ x298)) = true then (some false) else (f_kauditlaw09_ProcessKeeps_j1 x291 x292 x296 x297 x299 (f_kauditlaw09_ProcessKeeps_l1 z0 k302) y338.2 y346.1.Session y340.1.Next y340.1.NextSession y340.1.Processes 0 y340.2)) else (f_kauditlaw09_ProcessKeeps_j1 x291 x292 x296 x297 x299 (f_kauditlaw09_ProcessKeeps_l1 z0 k302) y338.2 x298 y340.1.Next y340.1.NextSession y340.1.Processes 0 y340.2)) else (f_kauditlaw09_ProcessKeeps_j1 x291 x292 x296 x297 x299 (f_kauditlaw09_ProcessKeeps_l1 z0 k302) y338.2 x298 y340.1.Next y340.1.NextSession y340.1.Processes 0 y340.2)) else (f_kauditlaw09_ProcessKeeps_j1 x291 x292 x296 x297 x299 (f_kauditlaw09_ProcessKeeps_l1 z0 k302) y333.2 x298 y317.1.Next y317.1.NextSession y317.1.Processes y317.2.1 y317.2.2))) else (f_kauditlaw09_ProcessKeeps_j2)
def f_kauditlaw09_ProcessKeeps (z0 : (List Int)) : Option (Bool) := (f_process_New (⟨0, 1⟩ : api_File)).bind fun y19 => f_kauditlaw09_ProcessKeeps_l1 z0 (((20 : Int) - (0)).toNat + 1) 0 y19.Next y19.NextSession y19.Processes 1 0 0
set_option maxHeartbeats 4000000 in
set_option maxRecDepth 100000 in
theorem C6 (z0 : (List Int)) (p1 : Option Addr) (m2 : Nat) (c3 : Nat) (r : Bool) (h : f_kauditlaw09_ProcessKeeps z0 = some r) : FunG Try.prog 6 #[.slice p1 m2 c3] [vw (kSlice 3 (kInt .i64)) z0 [.slice p1 m2 c3]] [] (fun (_ : Unit) => .bool r) (fun _ => []) (fun _ => []) := by
  unfold f_kauditlaw09_ProcessKeeps at h
  refine t_begin (args := [.slice p1 m2 c3]) Try.func6 rfl Try.ntmps6 rfl fun c R hR => ?_
  have hQ : ∀ X, X = r → ∀ w2 (_ : Unit), PostG c.w0 w2 c.M c.Y [] [] → R (.returned (.bool X)) w2 := fun X e => by subst e; exact hR
  refine t_seq fun K4 hK5 => ?_
  refine t_region ?_
  refine c_p (r_as rfl) rfl ?_
  refine t_nil ?_
  refine t_then hK5 ?_
  refine t_seq fun K6 hK7 => ?_
  refine t_region ?_
  refine c_p (r_mv rfl) rfl ?_
  refine nx (t_in (args := [.slice p1 m2 c3]) (cap := []) (all := [.slice p1 m2 c3]) rfl rfl Try.func8 nm8 rfl rfl rfl Try.ntmps8 rfl fun R8 k9 hk10 hR11 => ?_)
  refine t_seq fun K12 hK13 => ?_
  refine t_region ?_
  refine c_p (r_as rfl) rfl ?_
  refine t_nil ?_
  refine t_then hK13 ?_
  refine t_seq fun K14 hK15 => ?_
  refine t_region ?_
  refine c_p (r_mv rfl) rfl ?_
  refine c_p (r_bu (ps := [(0, .slice p1 m2 c3)]) (cs := [.slice p1 m2 c3, .int .i64 0]) rfl (by kernel_rfl)) rfl ?_
  refine nx (t_bx (cs := [.slice p1 m2 c3, .int .i64 0]) rfl rfl rfl fun g16 => ?_)
  refine c_p (r_as rfl) rfl ?_
  refine t_nil ?_
  refine t_then hK15 ?_
  refine t_ret ?_
  refine ret1 rfl (v_t rfl) (t_bk hR11 ?_)
  refine ti hk10 ?_
  refine c_p (r_as rfl) rfl ?_
  refine t_nil ?_
  refine t_then hK7 ?_
  refine t_seq fun K17 hK18 => ?_
  refine t_region ?_
  refine c_p (r_bu (ps := [(1, .int .i64 1)]) (cs := [.int .i64 0, .int .i64 1]) rfl (by kernel_rfl)) rfl ?_
  obtain ⟨y19, hy19, h⟩ := bs h
  refine nx (t_ca (C9 _ _ hy19) Try.func9 nm9 rfl rfl rfl .nil (fun w Z hA => V0) rfl fun t20 => ?_)
  refine nx (t_al (cs := [.int .i64 0, .int .i64 0, .slice none 0 0]) ti28 rfl rfl fun g21 => ?_)
  refine nx (t_st u0 ti28 rfl rfl rfl rfl rfl (.t (.s (.s (.s .z)))) ?_)
  refine t_nil ?_
  refine t_then hK18 ?_
  refine t_seq fun K22 hK23 => ?_
  refine t_region ?_
  refine c_p (r_as rfl) rfl ?_
  refine c_p (r_as rfl) rfl ?_
  refine t_nil ?_
  refine t_then hK23 ?_
  refine t_seq fun K24 hK25 => ?_
  have J415 : f_kauditlaw09_ProcessKeeps_j2 = some r → T 88 c [] [] [] K24 := by
    intro h416
    unfold f_kauditlaw09_ProcessKeeps_j2 at h416
    refine ti hK25 ?_
    refine t_seq fun K417 hK418 => ?_
    refine t_region ?_
    obtain ⟨y419, hy419, h416⟩ := bs h416
    refine nx (t_ca (C15 _ hy419) Try.func15 nm15 rfl rfl rfl .nil (fun w Z hA => V0) rfl fun t420 => ?_)
    refine c_p (r_as rfl) rfl ?_
    refine t_nil ?_
    refine t_then hK418 ?_
    refine t_ret ?_
    exact ret1 rfl (v_t rfl) (t_leave (hQ _ (Option.some.inj h416)) () rfl (fun w Z hA => V0) .nil)
  refine t_seq fun K26 hK27 => ?_
  refine t_region ?_
  refine c_p (r_as rfl) rfl ?_
  refine t_nil ?_
  refine t_then hK27 ?_
  refine t_block ?_
  refine t_sh e1 ?_
  refine t_lp fun k288 hk289 => ?_
  have LP300 : ∀ (k302 : Nat) (x290 : Int) (x291 : Int) (x292 : Int) (p293 : Option Addr) (m294 : Nat) (c295 : Nat) (x296 : List api_Process) (x297 : Int) (x298 : Int) (x299 : Int), f_kauditlaw09_ProcessKeeps_l1 z0 k302 x290 x291 x292 x296 x297 x298 x299 = some r → T 88 c [vw (kSlice 3 (kInt .i64)) z0 [.slice p1 m2 c3], vw (kSlice 38 k_api_Process) x296 [.slice p293 m294 c295]] [[blk g16 [.slice p1 m2 c3, .int .i64 x290] 59], [blk g21 [.int .i64 x291, .int .i64 x292, .slice p293 m294 c295] 28]] [(3, .pointer (some ⟨g16, 0, none⟩)), (4, .pointer (some ⟨g21, 0, none⟩)), (5, .int .i64 x297), (6, .int .i64 x298), (7, .int .i64 x299)] k288 := by
    intro k302
    induction k302 with
    | zero => intro x290 x291 x292 p293 m294 c295 x296 x297 x298 x299 h301; rewrite [f_kauditlaw09_ProcessKeeps_l1] at h301; cases h301
    | succ k302 ih303 =>
      intro x290 x291 x292 p293 m294 c295 x296 x297 x298 x299 h301
      rewrite [f_kauditlaw09_ProcessKeeps_l1] at h301
      refine ti hk289 ?_
      refine t_seq fun K304 hK305 => ?_
      refine t_seq fun K306 hK307 => ?_
      refine t_region ?_
      refine c_p (r_mv rfl) rfl ?_
      refine c_p (r_i rfl rfl rfl) rfl ?_
      refine t_nil ?_
      refine t_then hK307 ?_
      rcases Bool.eq_false_or_eq_true (decide (x299 < 20)) with hb308 | hb308
      · replace h301 := itT hb308 h301
        refine t_T rfl hb308 ?_
        refine t_skip ?_
        refine t_then hK305 ?_
        refine t_seq fun K309 hK310 => ?_
        refine t_block ?_
        refine t_seq fun K311 hK312 => ?_
        refine t_region ?_
        refine c_p (r_mv rfl) rfl ?_
        refine c_s (r_ldA a1 Try.underlying28 rfl ti28 rfl rfl) rfl ?_
        obtain ⟨y313, hy313, h301⟩ := bs h301
        refine nx (t_ca (C24 _ _ _ _ _ _ _ _ _ _ hy313) Try.func24 nm24 rfl rfl rfl (.cons e0 .nil) (fun w Z hA => (V1 a0 hA (V1 a1 hA V0))) rfl fun t314 => ?_)
        refine c_p (r_as rfl) rfl ?_
        refine t_nil ?_
        refine t_then hK312 ?_
        refine t_seq fun K315 hK316 => ?_
        refine t_region ?_
        refine c_s (r_ldA a1 Try.underlying28 rfl ti28 rfl rfl) rfl ?_
        refine c_p (r_mv rfl) rfl ?_
        obtain ⟨y317, hy317, h301⟩ := bs h301
        refine nx (t_ca (C10 _ _ _ _ _ _ hy317) Try.func10 nm10 rfl rfl rfl .nil (fun w Z hA => (V1 a1 hA V0)) rfl fun t318 => ?_)
        refine c_p (r_mv rfl) rfl ?_
        refine c_p (r_ex rfl rfl) rfl ?_
        refine c_p (r_ex rfl rfl) rfl ?_
        refine c_p (r_ex rfl rfl) rfl ?_
        refine nx (t_al (cs := [.int .i64 0, .int .i64 0, .slice none 0 0]) ti28 rfl rfl fun g319 => ?_)
        refine nx (t_st u0 ti28 rfl rfl rfl rfl rfl (.t (.s (.s (.s .z)))) ?_)
        refine c_p (r_as rfl) rfl ?_
        refine c_p (r_as rfl) rfl ?_
        refine t_nil ?_
        refine t_then hK316 ?_
        refine t_seq fun K320 hK321 => ?_
        have J386 : ∀ (x376 : Int) (x377 : Int) (x378 : Int) (x379 : Int) (p380 : Option Addr) (m381 : Nat) (c382 : Nat) (x383 : List api_Process) (x384 : Int) (x385 : Int), f_kauditlaw09_ProcessKeeps_j1 x291 x292 x296 x297 x299 (f_kauditlaw09_ProcessKeeps_l1 z0 k302) x376 x377 x378 x379 x383 x384 x385 = some r → T 88 c [vw (kSlice 3 (kInt .i64)) z0 [.slice p1 m2 c3], vw (kSlice 38 k_api_Process) x296 [.slice p293 m294 c295]] [[blk g16 [.slice p1 m2 c3, .int .i64 x376] 59], [blk g21 [.int .i64 x291, .int .i64 x292, .slice p293 m294 c295] 28], [row 38 (kShare k_api_Process) x383 (.slice p380 m381 c382)], [blk g319 [.int .i64 x378, .int .i64 x379, .slice p380 m381 c382] 28]] [(3, .pointer (some ⟨g16, 0, none⟩)), (4, .pointer (some ⟨g21, 0, none⟩)), (5, .int .i64 x297), (6, .int .i64 x377), (7, .int .i64 x299), (9, .pointer (some ⟨g319, 0, none⟩)), (10, .int .i64 x384), (11, .int .i64 x385)] K320 := by
          intro x376 x377 x378 x379 p380 m381 c382 x383 x384 x385 h387
          unfold f_kauditlaw09_ProcessKeeps_j1 at h387
          refine ti hK321 ?_
          refine t_seq fun K388 hK389 => ?_
          refine t_seq fun K390 hK391 => ?_
          refine t_region ?_
          refine c_p (r_mv rfl) rfl ?_
          refine c_p (r_i rfl rfl rfl) rfl ?_
          refine t_nil ?_
          refine t_then hK391 ?_
          rcases Bool.eq_false_or_eq_true (x385 != 0) with hb392 | hb392
          · replace h387 := itT hb392 h387
            refine t_T rfl hb392 ?_
            refine t_exit ?_
            refine te (bx ?_)
            refine t_then hK310 ?_
            refine t_region ?_
            refine c_p (r_mv rfl) rfl ?_
            refine c_p (r_i rfl rfl rfl) rfl ?_
            refine c_p (r_as rfl) rfl ?_
            refine t_nil ?_
            exact t_norm (t_go (ih303 x376 x291 x292 p293 m294 c295 x296 x297 x377 (IntKind.wrap .i64 (x299 + 1)) h387) ⟨rfl, rfl, rfl, rfl, rfl, trivial⟩ (.cons e0 (.cons e0 .nil)) (fun w Z hA => V1 a0 hA (V1 a1 hA (V0))))
          · replace h387 := itF hb392 h387
            refine t_F rfl hb392 ?_
            refine t_skip ?_
            refine t_then hK389 ?_
            refine t_seq fun K393 hK394 => ?_
            refine t_seq fun K395 hK396 => ?_
            refine t_region ?_
            refine c_p (r_mv rfl) rfl ?_
            refine c_p (r_i rfl rfl rfl) rfl ?_
            refine c_p (r_mv rfl) rfl ?_
            rcases Bool.eq_false_or_eq_true (x384 != 0) with hb397 | hb397
            · replace h387 := itT hb397 h387
              refine nx (gd rfl rfl hb397 (sp (r_mv rfl) rfl ?_))
              refine nx (gd rfl rfl hb397 (sp (r_mv rfl) rfl ?_))
              refine nx (gd rfl rfl hb397 (sp (r_i rfl rfl rfl) rfl ?_))
              refine c_p (r_pT rfl hb397 rfl) rfl ?_
              refine c_p (r_mv rfl) rfl ?_
              rcases Bool.eq_false_or_eq_true (decide (x384 ≤ x297)) with hb398 | hb398
              · replace h387 := itT hb398 h387
                refine nx (pass rfl rfl hb398 rfl ?_)
                refine nx (pass rfl rfl hb398 rfl ?_)
                refine nx (pass rfl rfl hb398 rfl ?_)
                refine c_p (r_pT rfl hb398 rfl) rfl ?_
                refine t_nil ?_
                refine t_then hK396 ?_
                refine t_T rfl rfl ?_
                refine t_seq fun K403 hK404 => ?_
                refine t_region ?_
                refine c_p (r_as rfl) rfl ?_
                refine t_nil ?_
                refine t_then hK404 ?_
                refine t_ret ?_
                exact tr (br (tr (tr (br (tr (ret1 rfl (v_t rfl) (t_leave (hQ _ (Option.some.inj h387)) () rfl (fun w Z hA => V0) .nil)))))))
              · replace h387 := itF hb398 h387
                refine nx (gd rfl rfl hb398 (ss (r_ldA a3 Try.underlying28 rfl ti28 rfl rfl) rfl ?_))
                obtain ⟨y399, hy399, h387⟩ := bs h387
                refine nx (gd rfl rfl hb398 (t_cf (C27 _ _ _ _ _ hy399) (fun _ => flat_nil) Try.func27 nm27 rfl rfl rfl .nil (fun w Z S hA hL => (FLs a2 hL F0)) rfl fun t400 => ?_))
                refine nx (gd rfl rfl hb398 (sp (r_not rfl) rfl ?_))
                refine c_p (r_pF rfl hb398 rfl) rfl ?_
                refine t_nil ?_
                refine t_then hK396 ?_
                rcases Bool.eq_false_or_eq_true y399 with hb405 | hb405
                · replace h387 := itT hb405 h387
                  refine t_F rfl (congrArg Bool.not hb405) ?_
                  refine t_skip ?_
                  refine t_then hK394 ?_
                  refine t_seq fun K411 hK412 => ?_
                  refine t_region ?_
                  refine c_p (r_mv rfl) rfl ?_
                  refine c_p (r_mv rfl) rfl ?_
                  refine c_p (r_max rfl rfl) rfl ?_
                  refine c_p (r_as rfl) rfl ?_
                  refine t_nil ?_
                  refine t_then hK412 ?_
                  refine t_region ?_
                  refine c_s (r_ldA a3 Try.underlying28 rfl ti28 rfl rfl) rfl ?_
                  refine nx (t_st u1 ti28 rfl rfl rfl rfl rfl (.t (.s (.s (.s .z)))) ?_)
                  refine t_nil ?_
                  refine t_blockN ?_
                  refine t_then hK310 ?_
                  refine t_region ?_
                  refine c_p (r_mv rfl) rfl ?_
                  refine c_p (r_i rfl rfl rfl) rfl ?_
                  refine c_p (r_as rfl) rfl ?_
                  refine t_nil ?_
                  refine t_shS e2 ?_
                  exact t_norm (t_go (ih303 x376 x378 x379 p380 m381 c382 x383 (max x297 x384) x377 (IntKind.wrap .i64 (x299 + 1)) h387) ⟨rfl, rfl, rfl, rfl, rfl, trivial⟩ (.cons e0 (.cons e0 .nil)) (fun w Z hA => V1 a1 hA (V1 a0 hA (V0))))
                · replace h387 := itF hb405 h387
                  refine t_T rfl (congrArg Bool.not hb405) ?_
                  refine t_seq fun K406 hK407 => ?_
                  refine t_region ?_
                  refine c_p (r_as rfl) rfl ?_
                  refine t_nil ?_
                  refine t_then hK407 ?_
                  refine t_ret ?_
                  exact tr (br (tr (tr (br (tr (ret1 rfl (v_t rfl) (t_leave (hQ _ (Option.some.inj h387)) () rfl (fun w Z hA => V0) .nil)))))))
            · replace h387 := itF hb397 h387
              refine nx (pass rfl rfl hb397 rfl ?_)
              refine nx (pass rfl rfl hb397 rfl ?_)
              refine nx (pass rfl rfl hb397 rfl ?_)
              refine c_p (r_pF rfl hb397 rfl) rfl ?_
              refine c_p (r_mv rfl) rfl ?_
              refine nx (gd rfl rfl rfl (ss (r_ldA a3 Try.underlying28 rfl ti28 rfl rfl) rfl ?_))
              obtain ⟨y401, hy401, h387⟩ := bs h387
              refine nx (gd rfl rfl rfl (t_cf (C27 _ _ _ _ _ hy401) (fun _ => flat_nil) Try.func27 nm27 rfl rfl rfl .nil (fun w Z S hA hL => (FLs a2 hL F0)) rfl fun t402 => ?_))
              refine nx (gd rfl rfl rfl (sp (r_not rfl) rfl ?_))
              refine c_p (r_pF rfl rfl rfl) rfl ?_
              refine t_nil ?_
              refine t_then hK396 ?_
              rcases Bool.eq_false_or_eq_true y401 with hb408 | hb408
              · replace h387 := itT hb408 h387
                refine t_F rfl (congrArg Bool.not hb408) ?_
                refine t_skip ?_
                refine t_then hK394 ?_
                refine t_seq fun K413 hK414 => ?_
                refine t_region ?_
                refine c_p (r_mv rfl) rfl ?_
                refine c_p (r_mv rfl) rfl ?_
                refine c_p (r_max rfl rfl) rfl ?_
                refine c_p (r_as rfl) rfl ?_
                refine t_nil ?_
                refine t_then hK414 ?_
                refine t_region ?_
                refine c_s (r_ldA a3 Try.underlying28 rfl ti28 rfl rfl) rfl ?_
                refine nx (t_st u1 ti28 rfl rfl rfl rfl rfl (.t (.s (.s (.s .z)))) ?_)
                refine t_nil ?_
                refine t_blockN ?_
                refine t_then hK310 ?_
                refine t_region ?_
                refine c_p (r_mv rfl) rfl ?_
                refine c_p (r_i rfl rfl rfl) rfl ?_
                refine c_p (r_as rfl) rfl ?_
                refine t_nil ?_
                refine t_shS e2 ?_
                exact t_norm (t_go (ih303 x376 x378 x379 p380 m381 c382 x383 (max x297 x384) x377 (IntKind.wrap .i64 (x299 + 1)) h387) ⟨rfl, rfl, rfl, rfl, rfl, trivial⟩ (.cons e0 (.cons e0 .nil)) (fun w Z hA => V1 a1 hA (V1 a0 hA (V0))))
              · replace h387 := itF hb408 h387
                refine t_T rfl (congrArg Bool.not hb408) ?_
                refine t_seq fun K409 hK410 => ?_
                refine t_region ?_
                refine c_p (r_as rfl) rfl ?_
                refine t_nil ?_
                refine t_then hK410 ?_
                refine t_ret ?_
                exact tr (br (tr (tr (br (tr (ret1 rfl (v_t rfl) (t_leave (hQ _ (Option.some.inj h387)) () rfl (fun w Z hA => V0) .nil)))))))
        refine t_seq fun K322 hK323 => ?_
        refine t_region ?_
        refine c_p (r_mv rfl) rfl ?_
        obtain ⟨y324, hy324, h301⟩ := bs h301
        refine nx (t_ca (C17 _ _ _ _ _ _ _ hy324) Try.func17 nm17 rfl rfl rfl (.cons e2 .nil) (fun w Z hA => (V1 a0 hA V0)) rfl fun t325 => ?_)
        refine c_p (r_i rfl rfl rfl) rfl ?_
        refine t_nil ?_
        refine t_then hK323 ?_
        rcases Bool.eq_false_or_eq_true (y324.1 == 0) with hb326 | hb326
        · replace h301 := itT hb326 h301
          refine t_T rfl hb326 ?_
          refine t_seq fun K327 hK328 => ?_
          refine t_region ?_
          refine c_s (r_ldA a3 Try.underlying28 rfl ti28 rfl rfl) rfl ?_
          refine c_p (r_mv rfl) rfl ?_
          obtain ⟨y329, hy329, h301⟩ := bs h301
          refine nx (t_ca (C25 _ _ _ _ _ _ hy329) Try.func25 nm25 rfl rfl rfl .nil (fun w Z hA => (V1 a1 hA V0)) rfl fun t330 => ?_)
          refine c_p (r_mv rfl) rfl ?_
          refine c_p (r_ex rfl rfl) rfl ?_
          refine c_p (r_ex rfl rfl) rfl ?_
          refine nx (t_st u2 ti28 rfl rfl rfl rfl rfl (.t (.s (.s (.s .z)))) ?_)
          refine c_p (r_as rfl) rfl ?_
          refine t_nil ?_
          refine t_then hK328 ?_
          refine t_region ?_
          refine c_p (r_as rfl) rfl ?_
          refine t_nil ?_
          exact t_norm (t_go (J386 y324.2 x298 y329.1.Next y329.1.NextSession t330.1 t330.2.1 t330.2.2 y329.1.Processes 0 y329.2 h301) ⟨rfl, rfl, rfl, rfl, rfl, rfl, rfl, rfl, trivial⟩ (.cons e1 (.cons e3 (.cons e0 (.cons e0 .nil)))) (fun w Z hA => V1 a0 hA (V1 a1 hA (V0))))
        · replace h301 := itF hb326 h301
          refine t_F rfl hb326 ?_
          refine t_seq fun K331 hK332 => ?_
          refine t_region ?_
          refine c_p (r_mv rfl) rfl ?_
          obtain ⟨y333, hy333, h301⟩ := bs h301
          refine nx (t_ca (C17 _ _ _ _ _ _ _ hy333) Try.func17 nm17 rfl rfl rfl (.cons e0 .nil) (fun w Z hA => (V1 a0 hA V0)) rfl fun t334 => ?_)
          refine c_p (r_i rfl rfl rfl) rfl ?_
          refine t_nil ?_
          refine t_then hK332 ?_
          rcases Bool.eq_false_or_eq_true (y333.1 == 0) with hb335 | hb335
          · replace h301 := itT hb335 h301
            refine t_T rfl hb335 ?_
            refine t_seq fun K336 hK337 => ?_
            refine t_draw mixed (fun w_ => Bk g21 [.int .i64 x291, .int .i64 x292, .slice p293 m294 c295] w_ ∧ True) [0] [3, 4, 8] rfl ?_
            refine q_s 0 (panic_then (panic_then (panic_block (panic_then (panic_then (panic_block (panic_then panic_body))))))) rfl (by kernel_rfl) W0 (by kernel_rfl) (fun w H => ⟨bk a3 H, trivial⟩) (b_ldN (fun _ h => h.1) Try.underlying28 rfl ti28 rfl (.t (.s (.s (.s .z))))) rfl ?_
            refine q_p 1 (panic_then (panic_then (panic_block (panic_then (panic_then (panic_block (panic_then panic_body))))))) rfl (by kernel_rfl) W0 (r_mv rfl) rfl ?_
            refine q_p 2 (panic_then (panic_then (panic_block (panic_then (panic_then (panic_block (panic_then panic_body))))))) rfl (by kernel_rfl) W0 (r_mv rfl) rfl ?_
            refine d1 3 rfl (by kernel_rfl) (by kernel_rfl) ?_
            obtain ⟨y338, hy338, h301⟩ := bs h301
            refine t_ca (C17 _ _ _ _ _ _ _ hy338) Try.func17 nm17 rfl rfl rfl (.cons e0 .nil) (fun w Z hA => (V1 a0 hA V0)) rfl fun t339 => ?_
            refine dk (fun w H => ⟨bk a3 H, trivial⟩) ?_
            refine d1 4 rfl (by kernel_rfl) (by kernel_rfl) ?_
            obtain ⟨y340, hy340, h301⟩ := bs h301
            refine t_ca (C16 _ _ _ _ _ _ _ hy340) Try.func16 nm16 rfl rfl rfl .nil (fun w Z hA => (V1 a1 hA V0)) rfl fun t341 => ?_
            refine dn (by kernel_rfl) ?_
            refine q_p 5 (panic_then (panic_then (panic_block (panic_then (panic_then (panic_block (panic_then panic_body))))))) rfl (by kernel_rfl) W0 (r_mv rfl) rfl ?_
            refine q_p 6 (panic_then (panic_then (panic_block (panic_then (panic_then (panic_block (panic_then panic_body))))))) rfl (by kernel_rfl) W0 (r_ex rfl rfl) rfl ?_
            refine q_p 7 (panic_then (panic_then (panic_block (panic_then (panic_then (panic_block (panic_then panic_body))))))) rfl (by kernel_rfl) W0 (r_ex rfl rfl) rfl ?_
            refine d1 8 rfl (by kernel_rfl) (by kernel_rfl) ?_
            refine t_st u2 ti28 rfl rfl rfl rfl rfl (.t (.s (.s (.s .z)))) ?_
            refine dn (by kernel_rfl) ?_
            refine q_p 9 (panic_then (panic_then (panic_block (panic_then (panic_then (panic_block (panic_then panic_body))))))) rfl (by kernel_rfl) W0 (r_as rfl) rfl ?_
            refine dz (by kernel_rfl) ?_
            refine t_then hK337 ?_
            refine t_seq fun K342 hK343 => ?_
            refine t_region ?_
            refine c_p (r_as rfl) rfl ?_
            refine t_nil ?_
            refine t_then hK343 ?_
            refine t_seq fun K344 hK345 => ?_
            refine t_region ?_
            refine c_s (r_ldA a2 Try.underlying28 rfl ti28 rfl rfl) rfl ?_
            refine c_p (r_mv rfl) rfl ?_
            obtain ⟨y346, hy346, h301⟩ := bs h301
            refine nx (t_cf (C26 _ _ _ _ _ _ hy346) (fun _ => (flat_cons (indK_slice 81 k_api_Descriptor_indK) flat_nil)) Try.func26 nm26 rfl rfl rfl .nil (fun w Z S hA hL => (FL a0 hL F0)) rfl fun t347 => ?_)
            refine c_p (r_mv rfl) rfl ?_
            refine c_p (r_ex rfl rfl) rfl ?_
            refine c_p (r_ex rfl rfl) rfl ?_
            refine nx (t_al (cs := [.int .i64 0, .int .i64 0, .int .i64 0, .int .i64 0, .int .i64 0, .int .i64 0, .int .i64 0, .int .i64 0, .int .i64 0, .int .i64 0, .string (⟨#[]⟩ : ByteArray), .string (⟨#[]⟩ : ByteArray), .slice none 0 0, .bool false]) ti38 rfl rfl fun g348 => ?_)
            refine nx (t_st u0 ti38 rfl rfl rfl rfl rfl (.t (.s (.s (.s (.s (.s (.s (.s (.s (.s (.s (.s (.s (.s (.s .z))))))))))))))) ?_)
            refine c_p (r_as rfl) rfl ?_
            refine t_nil ?_
            refine t_then hK345 ?_
            refine t_seq fun K349 hK350 => ?_
            refine t_region ?_
            refine c_p (r_mv rfl) rfl ?_
            refine c_p (r_i rfl rfl rfl) rfl ?_
            refine c_p (r_mv rfl) rfl ?_
            rcases Bool.eq_false_or_eq_true (y340.2 == 0) with hb351 | hb351
            · replace h301 := itT hb351 h301
              refine nx (gd rfl rfl hb351 (sp (r_mv rfl) rfl ?_))
              refine c_p (r_pT rfl hb351 rfl) rfl ?_
              refine t_nil ?_
              refine t_then hK350 ?_
              rcases Bool.eq_false_or_eq_true y346.2 with hb352 | hb352
              · replace h301 := itT hb352 h301
                refine t_T rfl hb352 ?_
                refine t_seq fun K353 hK354 => ?_
                refine t_seq fun K355 hK356 => ?_
                refine t_region ?_
                refine c_p (r_fa (off' := 7) Try.underlying38 rfl ti3 rfl rfl) rfl ?_
                refine c_s (r_ld a0 Try.underlying3 rfl rfl rfl) rfl ?_
                refine c_p (r_mv rfl) rfl ?_
                refine c_p (r_i rfl rfl rfl) rfl ?_
                refine t_nil ?_
                refine t_then hK356 ?_
                rcases Bool.eq_false_or_eq_true (decide (y346.1.Session ≤ x298)) with hb357 | hb357
                · replace h301 := itT hb357 h301
                  refine t_T rfl hb357 ?_
                  refine t_seq fun K358 hK359 => ?_
                  refine t_region ?_
                  refine c_p (r_as rfl) rfl ?_
                  refine t_nil ?_
                  refine t_then hK359 ?_
                  refine t_ret ?_
                  exact tr (tr (br (tr (tr (br (tr (ret1 rfl (v_t rfl) (t_leave (hQ _ (Option.some.inj h301)) () rfl (fun w Z hA => V0) .nil))))))))
                · replace h301 := itF hb357 h301
                  refine t_F rfl hb357 ?_
                  refine t_skip ?_
                  refine t_then hK354 ?_
                  refine t_region ?_
                  refine c_p (r_fa (off' := 7) Try.underlying38 rfl ti3 rfl rfl) rfl ?_
                  refine c_s (r_ld a0 Try.underlying3 rfl rfl rfl) rfl ?_
                  refine c_p (r_as rfl) rfl ?_
                  refine t_nil ?_
                  refine t_fe e2 ?_
                  exact t_norm (t_go (J386 y338.2 y346.1.Session y340.1.Next y340.1.NextSession t341.1 t341.2.1 t341.2.2 y340.1.Processes 0 y340.2 h301) ⟨rfl, rfl, rfl, rfl, rfl, rfl, rfl, rfl, trivial⟩ (.cons e3 (.cons e5 (.cons e0 (.cons e2 .nil)))) (fun w Z hA => V1 a0 hA (V1 a1 hA (V0))))
              · replace h301 := itF hb352 h301
                refine t_F rfl hb352 ?_
                refine t_skip ?_
                refine t_fe e2 ?_
                exact t_norm (t_go (J386 y338.2 x298 y340.1.Next y340.1.NextSession t341.1 t341.2.1 t341.2.2 y340.1.Processes 0 y340.2 h301) ⟨rfl, rfl, rfl, rfl, rfl, rfl, rfl, rfl, trivial⟩ (.cons e3 (.cons e5 (.cons e0 (.cons e2 .nil)))) (fun w Z hA => V1 a0 hA (V1 a1 hA (V0))))
            · replace h301 := itF hb351 h301
              refine nx (pass rfl rfl hb351 rfl ?_)
              refine c_p (r_pF rfl hb351 rfl) rfl ?_
              refine t_nil ?_
              refine t_then hK350 ?_
              refine t_F rfl rfl ?_
              refine t_skip ?_
              refine t_fe e2 ?_
              exact t_norm (t_go (J386 y338.2 x298 y340.1.Next y340.1.NextSession t341.1 t341.2.1 t341.2.2 y340.1.Processes 0 y340.2 h301) ⟨rfl, rfl, rfl, rfl, rfl, rfl, rfl, rfl, trivial⟩ (.cons e3 (.cons e5 (.cons e0 (.cons e2 .nil)))) (fun w Z hA => V1 a0 hA (V1 a1 hA (V0))))
          · replace h301 := itF hb335 h301
            refine t_F rfl hb335 ?_
            refine t_skip ?_
            refine t_fe e2 ?_
            exact t_norm (t_go (J386 y333.2 x298 y317.1.Next y317.1.NextSession t318.1 t318.2.1 t318.2.2 y317.1.Processes y317.2.1 y317.2.2 h301) ⟨rfl, rfl, rfl, rfl, rfl, rfl, rfl, rfl, trivial⟩ (.cons e1 (.cons e2 (.cons e0 (.cons e0 .nil)))) (fun w Z hA => V1 a0 hA (V1 a1 hA (V0))))
      · replace h301 := itF hb308 h301
        refine t_F rfl hb308 ?_
        refine t_exit ?_
        refine te (te (bx ?_))
        exact t_norm (t_go (J415 h301) trivial .nil (fun w Z hA => V0))
  exact t_go (LP300 (((20 : Int) - (0)).toNat + 1) 0 y19.Next y19.NextSession t20.1 t20.2.1 t20.2.2 y19.Processes 1 0 0 h) ⟨rfl, rfl, rfl, rfl, rfl, trivial⟩ (.cons e1 (.cons e0 .nil)) (fun w Z hA => V1 a1 hA (V1 a0 hA (V0)))
end Go.Proofs.Ytanimjbmkhpnaaa.Gx
