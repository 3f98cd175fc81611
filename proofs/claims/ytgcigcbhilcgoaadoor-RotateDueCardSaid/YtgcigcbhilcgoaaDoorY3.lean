/- Function 3, kaudit/kauditlaw26.RotateDue: what it answers as a plain function, and that the Go code comes to exactly that (where the plain function gives an answer). -/
import Derived.Test.YtgcigcbhilcgoaaDoorYT
import Derived.Test.YtgcigcbhilcgoaaDoorY9
import Derived.Test.YtgcigcbhilcgoaaDoorY10
import Derived.Test.YtgcigcbhilcgoaaDoorY11
import Derived.Test.YtgcigcbhilcgoaaDoorY12
import Derived.Test.YtgcigcbhilcgoaaDoorY13
import Derived.Test.YtgcigcbhilcgoaaDoorY14
import Derived.Test.YtgcigcbhilcgoaaDoorY15
set_option linter.unusedVariables false
set_option linter.unusedSimpArgs false
namespace Go.Proofs.YtgcigcbhilcgoaaDoor.Gx
open Go.Gx Go.RowKit
/-! ### kaudit/kauditlaw26.RotateDue: function 3 -/
def f_kauditlaw26_RotateDue_j3 (z0 : api_Rotation) (y44 : api_Rotation × Int) : Option (Bool) := (f_rotate_Valid z0).bind fun y381 => (f_kauditref26_RotateValid z0).bind fun y383 => if (y381 == y383) = true then ((f_rotate_Valid y44.1).bind fun y386 => if y386 = true then ((f_kauditlaw26_begun).bind fun y389 => some y389) else (some false)) else (some false)
def f_kauditlaw26_RotateDue_l2 (z1 : Int) (z2 : Int) (x268 : Int) (el285 : api_Rotation) (y291 : Int × Int) (y294 : Int × Int) (rec_f_kauditlaw26_RotateDue_l1 : Int → Int → Option (Bool)) : Nat → Int → Option (Bool)
  | 0, _ => none
  | k351 + 1, x348 => if (decide (x348 < 6)) = true then ((at_ [(⟨z1, z2⟩ : St29), (⟨y291.1, y294.1⟩ : St29), (⟨z1, 1⟩ : St29), (⟨1, z2⟩ : St29), (⟨9223372036854775807, z2⟩ : St29), (⟨z1, (-9223372036854775808)⟩ : St29)] x348).bind fun el365 => (f_rotate_Due el285 el365.c0 el365.c1).bind fun y370 => (f_kauditref26_Due el285 el365.c0 el365.c1).bind fun y372 => if (y370 != y372) = true then (some false) else (f_kauditlaw26_RotateDue_l2 z1 z2 x268 el285 y291 y294 rec_f_kauditlaw26_RotateDue_l1 k351 (IntKind.wrap .i64 (x348 + 1)))) else (rec_f_kauditlaw26_RotateDue_l1 y294.2 (IntKind.wrap .i64 (x268 + 1)))
def f_kauditlaw26_RotateDue_l1 (z0 : api_Rotation) (z1 : Int) (z2 : Int) (x39 : List Int) (y44 : api_Rotation × Int) : Nat → Int → Int → Option (Bool)
  | 0, _, _ => none
  | k271 + 1, x267, x268 => if (decide (x268 < 2)) = true then ((at_ [z0, y44.1] x268).bind fun el285 => (f_kauditmill_Case_Pick (⟨x39, x267⟩ : kauditmill_Case) [0, 60, 64, 149, 150, 300]).bind fun y291 => (f_kauditmill_Case_Pick (⟨x39, y291.2⟩ : kauditmill_Case) [1, 4, 150]).bind fun y294 => f_kauditlaw26_RotateDue_l2 z1 z2 x268 el285 y291 y294 (f_kauditlaw26_RotateDue_l1 z0 z1 z2 x39 y44 k271) (((6 : Int) - (0)).toNat + 1) 0) else (f_kauditlaw26_RotateDue_j3 z0 y44)
def f_kauditlaw26_RotateDue_j2 (z0 : api_Rotation) (z1 : Int) (z2 : Int) (x39 : List Int) : Option (Bool) := (f_kauditmill_Case_Rotation (⟨x39, 0⟩ : kauditmill_Case)).bind fun y44 => f_kauditlaw26_RotateDue_l1 z0 z1 z2 x39 y44 (((2 : Int) - (0)).toNat + 1) y44.2 0
def f_kauditlaw26_RotateDue_j1 (z0 : api_Rotation) (z1 : Int) (z2 : Int) (x32 : List Int) : Option (Bool) := f_kauditlaw26_RotateDue_j2 z0 z1 z2 x32
def f_kauditlaw26_RotateDue (z0 : api_Rotation) (z1 : Int) (z2 : Int) (z3 : (List Int)) : Option (Bool) := if (decide ((z3.length : Int) > 30)) = true then (ck (cutOk z3 0 30) <| f_kauditlaw26_RotateDue_j1 z0 z1 z2 (cut z3 0 30)) else (f_kauditlaw26_RotateDue_j1 z0 z1 z2 z3)
set_option maxHeartbeats 4000000 in
set_option maxRecDepth 100000 in
theorem C3 (z0 : api_Rotation) (z1 : Int) (z2 : Int) (z3 : (List Int)) (p1 : Option Addr) (m2 : Nat) (c3 : Nat) (r : Bool) (h : f_kauditlaw26_RotateDue z0 z1 z2 z3 = some r) : FunG Tryd.prog 3 #[.agg #[.int .i64 z0.Most, .int .i64 z0.Keep, .int .i64 z0.Action], .int .i64 z1, .int .i64 z2, .slice p1 m2 c3] [vw (kSlice 5 (kInt .u8)) z3 [.slice p1 m2 c3], g_pow10, g_errs] [] (fun (_ : Unit) => .bool r) (fun _ => []) (fun _ => []) := by
  unfold f_kauditlaw26_RotateDue at h
  refine t_begin (args := [.agg #[.int .i64 z0.Most, .int .i64 z0.Keep, .int .i64 z0.Action], .int .i64 z1, .int .i64 z2, .slice p1 m2 c3]) Tryd.func3 rfl Tryd.ntmps3 rfl fun c R hR => ?_
  have hQ : ∀ X, X = r → ∀ w2 (_ : Unit), PostG c.w0 w2 c.M c.Y [] [] → R (.returned (.bool X)) w2 := fun X e => by subst e; exact hR
  refine t_seq fun K4 hK5 => ?_
  refine t_region ?_
  refine nx (t_bx (cs := [.int .i64 z0.Most, .int .i64 z0.Keep, .int .i64 z0.Action]) rfl rfl rfl fun g6 => ?_)
  refine c_p (r_as rfl) rfl ?_
  refine t_nil ?_
  refine t_then hK5 ?_
  refine t_seq fun K7 hK8 => ?_
  have J40 : ∀ (g35 : Nat) (p36 : Option Addr) (m37 : Nat) (c38 : Nat) (x39 : List Int), f_kauditlaw26_RotateDue_j2 z0 z1 z2 x39 = some r → T 78 c [vw (kSlice 5 (kInt .u8)) x39 [.slice p36 m37 c38], g_pow10, g_errs] [[blk g6 [.int .i64 z0.Most, .int .i64 z0.Keep, .int .i64 z0.Action] 23], [blk g35 [.slice p36 m37 c38, .int .i64 0] 53]] [(1, .int .i64 z1), (2, .int .i64 z2), (4, .pointer (some ⟨g6, 0, none⟩)), (9, .pointer (some ⟨g35, 0, none⟩))] K7 := by
    intro g35 p36 m37 c38 x39 h41
    unfold f_kauditlaw26_RotateDue_j2 at h41
    refine ti hK8 ?_
    refine t_seq fun K42 hK43 => ?_
    refine t_region ?_
    refine c_p (r_mv rfl) rfl ?_
    obtain ⟨y44, hy44, h41⟩ := bs h41
    refine nx (t_ca (C9 _ _ _ _ _ _ hy44) Tryd.func9 nm9 rfl rfl rfl (.cons e1 .nil) (fun w Z hA => (V1 a0 hA (V1 a1 hA (V1 a2 hA V0)))) rfl fun t45 => ?_)
    refine nx (t_al (cs := [.int .i64 0, .int .i64 0, .int .i64 0]) ti23 rfl rfl fun g46 => ?_)
    refine nx (t_st u0 ti23 rfl rfl rfl rfl rfl (.t (.s (.s (.s .z)))) ?_)
    refine t_nil ?_
    refine t_then hK43 ?_
    refine t_seq fun K47 hK48 => ?_
    have J377 : f_kauditlaw26_RotateDue_j3 z0 y44 = some r → T 78 c [g_pow10, g_errs] [[blk g6 [.int .i64 z0.Most, .int .i64 z0.Keep, .int .i64 z0.Action] 23], [blk g46 [.int .i64 y44.1.Most, .int .i64 y44.1.Keep, .int .i64 y44.1.Action] 23]] [(4, .pointer (some ⟨g6, 0, none⟩)), (10, .pointer (some ⟨g46, 0, none⟩))] K47 := by
      intro h378
      unfold f_kauditlaw26_RotateDue_j3 at h378
      refine ti hK48 ?_
      refine t_seq fun K379 hK380 => ?_
      refine t_draw mixed (fun w_ => Bk g6 [.int .i64 z0.Most, .int .i64 z0.Keep, .int .i64 z0.Action] w_ ∧ Bk g46 [.int .i64 y44.1.Most, .int .i64 y44.1.Keep, .int .i64 y44.1.Action] w_ ∧ True) [2, 6] [1, 3, 7, 10] rfl ?_
      refine q_u 0 (panic_then panic_body) rfl (by kernel_rfl) W0 (by kernel_rfl) (r_ldA a0 Tryd.underlying23 rfl ti23 rfl rfl) rfl ?_
      refine q_s 2 (panic_then panic_body) rfl (by kernel_rfl) W0 (by kernel_rfl) (fun w H => ⟨bk a0 H, bk a1 H, trivial⟩) (b_ldN (fun _ h => h.1) Tryd.underlying23 rfl ti23 rfl (.t (.s (.s (.s .z))))) rfl ?_
      refine d1 1 rfl (by kernel_rfl) (by kernel_rfl) ?_
      obtain ⟨y381, hy381, h378⟩ := bs h378
      refine t_ca (C13 _ _ hy381) Tryd.func13 nm13 rfl rfl rfl .nil (fun w Z hA => (V1 a0 hA (V1 a1 hA V0))) rfl fun t382 => ?_
      refine dk (fun w H => ⟨bk a0 H, bk a1 H, trivial⟩) ?_
      refine d1 3 rfl (by kernel_rfl) (by kernel_rfl) ?_
      obtain ⟨y383, hy383, h378⟩ := bs h378
      refine t_ca (C14 _ _ hy383) Tryd.func14 nm14 rfl rfl rfl .nil (fun w Z hA => (V1 a0 hA (V1 a1 hA V0))) rfl fun t384 => ?_
      refine dk (fun w H => ⟨bk a0 H, bk a1 H, trivial⟩) ?_
      refine q_p 4 (panic_then panic_body) rfl (by kernel_rfl) W0 (r_beq Tryd.underlying4 rfl rfl) rfl ?_
      refine q_p 5 (panic_then panic_body) rfl (by kernel_rfl) W0 (r_mv rfl) rfl ?_
      rcases Bool.eq_false_or_eq_true (y381 == y383) with hb385 | hb385
      · replace h378 := itT hb385 h378
        refine q_s 6 (panic_then panic_body) rfl (by kernel_rfl) (WG rfl rfl hb385) (by kernel_rfl) (fun w H => ⟨bk a0 H, bk a1 H, trivial⟩) (b_ldN (fun _ h => h.2.1) Tryd.underlying23 rfl ti23 rfl (.t (.s (.s (.s .z))))) rfl ?_
        refine d1 7 rfl (by kernel_rfl) (by kernel_rfl) ?_
        obtain ⟨y386, hy386, h378⟩ := bs h378
        refine gd rfl rfl hb385 (t_ca (C13 _ _ hy386) Tryd.func13 nm13 rfl rfl rfl .nil (fun w Z hA => (V1 a0 hA (V1 a1 hA V0))) rfl fun t387 => ?_)
        refine dn (by kernel_rfl) ?_
        refine q_p 8 (panic_then panic_body) rfl (by kernel_rfl) W0 (r_pT rfl hb385 rfl) rfl ?_
        refine q_p 9 (panic_then panic_body) rfl (by kernel_rfl) W0 (r_mv rfl) rfl ?_
        rcases Bool.eq_false_or_eq_true y386 with hb388 | hb388
        · replace h378 := itT hb388 h378
          refine d1 10 rfl (by kernel_rfl) (by kernel_rfl) ?_
          obtain ⟨y389, hy389, h378⟩ := bs h378
          refine gd rfl rfl hb388 (t_ca (C15 _ hy389) Tryd.func15 nm15 rfl rfl rfl .nil (fun w Z hA => (V1 a0 hA (V1 a1 hA V0))) rfl fun t390 => ?_)
          refine dn (by kernel_rfl) ?_
          refine q_p 11 (panic_then panic_body) rfl (by kernel_rfl) W0 (r_pT rfl hb388 rfl) rfl ?_
          refine q_p 12 (panic_then panic_body) rfl (by kernel_rfl) W0 (r_as rfl) rfl ?_
          refine dz (by kernel_rfl) ?_
          refine t_then hK380 ?_
          refine t_ret ?_
          exact ret1 rfl (v_t rfl) (t_leave (hQ _ (Option.some.inj h378)) () rfl (fun w Z hA => V0) .nil)
        · replace h378 := itF hb388 h378
          refine d1 10 rfl (by kernel_rfl) (by kernel_rfl) ?_
          refine pass rfl rfl hb388 rfl ?_
          refine dn (by kernel_rfl) ?_
          refine q_p 11 (panic_then panic_body) rfl (by kernel_rfl) W0 (r_pF rfl hb388 rfl) rfl ?_
          refine q_p 12 (panic_then panic_body) rfl (by kernel_rfl) W0 (r_as rfl) rfl ?_
          refine dz (by kernel_rfl) ?_
          refine t_then hK380 ?_
          refine t_ret ?_
          exact ret1 rfl (v_t rfl) (t_leave (hQ _ (Option.some.inj h378)) () rfl (fun w Z hA => V0) .nil)
      · replace h378 := itF hb385 h378
        refine q_x 6 (panic_then panic_body) rfl (by kernel_rfl) rfl rfl hb385 rfl ?_
        refine d1 7 rfl (by kernel_rfl) (by kernel_rfl) ?_
        refine pass rfl rfl hb385 rfl ?_
        refine dn (by kernel_rfl) ?_
        refine q_p 8 (panic_then panic_body) rfl (by kernel_rfl) W0 (r_pF rfl hb385 rfl) rfl ?_
        refine q_p 9 (panic_then panic_body) rfl (by kernel_rfl) W0 (r_mv rfl) rfl ?_
        refine d1 10 rfl (by kernel_rfl) (by kernel_rfl) ?_
        refine pass rfl rfl rfl rfl ?_
        refine dn (by kernel_rfl) ?_
        refine q_p 11 (panic_then panic_body) rfl (by kernel_rfl) W0 (r_pF rfl rfl rfl) rfl ?_
        refine q_p 12 (panic_then panic_body) rfl (by kernel_rfl) W0 (r_as rfl) rfl ?_
        refine dz (by kernel_rfl) ?_
        refine t_then hK380 ?_
        refine t_ret ?_
        exact ret1 rfl (v_t rfl) (t_leave (hQ _ (Option.some.inj h378)) () rfl (fun w Z hA => V0) .nil)
    refine t_seq fun K49 hK50 => ?_
    refine t_region ?_
    refine c_s (r_ldA a2 Tryd.underlying23 rfl ti23 rfl rfl) rfl ?_
    refine c_s (r_ldA a0 Tryd.underlying23 rfl ti23 rfl rfl) rfl ?_
    refine nx (t_bs (ps := [(0, .agg #[.int .i64 z0.Most, .int .i64 z0.Keep, .int .i64 z0.Action]), (1, .agg #[.int .i64 y44.1.Most, .int .i64 y44.1.Keep, .int .i64 y44.1.Action])]) (cs := [.int .i64 z0.Most, .int .i64 z0.Keep, .int .i64 z0.Action, .int .i64 y44.1.Most, .int .i64 y44.1.Keep, .int .i64 y44.1.Action]) Tryd.underlying28 ti23 rfl rfl (by kernel_rfl) rfl fun g51 => ?_)
    refine c_p (r_ln0 Tryd.underlying28 rfl) rfl ?_
    refine c_p (r_mv rfl) rfl ?_
    refine t_nil ?_
    refine t_then hK50 ?_
    refine t_block ?_
    refine t_tr (Kd := k_api_Rotation) (xs := [z0, y44.1]) (.cons e0 .nil) rfl (fun w Z S hA hN => flat_EO (S := Nil) k_api_Rotation_flatK (er1 (c1 := [.int .i64 z0.Most, .int .i64 z0.Keep, .int .i64 z0.Action]) (k_api_Rotation_shuts (x := z0) (t := ()) trivial) (er1 (c1 := [.int .i64 y44.1.Most, .int .i64 y44.1.Keep, .int .i64 y44.1.Action]) (k_api_Rotation_shuts (x := y44.1) (t := ()) trivial) er0))) ?_
    refine t_lp fun k265 hk266 => ?_
    have LP269 : ∀ (k271 : Nat) (x267 : Int) (x268 : Int), f_kauditlaw26_RotateDue_l1 z0 z1 z2 x39 y44 k271 x267 x268 = some r → T 78 c [vw (kSlice 5 (kInt .u8)) x39 [.slice p36 m37 c38], g_pow10, g_errs] [[blk g6 [.int .i64 z0.Most, .int .i64 z0.Keep, .int .i64 z0.Action] 23], [blk g35 [.slice p36 m37 c38, .int .i64 x267] 53], [blk g46 [.int .i64 y44.1.Most, .int .i64 y44.1.Keep, .int .i64 y44.1.Action] 23], [row 23 k_api_Rotation [z0, y44.1] (.slice (some ⟨g51, 0, none⟩) 2 2)]] [(1, .int .i64 z1), (2, .int .i64 z2), (4, .pointer (some ⟨g6, 0, none⟩)), (9, .pointer (some ⟨g35, 0, none⟩)), (10, .pointer (some ⟨g46, 0, none⟩)), (21, .slice (some ⟨g51, 0, none⟩) 2 2), (22, .int .i64 2), (23, .int .i64 x268)] k265 := by
      intro k271
      induction k271 with
      | zero => intro x267 x268 h270; rewrite [f_kauditlaw26_RotateDue_l1] at h270; cases h270
      | succ k271 ih272 =>
        intro x267 x268 h270
        rewrite [f_kauditlaw26_RotateDue_l1] at h270
        refine ti hk266 ?_
        refine t_seq fun K273 hK274 => ?_
        refine t_region ?_
        refine c_p (r_i rfl rfl rfl) rfl ?_
        refine t_nil ?_
        refine t_then hK274 ?_
        refine t_seq fun K275 hK276 => ?_
        rcases Bool.eq_false_or_eq_true (decide (x268 < 2)) with hb277 | hb277
        · replace h270 := itT hb277 h270
          refine t_T rfl hb277 ?_
          refine t_skip ?_
          refine t_then hK276 ?_
          refine t_seq fun K278 hK279 => ?_
          refine t_block ?_
          refine t_seq fun K280 hK281 => ?_
          refine t_region ?_
          obtain ⟨el285, hel285, h270⟩ := bs h270
          refine t_qL a3 hel285 fun q282 hq283 hm284 => ?_
          refine c_p (r_idx hq283 hm284 hel285 Tryd.underlying28 ti23 rfl rfl) rfl ?_
          refine t_oI k_api_Rotation_opensO e3 hel285 fun t286 => ?_
          refine c_s (r_hA a0 hq283 Tryd.underlying23 rfl ti23 rfl rfl) rfl ?_
          refine nx (t_al (cs := [.int .i64 0, .int .i64 0, .int .i64 0]) ti23 rfl rfl fun g287 => ?_)
          refine nx (t_st u0 ti23 rfl rfl rfl rfl rfl (.t (.s (.s (.s .z)))) ?_)
          refine t_nil ?_
          refine t_then hK281 ?_
          refine t_seq fun K288 hK289 => ?_
          refine t_region ?_
          refine c_p (r_mv rfl) rfl ?_
          refine c_p (r_mv rfl) rfl ?_
          refine c_p (r_bu (ps := [(0, .int .i64 z1), (1, .int .i64 z2)]) (cs := [.int .i64 z1, .int .i64 z2]) rfl (by kernel_rfl)) rfl ?_
          refine c_p (r_mv rfl) rfl ?_
          refine nx (t_bs (ps := [(0, .int .i64 0), (1, .int .i64 60), (2, .int .i64 64), (3, .int .i64 149), (4, .int .i64 150), (5, .int .i64 300)]) (cs := [.int .i64 0, .int .i64 60, .int .i64 64, .int .i64 149, .int .i64 150, .int .i64 300]) Tryd.underlying36 ti3 rfl rfl (by kernel_rfl) rfl fun g290 => ?_)
          refine t_tr (Kd := (kInt .i64)) (xs := [0, 60, 64, 149, 150, 300]) (.cons e0 .nil) rfl (fun w Z S hA hN => flat_EO (S := Nil) (flatK_int .i64) (er1 (c1 := [.int .i64 0]) rfl (er1 (c1 := [.int .i64 60]) rfl (er1 (c1 := [.int .i64 64]) rfl (er1 (c1 := [.int .i64 149]) rfl (er1 (c1 := [.int .i64 150]) rfl (er1 (c1 := [.int .i64 300]) rfl er0))))))) ?_
          obtain ⟨y291, hy291, h270⟩ := bs h270
          refine nx (t_cf (C10 _ _ _ _ _ _ _ _ _ _ hy291) (fun _ => (flat_blk flat_nil)) Tryd.func10 nm10 rfl rfl rfl (.cons e4 .nil) (fun w Z S hA hL => (F1 a0 hA (FL a0 hL (F1 a1 hA (F1 a2 hA F0))))) rfl fun t292 => ?_)
          refine c_p (r_mv rfl) rfl ?_
          refine nx (t_bs (ps := [(0, .int .i64 1), (1, .int .i64 4), (2, .int .i64 150)]) (cs := [.int .i64 1, .int .i64 4, .int .i64 150]) Tryd.underlying36 ti3 rfl rfl (by kernel_rfl) rfl fun g293 => ?_)
          refine t_tr (Kd := (kInt .i64)) (xs := [1, 4, 150]) (.cons e0 .nil) rfl (fun w Z S hA hN => flat_EO (S := Nil) (flatK_int .i64) (er1 (c1 := [.int .i64 1]) rfl (er1 (c1 := [.int .i64 4]) rfl (er1 (c1 := [.int .i64 150]) rfl er0)))) ?_
          obtain ⟨y294, hy294, h270⟩ := bs h270
          refine nx (t_cf (C10 _ _ _ _ _ _ _ _ _ _ hy294) (fun _ => (flat_blk flat_nil)) Tryd.func10 nm10 rfl rfl rfl (.cons e1 .nil) (fun w Z S hA hL => (F1 a0 hA (FL a0 hL (F1 a1 hA (F1 a2 hA F0))))) rfl fun t295 => ?_)
          refine c_p (r_bu (ps := [(0, .int .i64 y291.1), (1, .int .i64 y294.1)]) (cs := [.int .i64 y291.1, .int .i64 y294.1]) rfl (by kernel_rfl)) rfl ?_
          refine c_p (r_mv rfl) rfl ?_
          refine c_p (r_bu (ps := [(0, .int .i64 z1), (1, .int .i64 1)]) (cs := [.int .i64 z1, .int .i64 1]) rfl (by kernel_rfl)) rfl ?_
          refine c_p (r_mv rfl) rfl ?_
          refine c_p (r_bu (ps := [(0, .int .i64 1), (1, .int .i64 z2)]) (cs := [.int .i64 1, .int .i64 z2]) rfl (by kernel_rfl)) rfl ?_
          refine c_p (r_mv rfl) rfl ?_
          refine c_p (r_bu (ps := [(0, .int .i64 9223372036854775807), (1, .int .i64 z2)]) (cs := [.int .i64 9223372036854775807, .int .i64 z2]) rfl (by kernel_rfl)) rfl ?_
          refine c_p (r_mv rfl) rfl ?_
          refine c_p (r_bu (ps := [(0, .int .i64 z1), (1, .int .i64 (-9223372036854775808))]) (cs := [.int .i64 z1, .int .i64 (-9223372036854775808)]) rfl (by kernel_rfl)) rfl ?_
          refine nx (t_bs (ps := [(0, .agg #[.int .i64 z1, .int .i64 z2]), (1, .agg #[.int .i64 y291.1, .int .i64 y294.1]), (2, .agg #[.int .i64 z1, .int .i64 1]), (3, .agg #[.int .i64 1, .int .i64 z2]), (4, .agg #[.int .i64 9223372036854775807, .int .i64 z2]), (5, .agg #[.int .i64 z1, .int .i64 (-9223372036854775808)])]) (cs := [.int .i64 z1, .int .i64 z2, .int .i64 y291.1, .int .i64 y294.1, .int .i64 z1, .int .i64 1, .int .i64 1, .int .i64 z2, .int .i64 9223372036854775807, .int .i64 z2, .int .i64 z1, .int .i64 (-9223372036854775808)]) Tryd.underlying31 ti29 rfl rfl (by kernel_rfl) rfl fun g296 => ?_)
          refine c_p (r_ln0 Tryd.underlying31 rfl) rfl ?_
          refine c_p (r_mv rfl) rfl ?_
          refine t_nil ?_
          refine t_then hK289 ?_
          refine t_block ?_
          refine t_tr (Kd := k_St29) (xs := [(⟨z1, z2⟩ : St29), (⟨y291.1, y294.1⟩ : St29), (⟨z1, 1⟩ : St29), (⟨1, z2⟩ : St29), (⟨9223372036854775807, z2⟩ : St29), (⟨z1, (-9223372036854775808)⟩ : St29)]) (.cons e0 .nil) rfl (fun w Z S hA hN => flat_EO (S := Nil) k_St29_flatK (er1 (c1 := [.int .i64 z1, .int .i64 z2]) (k_St29_shuts (x := (⟨z1, z2⟩ : St29)) (t := ()) trivial) (er1 (c1 := [.int .i64 y291.1, .int .i64 y294.1]) (k_St29_shuts (x := (⟨y291.1, y294.1⟩ : St29)) (t := ()) trivial) (er1 (c1 := [.int .i64 z1, .int .i64 1]) (k_St29_shuts (x := (⟨z1, 1⟩ : St29)) (t := ()) trivial) (er1 (c1 := [.int .i64 1, .int .i64 z2]) (k_St29_shuts (x := (⟨1, z2⟩ : St29)) (t := ()) trivial) (er1 (c1 := [.int .i64 9223372036854775807, .int .i64 z2]) (k_St29_shuts (x := (⟨9223372036854775807, z2⟩ : St29)) (t := ()) trivial) (er1 (c1 := [.int .i64 z1, .int .i64 (-9223372036854775808)]) (k_St29_shuts (x := (⟨z1, (-9223372036854775808)⟩ : St29)) (t := ()) trivial) er0))))))) ?_
          refine t_lp fun k346 hk347 => ?_
          have LP349 : ∀ (k351 : Nat) (x348 : Int), f_kauditlaw26_RotateDue_l2 z1 z2 x268 el285 y291 y294 (f_kauditlaw26_RotateDue_l1 z0 z1 z2 x39 y44 k271) k351 x348 = some r → T 78 c [vw (kSlice 5 (kInt .u8)) x39 [.slice p36 m37 c38], g_pow10, g_errs] [[blk g6 [.int .i64 z0.Most, .int .i64 z0.Keep, .int .i64 z0.Action] 23], [blk g35 [.slice p36 m37 c38, .int .i64 y294.2] 53], [blk g46 [.int .i64 y44.1.Most, .int .i64 y44.1.Keep, .int .i64 y44.1.Action] 23], [blk g287 [.int .i64 el285.Most, .int .i64 el285.Keep, .int .i64 el285.Action] 23], [hole 23 k_api_Rotation [z0, y44.1] x268.toNat [.int .i64 el285.Most, .int .i64 el285.Keep, .int .i64 el285.Action] (.slice (some ⟨g51, 0, none⟩) 2 2)], [row 29 k_St29 [(⟨z1, z2⟩ : St29), (⟨y291.1, y294.1⟩ : St29), (⟨z1, 1⟩ : St29), (⟨1, z2⟩ : St29), (⟨9223372036854775807, z2⟩ : St29), (⟨z1, (-9223372036854775808)⟩ : St29)] (.slice (some ⟨g296, 0, none⟩) 6 6)]] [(1, .int .i64 z1), (2, .int .i64 z2), (4, .pointer (some ⟨g6, 0, none⟩)), (9, .pointer (some ⟨g35, 0, none⟩)), (10, .pointer (some ⟨g46, 0, none⟩)), (12, .pointer (some ⟨g287, 0, none⟩)), (21, .slice (some ⟨g51, 0, none⟩) 2 2), (22, .int .i64 2), (23, .int .i64 x268), (45, .slice (some ⟨g296, 0, none⟩) 6 6), (46, .int .i64 6), (47, .int .i64 x348)] k346 := by
            intro k351
            induction k351 with
            | zero => intro x348 h350; rewrite [f_kauditlaw26_RotateDue_l2] at h350; cases h350
            | succ k351 ih352 =>
              intro x348 h350
              rewrite [f_kauditlaw26_RotateDue_l2] at h350
              refine ti hk347 ?_
              refine t_seq fun K353 hK354 => ?_
              refine t_region ?_
              refine c_p (r_i rfl rfl rfl) rfl ?_
              refine t_nil ?_
              refine t_then hK354 ?_
              refine t_seq fun K355 hK356 => ?_
              rcases Bool.eq_false_or_eq_true (decide (x348 < 6)) with hb357 | hb357
              · replace h350 := itT hb357 h350
                refine t_T rfl hb357 ?_
                refine t_skip ?_
                refine t_then hK356 ?_
                refine t_seq fun K358 hK359 => ?_
                refine t_block ?_
                refine t_seq fun K360 hK361 => ?_
                refine t_region ?_
                obtain ⟨el365, hel365, h350⟩ := bs h350
                refine t_qL a5 hel365 fun q362 hq363 hm364 => ?_
                refine c_p (r_idx hq363 hm364 hel365 Tryd.underlying31 ti29 rfl rfl) rfl ?_
                refine t_oI k_St29_opensO e5 hel365 fun t366 => ?_
                refine c_s (r_hA a0 hq363 Tryd.underlying29 rfl ti29 rfl rfl) rfl ?_
                refine nx (t_al (cs := [.int .i64 0, .int .i64 0]) ti29 rfl rfl fun g367 => ?_)
                refine nx (t_st u0 ti29 rfl rfl rfl rfl rfl (.t (.s (.s .z))) ?_)
                refine t_nil ?_
                refine t_then hK361 ?_
                refine t_seq fun K368 hK369 => ?_
                refine t_draw mixed (fun w_ => Bk g287 [.int .i64 el285.Most, .int .i64 el285.Keep, .int .i64 el285.Action] w_ ∧ Bk g367 [.int .i64 el365.c0, .int .i64 el365.c1] w_ ∧ True) [6, 8, 10] [5, 11] rfl ?_
                refine q_u 0 (panic_then (panic_block (panic_then (panic_then (panic_block (panic_block (panic_then (panic_then (panic_block (panic_then panic_body)))))))))) rfl (by kernel_rfl) W0 (by kernel_rfl) (r_ldA a5 Tryd.underlying23 rfl ti23 rfl rfl) rfl ?_
                refine q_p 1 (panic_then (panic_block (panic_then (panic_then (panic_block (panic_block (panic_then (panic_then (panic_block (panic_then panic_body)))))))))) rfl (by kernel_rfl) W0 (r_ixP (i := 0) Tryd.underlying29 ti3 rfl rfl rfl rfl) rfl ?_
                refine q_u 2 (panic_then (panic_block (panic_then (panic_then (panic_block (panic_block (panic_then (panic_then (panic_block (panic_then panic_body)))))))))) rfl (by kernel_rfl) W0 (by kernel_rfl) (r_ld a0 Tryd.underlying3 rfl rfl rfl) rfl ?_
                refine q_p 3 (panic_then (panic_block (panic_then (panic_then (panic_block (panic_block (panic_then (panic_then (panic_block (panic_then panic_body)))))))))) rfl (by kernel_rfl) W0 (r_ixP (i := 1) Tryd.underlying29 ti3 rfl rfl rfl rfl) rfl ?_
                refine q_u 4 (panic_then (panic_block (panic_then (panic_then (panic_block (panic_block (panic_then (panic_then (panic_block (panic_then panic_body)))))))))) rfl (by kernel_rfl) W0 (by kernel_rfl) (r_ld a0 Tryd.underlying3 rfl rfl rfl) rfl ?_
                refine q_s 6 (panic_then (panic_block (panic_then (panic_then (panic_block (panic_block (panic_then (panic_then (panic_block (panic_then panic_body)))))))))) rfl (by kernel_rfl) W0 (by kernel_rfl) (fun w H => ⟨bk a5 H, bk a0 H, trivial⟩) (b_ldN (fun _ h => h.1) Tryd.underlying23 rfl ti23 rfl (.t (.s (.s (.s .z))))) rfl ?_
                refine q_p 7 (panic_then (panic_block (panic_then (panic_then (panic_block (panic_block (panic_then (panic_then (panic_block (panic_then panic_body)))))))))) rfl (by kernel_rfl) W0 (r_ixP (i := 0) Tryd.underlying29 ti3 rfl rfl rfl rfl) rfl ?_
                refine q_s 8 (panic_then (panic_block (panic_then (panic_then (panic_block (panic_block (panic_then (panic_then (panic_block (panic_then panic_body)))))))))) rfl (by kernel_rfl) W0 (by kernel_rfl) (fun w H => ⟨bk a5 H, bk a0 H, trivial⟩) (b_ld (fun _ h => h.2.1) Tryd.underlying3 rfl rfl rfl) rfl ?_
                refine q_p 9 (panic_then (panic_block (panic_then (panic_then (panic_block (panic_block (panic_then (panic_then (panic_block (panic_then panic_body)))))))))) rfl (by kernel_rfl) W0 (r_ixP (i := 1) Tryd.underlying29 ti3 rfl rfl rfl rfl) rfl ?_
                refine q_s 10 (panic_then (panic_block (panic_then (panic_then (panic_block (panic_block (panic_then (panic_then (panic_block (panic_then panic_body)))))))))) rfl (by kernel_rfl) W0 (by kernel_rfl) (fun w H => ⟨bk a5 H, bk a0 H, trivial⟩) (b_ld (fun _ h => h.2.1) Tryd.underlying3 rfl rfl rfl) rfl ?_
                refine d1 5 rfl (by kernel_rfl) (by kernel_rfl) ?_
                obtain ⟨y370, hy370, h350⟩ := bs h350
                refine t_ca (C11 _ _ _ _ hy370) Tryd.func11 nm11 rfl rfl rfl .nil (fun w Z hA => (V1 a1 hA (V1 a2 hA V0))) rfl fun t371 => ?_
                refine dk (fun w H => ⟨bk a5 H, bk a0 H, trivial⟩) ?_
                refine d1 11 rfl (by kernel_rfl) (by kernel_rfl) ?_
                obtain ⟨y372, hy372, h350⟩ := bs h350
                refine t_ca (C12 _ _ _ _ hy372) Tryd.func12 nm12 rfl rfl rfl .nil (fun w Z hA => (V1 a1 hA (V1 a2 hA V0))) rfl fun t373 => ?_
                refine dn (by kernel_rfl) ?_
                refine q_p 12 (panic_then (panic_block (panic_then (panic_then (panic_block (panic_block (panic_then (panic_then (panic_block (panic_then panic_body)))))))))) rfl (by kernel_rfl) W0 (r_bne Tryd.underlying4 rfl rfl) rfl ?_
                refine dz (by kernel_rfl) ?_
                refine t_then hK369 ?_
                rcases Bool.eq_false_or_eq_true (y370 != y372) with hb374 | hb374
                · replace h350 := itT hb374 h350
                  refine t_T rfl hb374 ?_
                  refine t_seq fun K375 hK376 => ?_
                  refine t_region ?_
                  refine c_p (r_as rfl) rfl ?_
                  refine t_nil ?_
                  refine t_then hK376 ?_
                  refine t_ret ?_
                  refine t_cS (u := el365) (t := ()) k_St29_shutsO hel365 (.cons e1 .nil) rfl (fun w Z hA => trivial) ?_
                  refine t_cS (u := el285) (t := ()) k_api_Rotation_shutsO hel285 (.cons e6 .nil) rfl (fun w Z hA => trivial) ?_
                  exact br (tr (tr (br (br (tr (tr (br (tr (ret1 rfl (v_t rfl) (t_leave (hQ _ (Option.some.inj h350)) () rfl (fun w Z hA => V0) .nil))))))))))
                · replace h350 := itF hb374 h350
                  refine t_F rfl hb374 ?_
                  refine t_skip ?_
                  refine t_blockN ?_
                  refine t_then hK359 ?_
                  refine t_region ?_
                  refine c_p (r_i rfl rfl rfl) rfl ?_
                  refine c_p (r_mv rfl) rfl ?_
                  refine t_nil ?_
                  refine t_cS (u := el365) (t := ()) k_St29_shutsO hel365 (.cons e1 .nil) rfl (fun w Z hA => trivial) ?_
                  exact t_norm (t_go (ih352 (IntKind.wrap .i64 (x348 + 1)) h350) ⟨rfl, rfl, rfl, rfl, rfl, rfl, rfl, rfl, rfl, rfl, rfl, rfl, trivial⟩ (.cons e2 (.cons e2 (.cons e2 (.cons e2 (.cons e2 (.cons e0 .nil)))))) (fun w Z hA => V1 a0 hA (V1 a1 hA (V1 a2 hA (V0)))))
              · replace h350 := itF hb357 h350
                refine t_F rfl hb357 ?_
                refine t_exit ?_
                refine te (te (bx ?_))
                refine t_blockN ?_
                refine t_then hK279 ?_
                refine t_region ?_
                refine c_p (r_i rfl rfl rfl) rfl ?_
                refine c_p (r_mv rfl) rfl ?_
                refine t_nil ?_
                refine t_cS (u := el285) (t := ()) k_api_Rotation_shutsO hel285 (.cons e4 .nil) rfl (fun w Z hA => trivial) ?_
                exact t_norm (t_go (ih272 y294.2 (IntKind.wrap .i64 (x268 + 1)) h350) ⟨rfl, rfl, rfl, rfl, rfl, rfl, rfl, rfl, trivial⟩ (.cons e1 (.cons e1 (.cons e1 (.cons e0 .nil)))) (fun w Z hA => V1 a0 hA (V1 a1 hA (V1 a2 hA (V0)))))
          exact t_go (LP349 (((6 : Int) - (0)).toNat + 1) 0 h270) ⟨rfl, rfl, rfl, rfl, rfl, rfl, rfl, rfl, rfl, rfl, rfl, rfl, trivial⟩ (.cons e6 (.cons e1 (.cons e5 (.cons e3 (.cons e3 (.cons e0 .nil)))))) (fun w Z hA => V1 a0 hA (V1 a1 hA (V1 a2 hA (V0))))
        · replace h270 := itF hb277 h270
          refine t_F rfl hb277 ?_
          refine t_exit ?_
          refine te (te (bx ?_))
          exact t_norm (t_go (J377 h270) ⟨rfl, rfl, trivial⟩ (.cons e0 (.cons e1 .nil)) (fun w Z hA => V1 a1 hA (V1 a2 hA (V0))))
    exact t_go (LP269 (((2 : Int) - (0)).toNat + 1) y44.2 0 h41) ⟨rfl, rfl, rfl, rfl, rfl, rfl, rfl, rfl, trivial⟩ (.cons e3 (.cons e2 (.cons e1 (.cons e0 .nil)))) (fun w Z hA => V1 a0 hA (V1 a1 hA (V1 a2 hA (V0))))
  refine t_region ?_
  refine c_p (r_mv rfl) rfl ?_
  refine nx (t_in (args := [.slice p1 m2 c3, .int .i64 30]) (cap := []) (all := [.slice p1 m2 c3, .int .i64 30]) rfl rfl Tryd.func8 nm8 rfl rfl rfl Tryd.ntmps8 rfl fun R9 k10 hk11 hR12 => ?_)
  have J33 : ∀ (g28 : Nat) (p29 : Option Addr) (m30 : Nat) (c31 : Nat) (x32 : List Int), f_kauditlaw26_RotateDue_j1 z0 z1 z2 x32 = some r → T 78 c [vw (kSlice 5 (kInt .u8)) x32 [.slice p29 m30 c31], g_pow10, g_errs] [[blk g6 [.int .i64 z0.Most, .int .i64 z0.Keep, .int .i64 z0.Action] 23], [blk g28 [.slice p29 m30 c31, .int .i64 0] 53]] [(1, .int .i64 z1), (2, .int .i64 z2), (4, .pointer (some ⟨g6, 0, none⟩)), (16, .pointer (some ⟨g28, 0, none⟩))] k10 := by
    intro g28 p29 m30 c31 x32 h34
    unfold f_kauditlaw26_RotateDue_j1 at h34
    refine ti hk11 ?_
    refine c_p (r_as rfl) rfl ?_
    refine t_nil ?_
    exact t_norm (t_go (J40 g28 p29 m30 c31 x32 h34) ⟨rfl, rfl, rfl, rfl, trivial⟩ (.cons e0 (.cons e0 .nil)) (fun w Z hA => V1 a0 hA (V1 a1 hA (V1 a2 hA (V0)))))
  refine t_seq fun K13 hK14 => ?_
  refine t_region ?_
  refine c_p (r_as rfl) rfl ?_
  refine t_nil ?_
  refine t_then hK14 ?_
  refine t_seq fun K15 hK16 => ?_
  refine t_seq fun K17 hK18 => ?_
  refine t_region ?_
  refine c_p (r_mv rfl) rfl ?_
  refine c_s (r_lnA a0 Tryd.underlying24 rfl) rfl ?_
  refine c_p (r_mv rfl) rfl ?_
  refine c_p (r_i rfl rfl rfl) rfl ?_
  refine t_nil ?_
  refine t_then hK18 ?_
  rcases Bool.eq_false_or_eq_true (decide ((z3.length : Int) > 30)) with hb19 | hb19
  · replace h := itT hb19 h
    refine t_T rfl hb19 ?_
    refine t_region ?_
    refine c_p (r_mv rfl) rfl ?_
    refine c_p (r_mv rfl) rfl ?_
    obtain ⟨hc20, h⟩ := ck_out h
    refine nx (t_cutA (i := 0) (j := 30) a0 Tryd.underlying24 ti5 rfl (.inl ⟨rfl, rfl⟩) (.inr ⟨_, _, rfl, rfl⟩) hc20 rfl fun t21 => ?_)
    refine c_p (r_as rfl) rfl ?_
    refine t_nil ?_
    refine t_then hK16 ?_
    refine t_seq fun K22 hK23 => ?_
    refine t_region ?_
    refine c_p (r_mv rfl) rfl ?_
    refine c_p (r_bu (ps := [(0, .slice t21.1 t21.2.1 t21.2.2)]) (cs := [.slice t21.1 t21.2.1 t21.2.2, .int .i64 0]) rfl (by kernel_rfl)) rfl ?_
    refine nx (t_bx (cs := [.slice t21.1 t21.2.1 t21.2.2, .int .i64 0]) rfl rfl rfl fun g24 => ?_)
    refine c_p (r_as rfl) rfl ?_
    refine t_nil ?_
    refine t_then hK23 ?_
    refine t_ret ?_
    refine ret1 rfl (v_t rfl) (t_bk hR12 ?_)
    exact t_go (J33 g24 t21.1 t21.2.1 t21.2.2 (cut z3 0 30) h) ⟨rfl, rfl, rfl, rfl, trivial⟩ (.cons e1 (.cons e0 .nil)) (fun w Z hA => V1 a0 hA (V1 a2 hA (V1 a3 hA (V0))))
  · replace h := itF hb19 h
    refine t_F rfl hb19 ?_
    refine t_skip ?_
    refine t_then hK16 ?_
    refine t_seq fun K25 hK26 => ?_
    refine t_region ?_
    refine c_p (r_mv rfl) rfl ?_
    refine c_p (r_bu (ps := [(0, .slice p1 m2 c3)]) (cs := [.slice p1 m2 c3, .int .i64 0]) rfl (by kernel_rfl)) rfl ?_
    refine nx (t_bx (cs := [.slice p1 m2 c3, .int .i64 0]) rfl rfl rfl fun g27 => ?_)
    refine c_p (r_as rfl) rfl ?_
    refine t_nil ?_
    refine t_then hK26 ?_
    refine t_ret ?_
    refine ret1 rfl (v_t rfl) (t_bk hR12 ?_)
    exact t_go (J33 g27 p1 m2 c3 z3 h) ⟨rfl, rfl, rfl, rfl, trivial⟩ (.cons e1 (.cons e0 .nil)) (fun w Z hA => V1 a0 hA (V1 a1 hA (V1 a2 hA (V0))))
end Go.Proofs.YtgcigcbhilcgoaaDoor.Gx
