/- Function 4, kaudit/kauditlaw26.RotateKeeps: what it answers as a plain function, and that the Go code comes to exactly that (where the plain function gives an answer). -/
import Derived.Test.YtgcigcbhilcgoaaDoorYT
import Derived.Test.YtgcigcbhilcgoaaDoorY9
import Derived.Test.YtgcigcbhilcgoaaDoorY15
import Derived.Test.YtgcigcbhilcgoaaDoorY16
import Derived.Test.YtgcigcbhilcgoaaDoorY17
import Derived.Test.YtgcigcbhilcgoaaDoorY18
set_option linter.unusedVariables false
set_option linter.unusedSimpArgs false
namespace Go.Proofs.YtgcigcbhilcgoaaDoor.Gx
open Go.Gx Go.RowKit
/-! ### kaudit/kauditlaw26.RotateKeeps: function 4 -/
def f_kauditlaw26_RotateKeeps_j5 : Option (Bool) := (f_kauditlaw26_begun).bind fun y229 => some y229
def f_kauditlaw26_RotateKeeps_l2 (x117 : List Int) (y122 : (List Int)) : Nat → Int → Option (Bool)
  | 0, _ => none
  | k199 + 1, x196 => if (decide (x196 < (y122.length : Int))) = true then ((at_ y122 x196).bind fun el213 => (at_ x117 x196).bind fun el220 => if (el213 != el220) = true then (some false) else (f_kauditlaw26_RotateKeeps_l2 x117 y122 k199 (IntKind.wrap .i64 (x196 + 1)))) else (f_kauditlaw26_RotateKeeps_j5)
def f_kauditlaw26_RotateKeeps_j4 (x117 : List Int) (y122 : (List Int)) : Option (Bool) := f_kauditlaw26_RotateKeeps_l2 x117 y122 ((((y122.length : Int) : Int) - (0)).toNat + 1) 0
def f_kauditlaw26_RotateKeeps_j3 (y43 : api_Rotation × Int) (x117 : List Int) : Option (Bool) := (f_rotate_Drop (⟨y43.1.Most, y43.1.Keep, 1⟩ : api_Rotation) x117).bind fun y122 => if (decide ((IntKind.wrap .i64 ((IntKind.wrap .i64 ((x117.length : Int) - (y122.length : Int))) + 1)) > y43.1.Keep)) = true then (some false) else (if (decide ((y122.length : Int) > (x117.length : Int))) = true then (some false) else (if (decide ((y122.length : Int) > 0)) = true then (if ((IntKind.wrap .i64 ((IntKind.wrap .i64 ((x117.length : Int) - (y122.length : Int))) + 1)) != y43.1.Keep) = true then (some false) else (f_kauditlaw26_RotateKeeps_j4 x117 y122)) else (f_kauditlaw26_RotateKeeps_j4 x117 y122)))
def f_kauditlaw26_RotateKeeps_l1 (x38 : List Int) (y43 : api_Rotation × Int) : Nat → Int → List Int → Int → Option (Bool)
  | 0, _, _, _ => none
  | k101 + 1, x93, x97, x98 => if (decide (x98 > 0)) = true then ((f_kauditmill_Case_Int (⟨x38, x93⟩ : kauditmill_Case) 200).bind fun y110 => (f_kauditref26_Add x97 (IntKind.wrap .i64 (1 + y110.1))).bind fun y112 => f_kauditlaw26_RotateKeeps_l1 x38 y43 k101 y110.2 y112 (IntKind.wrap .i64 (x98 - 1))) else (f_kauditlaw26_RotateKeeps_j3 y43 x97)
def f_kauditlaw26_RotateKeeps_j2 (x38 : List Int) : Option (Bool) := (f_kauditmill_Case_Rotation (⟨x38, 0⟩ : kauditmill_Case)).bind fun y43 => (f_kauditmill_Case_Int (⟨x38, y43.2⟩ : kauditmill_Case) 14).bind fun y54 => f_kauditlaw26_RotateKeeps_l1 x38 y43 (((y54.1 : Int) - (0)).toNat + 1) y54.2 ([] : List Int) y54.1
def f_kauditlaw26_RotateKeeps_j1 (x31 : List Int) : Option (Bool) := f_kauditlaw26_RotateKeeps_j2 x31
def f_kauditlaw26_RotateKeeps (z0 : (List Int)) : Option (Bool) := if (decide ((z0.length : Int) > 60)) = true then (ck (cutOk z0 0 60) <| f_kauditlaw26_RotateKeeps_j1 (cut z0 0 60)) else (f_kauditlaw26_RotateKeeps_j1 z0)
set_option maxHeartbeats 4000000 in
set_option maxRecDepth 100000 in
theorem C4 (z0 : (List Int)) (p1 : Option Addr) (m2 : Nat) (c3 : Nat) (r : Bool) (h : f_kauditlaw26_RotateKeeps z0 = some r) : FunG Tryd.prog 4 #[.slice p1 m2 c3] [vw (kSlice 5 (kInt .u8)) z0 [.slice p1 m2 c3], g_pow10, g_errs] [] (fun (_ : Unit) => .bool r) (fun _ => []) (fun _ => []) := by
  unfold f_kauditlaw26_RotateKeeps at h
  refine t_begin (args := [.slice p1 m2 c3]) Tryd.func4 rfl Tryd.ntmps4 rfl fun c R hR => ?_
  have hQ : ∀ X, X = r → ∀ w2 (_ : Unit), PostG c.w0 w2 c.M c.Y [] [] → R (.returned (.bool X)) w2 := fun X e => by subst e; exact hR
  refine t_seq fun K4 hK5 => ?_
  refine t_region ?_
  refine c_p (r_as rfl) rfl ?_
  refine t_nil ?_
  refine t_then hK5 ?_
  refine t_seq fun K6 hK7 => ?_
  have J39 : ∀ (g34 : Nat) (p35 : Option Addr) (m36 : Nat) (c37 : Nat) (x38 : List Int), f_kauditlaw26_RotateKeeps_j2 x38 = some r → T 76 c [vw (kSlice 5 (kInt .u8)) x38 [.slice p35 m36 c37], g_pow10, g_errs] [[blk g34 [.slice p35 m36 c37, .int .i64 0] 53]] [(3, .pointer (some ⟨g34, 0, none⟩))] K6 := by
    intro g34 p35 m36 c37 x38 h40
    unfold f_kauditlaw26_RotateKeeps_j2 at h40
    refine ti hK7 ?_
    refine t_seq fun K41 hK42 => ?_
    refine t_region ?_
    refine c_p (r_mv rfl) rfl ?_
    obtain ⟨y43, hy43, h40⟩ := bs h40
    refine nx (t_ca (C9 _ _ _ _ _ _ hy43) Tryd.func9 nm9 rfl rfl rfl (.cons e0 .nil) (fun w Z hA => (V1 a0 hA (V1 a1 hA (V1 a2 hA V0)))) rfl fun t44 => ?_)
    refine nx (t_al (cs := [.int .i64 0, .int .i64 0, .int .i64 0]) ti23 rfl rfl fun g45 => ?_)
    refine nx (t_st u0 ti23 rfl rfl rfl rfl rfl (.t (.s (.s (.s .z)))) ?_)
    refine t_nil ?_
    refine t_then hK42 ?_
    refine t_seq fun K46 hK47 => ?_
    refine t_region ?_
    refine c_p (r_fa (off' := 2) Tryd.underlying23 rfl ti3 rfl rfl) rfl ?_
    refine nx (t_st u0 ti3 rfl rfl rfl rfl rfl (.s (.s (.t (.s .z)))) ?_)
    refine t_nil ?_
    refine t_then hK47 ?_
    refine t_seq fun K48 hK49 => ?_
    refine t_region ?_
    refine c_p (r_as rfl) rfl ?_
    refine t_nil ?_
    refine t_then hK49 ?_
    refine t_seq fun K50 hK51 => ?_
    have J118 : ∀ (p114 : Option Addr) (m115 : Nat) (c116 : Nat) (x117 : List Int), f_kauditlaw26_RotateKeeps_j3 y43 x117 = some r → T 76 c [g_pow10, g_errs] [[blk g45 [.int .i64 y43.1.Most, .int .i64 y43.1.Keep, .int .i64 1] 23], [row 3 (kInt .i64) x117 (.slice p114 m115 c116)]] [(4, .pointer (some ⟨g45, 0, none⟩)), (5, .slice p114 m115 c116)] K50 := by
      intro p114 m115 c116 x117 h119
      unfold f_kauditlaw26_RotateKeeps_j3 at h119
      refine ti hK51 ?_
      refine t_seq fun K120 hK121 => ?_
      refine t_region ?_
      refine c_s (r_ldA a0 Tryd.underlying23 rfl ti23 rfl rfl) rfl ?_
      refine c_p (r_mv rfl) rfl ?_
      obtain ⟨y122, hy122, h119⟩ := bs h119
      refine nx (t_cf (C18 _ _ _ _ _ _ hy122) (fun _ => (flat_cons (indK_slice 3 (indK_int .i64)) flat_nil)) Tryd.func18 nm18 rfl rfl rfl .nil (fun w Z S hA hL => (FL a1 hL (F1 a0 hA (F1 a1 hA F0)))) rfl fun t123 => ?_)
      refine c_p (r_as rfl) rfl ?_
      refine t_nil ?_
      refine t_then hK121 ?_
      refine t_seq fun K124 hK125 => ?_
      have J138 : f_kauditlaw26_RotateKeeps_j4 x117 y122 = some r → T 76 c [g_pow10, g_errs] [[row 3 (kInt .i64) x117 (.slice p114 m115 c116)], [row 3 (kInt .i64) y122 (.slice t123.1 t123.2.1 t123.2.2)]] [(5, .slice p114 m115 c116), (7, .slice t123.1 t123.2.1 t123.2.2)] K124 := by
        intro h139
        unfold f_kauditlaw26_RotateKeeps_j4 at h139
        refine ti hK125 ?_
        refine t_seq fun K140 hK141 => ?_
        have J225 : f_kauditlaw26_RotateKeeps_j5 = some r → T 76 c [g_pow10, g_errs] [] [] K140 := by
          intro h226
          unfold f_kauditlaw26_RotateKeeps_j5 at h226
          refine ti hK141 ?_
          refine t_seq fun K227 hK228 => ?_
          refine t_region ?_
          obtain ⟨y229, hy229, h226⟩ := bs h226
          refine nx (t_ca (C15 _ hy229) Tryd.func15 nm15 rfl rfl rfl .nil (fun w Z hA => (V1 a0 hA (V1 a1 hA V0))) rfl fun t230 => ?_)
          refine c_p (r_as rfl) rfl ?_
          refine t_nil ?_
          refine t_then hK228 ?_
          refine t_ret ?_
          exact ret1 rfl (v_t rfl) (t_leave (hQ _ (Option.some.inj h226)) () rfl (fun w Z hA => V0) .nil)
        refine t_seq fun K142 hK143 => ?_
        refine t_region ?_
        refine c_p (r_mv rfl) rfl ?_
        refine c_s (r_lnL a1 Tryd.underlying36 rfl) rfl ?_
        refine c_p (r_mv rfl) rfl ?_
        refine t_nil ?_
        refine t_then hK143 ?_
        refine t_block ?_
        refine t_lp fun k194 hk195 => ?_
        have LP197 : ∀ (k199 : Nat) (x196 : Int), f_kauditlaw26_RotateKeeps_l2 x117 y122 k199 x196 = some r → T 76 c [g_pow10, g_errs] [[row 3 (kInt .i64) x117 (.slice p114 m115 c116)], [row 3 (kInt .i64) y122 (.slice t123.1 t123.2.1 t123.2.2)]] [(5, .slice p114 m115 c116), (61, .slice t123.1 t123.2.1 t123.2.2), (62, .int .i64 (y122.length : Int)), (63, .int .i64 x196)] k194 := by
          intro k199
          induction k199 with
          | zero => intro x196 h198; rewrite [f_kauditlaw26_RotateKeeps_l2] at h198; cases h198
          | succ k199 ih200 =>
            intro x196 h198
            rewrite [f_kauditlaw26_RotateKeeps_l2] at h198
            refine ti hk195 ?_
            refine t_seq fun K201 hK202 => ?_
            refine t_region ?_
            refine c_p (r_i rfl rfl rfl) rfl ?_
            refine t_nil ?_
            refine t_then hK202 ?_
            refine t_seq fun K203 hK204 => ?_
            rcases Bool.eq_false_or_eq_true (decide (x196 < (y122.length : Int))) with hb205 | hb205
            · replace h198 := itT hb205 h198
              refine t_T rfl hb205 ?_
              refine t_skip ?_
              refine t_then hK204 ?_
              refine t_seq fun K206 hK207 => ?_
              refine t_block ?_
              refine t_seq fun K208 hK209 => ?_
              refine t_region ?_
              refine c_p (r_mv rfl) rfl ?_
              obtain ⟨el213, hel213, h198⟩ := bs h198
              refine t_qL a1 hel213 fun q210 hq211 hm212 => ?_
              refine c_p (r_idx hq211 hm212 hel213 Tryd.underlying36 ti3 rfl rfl) rfl ?_
              refine t_oI (opensO_int .i64) e1 hel213 fun t214 => ?_
              refine c_s (r_h1 a0 hq211 Tryd.underlying3 rfl rfl rfl) rfl ?_
              refine c_p (r_as rfl) rfl ?_
              refine c_p (r_as rfl) rfl ?_
              refine t_nil ?_
              refine t_then hK209 ?_
              refine t_seq fun K215 hK216 => ?_
              refine t_region ?_
              refine c_p (r_mv rfl) rfl ?_
              refine c_p (r_mv rfl) rfl ?_
              refine c_p (r_mv rfl) rfl ?_
              obtain ⟨el220, hel220, h198⟩ := bs h198
              refine t_qL a1 hel220 fun q217 hq218 hm219 => ?_
              refine c_p (r_idx hq218 hm219 hel220 Tryd.underlying36 ti3 rfl rfl) rfl ?_
              refine t_oI (opensO_int .i64) e1 hel220 fun t221 => ?_
              refine c_s (r_h1 a0 hq218 Tryd.underlying3 rfl rfl rfl) rfl ?_
              refine c_p (r_i rfl rfl rfl) rfl ?_
              refine t_nil ?_
              refine t_then hK216 ?_
              rcases Bool.eq_false_or_eq_true (el213 != el220) with hb222 | hb222
              · replace h198 := itT hb222 h198
                refine t_T rfl hb222 ?_
                refine t_seq fun K223 hK224 => ?_
                refine t_region ?_
                refine c_p (r_as rfl) rfl ?_
                refine t_nil ?_
                refine t_then hK224 ?_
                refine t_ret ?_
                refine t_cS (u := el220) (t := ()) (shutsO_int .i64) hel220 (.cons e0 .nil) rfl (fun w Z hA => trivial) ?_
                refine t_cS (u := el213) (t := ()) (shutsO_int .i64) hel213 (.cons e1 .nil) rfl (fun w Z hA => trivial) ?_
                exact br (tr (tr (br (tr (ret1 rfl (v_t rfl) (t_leave (hQ _ (Option.some.inj h198)) () rfl (fun w Z hA => V0) .nil))))))
              · replace h198 := itF hb222 h198
                refine t_F rfl hb222 ?_
                refine t_skip ?_
                refine t_blockN ?_
                refine t_then hK207 ?_
                refine t_region ?_
                refine c_p (r_i rfl rfl rfl) rfl ?_
                refine c_p (r_mv rfl) rfl ?_
                refine t_nil ?_
                refine t_cS (u := el220) (t := ()) (shutsO_int .i64) hel220 (.cons e0 .nil) rfl (fun w Z hA => trivial) ?_
                refine t_cS (u := el213) (t := ()) (shutsO_int .i64) hel213 (.cons e1 .nil) rfl (fun w Z hA => trivial) ?_
                exact t_norm (t_go (ih200 (IntKind.wrap .i64 (x196 + 1)) h198) ⟨rfl, rfl, rfl, rfl, trivial⟩ (.cons e1 (.cons e0 .nil)) (fun w Z hA => V1 a0 hA (V1 a1 hA (V0))))
            · replace h198 := itF hb205 h198
              refine t_F rfl hb205 ?_
              refine t_exit ?_
              refine te (te (bx ?_))
              exact t_norm (t_go (J225 h198) trivial .nil (fun w Z hA => V1 a0 hA (V1 a1 hA (V0))))
        exact t_go (LP197 ((((y122.length : Int) : Int) - (0)).toNat + 1) 0 h139) ⟨rfl, rfl, rfl, rfl, trivial⟩ (.cons e0 (.cons e0 .nil)) (fun w Z hA => V1 a0 hA (V1 a1 hA (V0)))
      refine t_seq fun K126 hK127 => ?_
      refine t_region ?_
      refine c_p (r_mv rfl) rfl ?_
      refine c_s (r_lnL a2 Tryd.underlying36 rfl) rfl ?_
      refine c_p (r_mv rfl) rfl ?_
      refine c_s (r_lnL a0 Tryd.underlying36 rfl) rfl ?_
      refine c_p (r_i rfl rfl rfl) rfl ?_
      refine c_p (r_i rfl rfl rfl) rfl ?_
      refine c_p (r_fa (off' := 1) Tryd.underlying23 rfl ti3 rfl rfl) rfl ?_
      refine c_s (r_ld a1 Tryd.underlying3 rfl rfl rfl) rfl ?_
      refine c_p (r_i rfl rfl rfl) rfl ?_
      refine c_p (r_mv rfl) rfl ?_
      rcases Bool.eq_false_or_eq_true (decide ((IntKind.wrap .i64 ((IntKind.wrap .i64 ((x117.length : Int) - (y122.length : Int))) + 1)) > y43.1.Keep)) with hb128 | hb128
      · replace h119 := itT hb128 h119
        refine nx (pass rfl rfl hb128 rfl ?_)
        refine nx (pass rfl rfl hb128 rfl ?_)
        refine nx (pass rfl rfl hb128 rfl ?_)
        refine nx (pass rfl rfl hb128 rfl ?_)
        refine nx (pass rfl rfl hb128 rfl ?_)
        refine c_p (r_pT rfl hb128 rfl) rfl ?_
        refine c_p (r_mv rfl) rfl ?_
        refine nx (pass rfl rfl rfl rfl ?_)
        refine nx (pass rfl rfl rfl rfl ?_)
        refine nx (pass rfl rfl rfl rfl ?_)
        refine nx (pass rfl rfl rfl rfl ?_)
        refine nx (passU rfl rfl rfl ?_)
        refine nx (passU rfl rfl rfl ?_)
        refine nx (passU rfl rfl rfl ?_)
        refine nx (passU rfl rfl rfl ?_)
        refine nx (passU rfl rfl rfl ?_)
        refine nx (passU rfl rfl rfl ?_)
        refine nx (passU rfl rfl rfl ?_)
        refine nx (passU rfl rfl rfl ?_)
        refine nx (passU rfl rfl rfl ?_)
        refine nx (pass rfl rfl rfl rfl ?_)
        refine c_p (r_pT rfl rfl rfl) rfl ?_
        refine t_nil ?_
        refine t_then hK127 ?_
        refine t_T rfl rfl ?_
        refine t_seq fun K131 hK132 => ?_
        refine t_region ?_
        refine c_p (r_as rfl) rfl ?_
        refine t_nil ?_
        refine t_then hK132 ?_
        refine t_ret ?_
        exact tr (ret1 rfl (v_t rfl) (t_leave (hQ _ (Option.some.inj h119)) () rfl (fun w Z hA => V0) .nil))
      · replace h119 := itF hb128 h119
        refine nx (gd rfl rfl hb128 (sp (r_mv rfl) rfl ?_))
        refine nx (gd rfl rfl hb128 (ss (r_lnL a0 Tryd.underlying36 rfl) rfl ?_))
        refine nx (gd rfl rfl hb128 (sp (r_mv rfl) rfl ?_))
        refine nx (gd rfl rfl hb128 (ss (r_lnL a2 Tryd.underlying36 rfl) rfl ?_))
        refine nx (gd rfl rfl hb128 (sp (r_i rfl rfl rfl) rfl ?_))
        refine c_p (r_pF rfl hb128 rfl) rfl ?_
        refine c_p (r_mv rfl) rfl ?_
        rcases Bool.eq_false_or_eq_true (decide ((y122.length : Int) > (x117.length : Int))) with hb129 | hb129
        · replace h119 := itT hb129 h119
          refine nx (pass rfl rfl hb129 rfl ?_)
          refine nx (pass rfl rfl hb129 rfl ?_)
          refine nx (pass rfl rfl hb129 rfl ?_)
          refine nx (pass rfl rfl hb129 rfl ?_)
          refine nx (passU rfl rfl rfl ?_)
          refine nx (passU rfl rfl rfl ?_)
          refine nx (passU rfl rfl rfl ?_)
          refine nx (passU rfl rfl rfl ?_)
          refine nx (passU rfl rfl rfl ?_)
          refine nx (passU rfl rfl rfl ?_)
          refine nx (passU rfl rfl rfl ?_)
          refine nx (passU rfl rfl rfl ?_)
          refine nx (passU rfl rfl rfl ?_)
          refine nx (pass rfl rfl hb129 rfl ?_)
          refine c_p (r_pT rfl hb129 rfl) rfl ?_
          refine t_nil ?_
          refine t_then hK127 ?_
          refine t_T rfl rfl ?_
          refine t_seq fun K133 hK134 => ?_
          refine t_region ?_
          refine c_p (r_as rfl) rfl ?_
          refine t_nil ?_
          refine t_then hK134 ?_
          refine t_ret ?_
          exact tr (ret1 rfl (v_t rfl) (t_leave (hQ _ (Option.some.inj h119)) () rfl (fun w Z hA => V0) .nil))
        · replace h119 := itF hb129 h119
          refine nx (gd rfl rfl hb129 (sp (r_mv rfl) rfl ?_))
          refine nx (gd rfl rfl hb129 (ss (r_lnL a0 Tryd.underlying36 rfl) rfl ?_))
          refine nx (gd rfl rfl hb129 (sp (r_i rfl rfl rfl) rfl ?_))
          refine nx (gd rfl rfl hb129 (sp (r_mv rfl) rfl ?_))
          rcases Bool.eq_false_or_eq_true (decide ((y122.length : Int) > 0)) with hb130 | hb130
          · replace h119 := itT hb130 h119
            refine nx (gd rfl rfl hb130 (sp (r_mv rfl) rfl ?_))
            refine nx (gd rfl rfl hb130 (ss (r_lnL a2 Tryd.underlying36 rfl) rfl ?_))
            refine nx (gd rfl rfl hb130 (sp (r_mv rfl) rfl ?_))
            refine nx (gd rfl rfl hb130 (ss (r_lnL a0 Tryd.underlying36 rfl) rfl ?_))
            refine nx (gd rfl rfl hb130 (sp (r_i rfl rfl rfl) rfl ?_))
            refine nx (gd rfl rfl hb130 (sp (r_i rfl rfl rfl) rfl ?_))
            refine nx (gd rfl rfl hb130 (sp (r_fa (off' := 1) Tryd.underlying23 rfl ti3 rfl rfl) rfl ?_))
            refine nx (gd rfl rfl hb130 (ss (r_ld a1 Tryd.underlying3 rfl rfl rfl) rfl ?_))
            refine nx (gd rfl rfl hb130 (sp (r_i rfl rfl rfl) rfl ?_))
            refine nx (gd rfl rfl hb129 (sp (r_pT rfl hb130 rfl) rfl ?_))
            refine c_p (r_pF rfl hb129 rfl) rfl ?_
            refine t_nil ?_
            refine t_then hK127 ?_
            rcases Bool.eq_false_or_eq_true ((IntKind.wrap .i64 ((IntKind.wrap .i64 ((x117.length : Int) - (y122.length : Int))) + 1)) != y43.1.Keep) with hb135 | hb135
            · replace h119 := itT hb135 h119
              refine t_T rfl hb135 ?_
              refine t_seq fun K136 hK137 => ?_
              refine t_region ?_
              refine c_p (r_as rfl) rfl ?_
              refine t_nil ?_
              refine t_then hK137 ?_
              refine t_ret ?_
              exact tr (ret1 rfl (v_t rfl) (t_leave (hQ _ (Option.some.inj h119)) () rfl (fun w Z hA => V0) .nil))
            · replace h119 := itF hb135 h119
              refine t_F rfl hb135 ?_
              refine t_skip ?_
              exact t_norm (t_go (J138 h119) ⟨rfl, rfl, trivial⟩ (.cons e2 (.cons e0 .nil)) (fun w Z hA => V1 a0 hA (V1 a1 hA (V0))))
          · replace h119 := itF hb130 h119
            refine nx (pass rfl rfl hb130 rfl ?_)
            refine nx (pass rfl rfl hb130 rfl ?_)
            refine nx (pass rfl rfl hb130 rfl ?_)
            refine nx (pass rfl rfl hb130 rfl ?_)
            refine nx (pass rfl rfl hb130 rfl ?_)
            refine nx (pass rfl rfl hb130 rfl ?_)
            refine nx (pass rfl rfl hb130 rfl ?_)
            refine nx (pass rfl rfl hb130 rfl ?_)
            refine nx (pass rfl rfl hb130 rfl ?_)
            refine nx (gd rfl rfl hb129 (sp (r_pF rfl hb130 rfl) rfl ?_))
            refine c_p (r_pF rfl hb129 rfl) rfl ?_
            refine t_nil ?_
            refine t_then hK127 ?_
            refine t_F rfl rfl ?_
            refine t_skip ?_
            exact t_norm (t_go (J138 h119) ⟨rfl, rfl, trivial⟩ (.cons e2 (.cons e0 .nil)) (fun w Z hA => V1 a0 hA (V1 a1 hA (V0))))
    refine t_seq fun K52 hK53 => ?_
    refine t_region ?_
    refine c_p (r_mv rfl) rfl ?_
    obtain ⟨y54, hy54, h40⟩ := bs h40
    refine nx (t_ca (C16 _ _ _ _ _ _ _ hy54) Tryd.func16 nm16 rfl rfl rfl (.cons e1 .nil) (fun w Z hA => (V1 a0 hA (V1 a1 hA (V1 a2 hA V0)))) rfl fun t55 => ?_)
    refine c_p (r_as rfl) rfl ?_
    refine t_nil ?_
    refine t_then hK53 ?_
    refine t_block ?_
    refine t_nr 3 (kInt .i64) ?_
    refine t_lp fun k91 hk92 => ?_
    have LP99 : ∀ (k101 : Nat) (x93 : Int) (p94 : Option Addr) (m95 : Nat) (c96 : Nat) (x97 : List Int) (x98 : Int), f_kauditlaw26_RotateKeeps_l1 x38 y43 k101 x93 x97 x98 = some r → T 76 c [vw (kSlice 5 (kInt .u8)) x38 [.slice p35 m36 c37], g_pow10, g_errs] [[blk g34 [.slice p35 m36 c37, .int .i64 x93] 53], [blk g45 [.int .i64 y43.1.Most, .int .i64 y43.1.Keep, .int .i64 1] 23], [row 3 (kInt .i64) x97 (.slice p94 m95 c96)]] [(3, .pointer (some ⟨g34, 0, none⟩)), (4, .pointer (some ⟨g45, 0, none⟩)), (5, .slice p94 m95 c96), (6, .int .i64 x98)] k91 := by
      intro k101
      induction k101 with
      | zero => intro x93 p94 m95 c96 x97 x98 h100; rewrite [f_kauditlaw26_RotateKeeps_l1] at h100; cases h100
      | succ k101 ih102 =>
        intro x93 p94 m95 c96 x97 x98 h100
        rewrite [f_kauditlaw26_RotateKeeps_l1] at h100
        refine ti hk92 ?_
        refine t_seq fun K103 hK104 => ?_
        refine t_seq fun K105 hK106 => ?_
        refine t_region ?_
        refine c_p (r_mv rfl) rfl ?_
        refine c_p (r_i rfl rfl rfl) rfl ?_
        refine t_nil ?_
        refine t_then hK106 ?_
        rcases Bool.eq_false_or_eq_true (decide (x98 > 0)) with hb107 | hb107
        · replace h100 := itT hb107 h100
          refine t_T rfl hb107 ?_
          refine t_skip ?_
          refine t_then hK104 ?_
          refine t_seq fun K108 hK109 => ?_
          refine t_block ?_
          refine t_region ?_
          refine c_p (r_mv rfl) rfl ?_
          refine c_p (r_mv rfl) rfl ?_
          obtain ⟨y110, hy110, h100⟩ := bs h100
          refine nx (t_ca (C16 _ _ _ _ _ _ _ hy110) Tryd.func16 nm16 rfl rfl rfl (.cons e0 .nil) (fun w Z hA => (V1 a0 hA (V1 a1 hA (V1 a2 hA V0)))) rfl fun t111 => ?_)
          refine c_p (r_i rfl rfl rfl) rfl ?_
          obtain ⟨y112, hy112, h100⟩ := bs h100
          refine nx (t_cf (C17 _ _ _ _ _ _ hy112) (fun _ => (flat_cons (indK_slice 3 (indK_int .i64)) flat_nil)) Tryd.func17 nm17 rfl rfl rfl .nil (fun w Z S hA hL => (FL a2 hL (F1 a1 hA (F1 a2 hA F0)))) rfl fun t113 => ?_)
          refine c_p (r_as rfl) rfl ?_
          refine t_nil ?_
          refine t_blockN ?_
          refine t_then hK109 ?_
          refine t_region ?_
          refine c_p (r_mv rfl) rfl ?_
          refine c_p (r_i rfl rfl rfl) rfl ?_
          refine c_p (r_as rfl) rfl ?_
          refine t_nil ?_
          exact t_norm (t_go (ih102 y110.2 t113.1 t113.2.1 t113.2.2 y112 (IntKind.wrap .i64 (x98 - 1)) h100) ⟨rfl, rfl, rfl, rfl, trivial⟩ (.cons e1 (.cons e1 (.cons e0 .nil))) (fun w Z hA => V1 a0 hA (V1 a1 hA (V1 a2 hA (V0)))))
        · replace h100 := itF hb107 h100
          refine t_F rfl hb107 ?_
          refine t_exit ?_
          refine te (te (bx ?_))
          exact t_norm (t_go (J118 p94 m95 c96 x97 h100) ⟨rfl, rfl, trivial⟩ (.cons e1 (.cons e1 .nil)) (fun w Z hA => V1 a1 hA (V1 a2 hA (V0))))
    exact t_go (LP99 (((y54.1 : Int) - (0)).toNat + 1) y54.2 none 0 0 ([] : List Int) y54.1 h40) ⟨rfl, rfl, rfl, rfl, trivial⟩ (.cons e1 (.cons e1 (.cons e0 .nil))) (fun w Z hA => V1 a0 hA (V1 a1 hA (V1 a2 hA (V0))))
  refine t_region ?_
  refine c_p (r_mv rfl) rfl ?_
  refine nx (t_in (args := [.slice p1 m2 c3, .int .i64 60]) (cap := []) (all := [.slice p1 m2 c3, .int .i64 60]) rfl rfl Tryd.func8 nm8 rfl rfl rfl Tryd.ntmps8 rfl fun R8 k9 hk10 hR11 => ?_)
  have J32 : ∀ (g27 : Nat) (p28 : Option Addr) (m29 : Nat) (c30 : Nat) (x31 : List Int), f_kauditlaw26_RotateKeeps_j1 x31 = some r → T 76 c [vw (kSlice 5 (kInt .u8)) x31 [.slice p28 m29 c30], g_pow10, g_errs] [[blk g27 [.slice p28 m29 c30, .int .i64 0] 53]] [(11, .pointer (some ⟨g27, 0, none⟩))] k9 := by
    intro g27 p28 m29 c30 x31 h33
    unfold f_kauditlaw26_RotateKeeps_j1 at h33
    refine ti hk10 ?_
    refine c_p (r_as rfl) rfl ?_
    refine t_nil ?_
    exact t_norm (t_go (J39 g27 p28 m29 c30 x31 h33) ⟨rfl, trivial⟩ (.cons e0 .nil) (fun w Z hA => V1 a0 hA (V1 a1 hA (V1 a2 hA (V0)))))
  refine t_seq fun K12 hK13 => ?_
  refine t_region ?_
  refine c_p (r_as rfl) rfl ?_
  refine t_nil ?_
  refine t_then hK13 ?_
  refine t_seq fun K14 hK15 => ?_
  refine t_seq fun K16 hK17 => ?_
  refine t_region ?_
  refine c_p (r_mv rfl) rfl ?_
  refine c_s (r_lnA a0 Tryd.underlying24 rfl) rfl ?_
  refine c_p (r_mv rfl) rfl ?_
  refine c_p (r_i rfl rfl rfl) rfl ?_
  refine t_nil ?_
  refine t_then hK17 ?_
  rcases Bool.eq_false_or_eq_true (decide ((z0.length : Int) > 60)) with hb18 | hb18
  · replace h := itT hb18 h
    refine t_T rfl hb18 ?_
    refine t_region ?_
    refine c_p (r_mv rfl) rfl ?_
    refine c_p (r_mv rfl) rfl ?_
    obtain ⟨hc19, h⟩ := ck_out h
    refine nx (t_cutA (i := 0) (j := 60) a0 Tryd.underlying24 ti5 rfl (.inl ⟨rfl, rfl⟩) (.inr ⟨_, _, rfl, rfl⟩) hc19 rfl fun t20 => ?_)
    refine c_p (r_as rfl) rfl ?_
    refine t_nil ?_
    refine t_then hK15 ?_
    refine t_seq fun K21 hK22 => ?_
    refine t_region ?_
    refine c_p (r_mv rfl) rfl ?_
    refine c_p (r_bu (ps := [(0, .slice t20.1 t20.2.1 t20.2.2)]) (cs := [.slice t20.1 t20.2.1 t20.2.2, .int .i64 0]) rfl (by kernel_rfl)) rfl ?_
    refine nx (t_bx (cs := [.slice t20.1 t20.2.1 t20.2.2, .int .i64 0]) rfl rfl rfl fun g23 => ?_)
    refine c_p (r_as rfl) rfl ?_
    refine t_nil ?_
    refine t_then hK22 ?_
    refine t_ret ?_
    refine ret1 rfl (v_t rfl) (t_bk hR11 ?_)
    exact t_go (J32 g23 t20.1 t20.2.1 t20.2.2 (cut z0 0 60) h) ⟨rfl, trivial⟩ (.cons e0 .nil) (fun w Z hA => V1 a0 hA (V1 a2 hA (V1 a3 hA (V0))))
  · replace h := itF hb18 h
    refine t_F rfl hb18 ?_
    refine t_skip ?_
    refine t_then hK15 ?_
    refine t_seq fun K24 hK25 => ?_
    refine t_region ?_
    refine c_p (r_mv rfl) rfl ?_
    refine c_p (r_bu (ps := [(0, .slice p1 m2 c3)]) (cs := [.slice p1 m2 c3, .int .i64 0]) rfl (by kernel_rfl)) rfl ?_
    refine nx (t_bx (cs := [.slice p1 m2 c3, .int .i64 0]) rfl rfl rfl fun g26 => ?_)
    refine c_p (r_as rfl) rfl ?_
    refine t_nil ?_
    refine t_then hK25 ?_
    refine t_ret ?_
    refine ret1 rfl (v_t rfl) (t_bk hR11 ?_)
    exact t_go (J32 g26 p1 m2 c3 z0 h) ⟨rfl, trivial⟩ (.cons e0 .nil) (fun w Z hA => V1 a0 hA (V1 a1 hA (V1 a2 hA (V0))))
end Go.Proofs.YtgcigcbhilcgoaaDoor.Gx
