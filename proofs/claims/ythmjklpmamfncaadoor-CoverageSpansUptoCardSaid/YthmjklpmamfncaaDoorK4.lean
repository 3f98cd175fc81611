/- K4: the texts Y24, Y25, Y26, Y12, PSpanB, Y33, Y28, HLays, Y27, PNum, Y13, Y14, PSpanF, Y35, Y36, Y63, Y64, Y49, Y65, Y50, joined. -/
import Derived.Shelf.Strconv.Itoa3
import Derived.Shelf.Sort.Plain
import Derived.Shelf.Slices.In.SortNone
import Derived.Shelf.Slices.CompactI
import Derived.Ground.NamesProg
import Derived.Test.YthmjklpmamfncaaDoorProg
import Derived.Lib.ItoaNum
import Derived.Test.YthmjklpmamfncaaDoorK2
import Derived.Test.YthmjklpmamfncaaDoorK3
/- Function 24, kaudit/kauditref40.put: what it answers as a plain function, and that the Go code comes to exactly that (where the plain function gives an answer). -/
set_option linter.unusedVariables false
set_option linter.unusedSimpArgs false
namespace Go.Proofs.YthmjklpmamfncaaDoor.Gx
open Go.Gx Go.RowKit
noncomputable section
/-! ### kaudit/kauditref40.put: function 24 -/
def f_kauditref40_put_j2 (z0 : (List Int)) (z1 : Int) (x52 : Int) : Option ((List Int)) := ck (cutOk z0 0 x52) <| ck (cutOk z0 x52 (z0.length : Int)) <| ck (fits (([] : List Int).length + (cut z0 0 x52).length) 8 = true) <| ck (fits ((([] : List Int) ++ (cut z0 0 x52)).length + [z1].length) 8 = true) <| ck (fits (((([] : List Int) ++ (cut z0 0 x52)) ++ [z1]).length + (cut z0 x52 (z0.length : Int)).length) 8 = true) <| some (((([] : List Int) ++ (cut z0 0 x52)) ++ [z1]) ++ (cut z0 x52 (z0.length : Int)))
def f_kauditref40_put_j1 (z0 : (List Int)) (z1 : Int) (x52 : Int) : Option ((List Int)) := if (decide (x52 > 0)) = true then ((at_ z0 (IntKind.wrap .i64 (x52 - 1))).bind fun el63 => if (el63 == z1) = true then (some z0) else (f_kauditref40_put_j2 z0 z1 x52)) else (f_kauditref40_put_j2 z0 z1 x52)
def f_kauditref40_put_l1 (z0 : (List Int)) (z1 : Int) : Nat → Int → Option ((List Int))
  | 0, _ => none
  | k39 + 1, x36 => if (decide (x36 > 0)) = true then ((at_ z0 (IntKind.wrap .i64 (x36 - 1))).bind fun el49 => if (decide (el49 > z1)) = true then (f_kauditref40_put_l1 z0 z1 k39 (IntKind.wrap .i64 (x36 - 1))) else (f_kauditref40_put_j1 z0 z1 x36)) else (f_kauditref40_put_j1 z0 z1 x36)
def f_kauditref40_put (z0 : (List Int)) (z1 : Int) : Option ((List Int)) := f_kauditref40_put_l1 z0 z1 ((((z0.length : Int) : Int) - (0)).toNat + 1) (z0.length : Int)
set_option maxHeartbeats 4000000 in
set_option maxRecDepth 100000 in
theorem C24 (z0 : (List Int)) (z1 : Int) (p1 : Option Addr) (m2 : Nat) (c3 : Nat) (r : (List Int)) (h : f_kauditref40_put z0 z1 = some r) : FunG Tryd.prog 24 #[.slice p1 m2 c3, .int .i64 z1] [vw (kSlice 3 (kInt .i64)) z0 [.slice p1 m2 c3], g_pow10, g_kinds] [] (fun t : (Option Addr × Nat × Nat) => .slice t.1 t.2.1 t.2.2) (fun t => [vw (kSlice 3 (kInt .i64)) r [.slice t.1 t.2.1 t.2.2]]) (fun t => []) := by
  unfold f_kauditref40_put at h
  refine t_begin (args := [.slice p1 m2 c3, .int .i64 z1]) Tryd.func24 rfl Tryd.ntmps24 rfl fun c R hR => ?_
  have hQ : ∀ X, X = r → ∀ w2 (t : (Option Addr × Nat × Nat)), PostG c.w0 w2 c.M c.Y [vw (kSlice 3 (kInt .i64)) X [.slice t.1 t.2.1 t.2.2]] [] → R (.returned (.slice t.1 t.2.1 t.2.2)) w2 := fun X e => by subst e; exact hR
  refine t_seq fun K4 hK5 => ?_
  refine t_region ?_
  refine c_p (r_as rfl) rfl ?_
  refine t_nil ?_
  refine t_then hK5 ?_
  refine t_seq fun K6 hK7 => ?_
  refine t_region ?_
  refine c_p (r_mv rfl) rfl ?_
  refine c_s (r_lnA a0 Tryd.underlying49 rfl) rfl ?_
  refine c_p (r_as rfl) rfl ?_
  refine t_nil ?_
  refine t_then hK7 ?_
  refine t_seq fun K8 hK9 => ?_
  have J53 : ∀ (x52 : Int), f_kauditref40_put_j1 z0 z1 x52 = some r → T 45 c [vw (kSlice 3 (kInt .i64)) z0 [.slice p1 m2 c3], g_pow10, g_kinds] [] [(0, .slice p1 m2 c3), (1, .int .i64 z1), (5, .int .i64 x52)] K8 := by
    intro x52 h54
    unfold f_kauditref40_put_j1 at h54
    refine ti hK9 ?_
    refine t_seq fun K55 hK56 => ?_
    have J68 : f_kauditref40_put_j2 z0 z1 x52 = some r → T 45 c [vw (kSlice 3 (kInt .i64)) z0 [.slice p1 m2 c3], g_pow10, g_kinds] [] [(0, .slice p1 m2 c3), (1, .int .i64 z1), (5, .int .i64 x52)] K55 := by
      intro h69
      unfold f_kauditref40_put_j2 at h69
      refine ti hK56 ?_
      refine t_seq fun K70 hK71 => ?_
      refine t_draw mixed (fun w_ => True) [] [0, 4, 6, 7, 11] rfl ?_
      refine t_nameW (fun w_ => True) [] [0, 4, 6, 7, 11] fun W72 hW73 => ?_
      have J90 : ∀ (hc74 : cutOk z0 0 x52) (hc77 : cutOk z0 x52 (z0.length : Int)) (t78 : Option Addr × Nat × Nat) (hc82 : fits (([] : List Int).length + (cut z0 0 x52).length) 8 = true) (t83 : Option Addr × Nat × Nat) (g86 : Nat), (ck (fits ((([] : List Int) ++ (cut z0 0 x52)).length + [z1].length) 8 = true) <| ck (fits (((([] : List Int) ++ (cut z0 0 x52)) ++ [z1]).length + (cut z0 x52 (z0.length : Int)).length) 8 = true) <| some (((([] : List Int) ++ (cut z0 0 x52)) ++ [z1]) ++ (cut z0 x52 (z0.length : Int)))) = some r → T 45 c [vw (kSlice 3 (kInt .i64)) (cut z0 x52 (z0.length : Int)) [.slice t78.1 t78.2.1 t78.2.2], vw (kSlice 3 (kInt .i64)) z0 [.slice p1 m2 c3], g_pow10, g_kinds] [[blk g86 [.int .i64 z1] 3], [row 3 (kInt .i64) (([] : List Int) ++ (cut z0 0 x52)) (.slice t83.1 t83.2.1 t83.2.2)]] [(37, .slice t83.1 t83.2.1 t83.2.2), (39, .slice (some ⟨g86, 0, none⟩) 1 1), (43, .slice t78.1 t78.2.1 t78.2.2)] (W72 3 #[true, true, true, true, true, true, true, false, true, true, true, false, false]) := by
        intro hc74 hc77 t78 hc82 t83 g86 h69
        refine t_W hW73 ?_
        refine d1 7 rfl (by kernel_rfl) (by kernel_rfl) ?_
        obtain ⟨hc91, h69⟩ := ck_out h69
        refine t_app (Kd := (kInt .i64)) (xs := (([] : List Int) ++ (cut z0 0 x52))) (ys := [z1]) (.cons e1 .nil) rfl rfl Tryd.underlying49 Tryd.underlying49 ti3 rfl rfl hc91 (srcB a0 (fun w Z S hA hN => flat_EO (S := Nil) (flatK_int .i64) (er1 (c1 := [.int .i64 z1]) rfl er0))) rfl fun t92 => ?_
        refine dn (by kernel_rfl) ?_
        refine d1 11 rfl (by kernel_rfl) (by kernel_rfl) ?_
        obtain ⟨hc93, h69⟩ := ck_out h69
        refine t_app (Kd := (kInt .i64)) (xs := ((([] : List Int) ++ (cut z0 0 x52)) ++ [z1])) (ys := (cut z0 x52 (z0.length : Int))) (.cons e0 .nil) rfl rfl Tryd.underlying49 Tryd.underlying49 ti3 rfl rfl hc93 (srcA (flatK_int .i64) a0) rfl fun t94 => ?_
        refine dn (by kernel_rfl) ?_
        refine q_p 12 (panic_then panic_body) rfl (by kernel_rfl) W0 (r_as rfl) rfl ?_
        refine dz (by kernel_rfl) ?_
        refine t_then hK71 ?_
        refine t_ret ?_
        refine t_sh e0 ?_
        exact ret1 rfl (v_t rfl) (t_leave (hQ _ (Option.some.inj h69)) (t94.1, t94.2.1, t94.2.2) rfl (fun w Z hA => (V1 a0 hA V0)) .nil)
      have J87 : ∀ (hc74 : cutOk z0 0 x52) (t75 : Option Addr × Nat × Nat) (hc77 : cutOk z0 x52 (z0.length : Int)) (t78 : Option Addr × Nat × Nat) (g80 : Nat) (g84 : Nat), (ck (fits (([] : List Int).length + (cut z0 0 x52).length) 8 = true) <| ck (fits ((([] : List Int) ++ (cut z0 0 x52)).length + [z1].length) 8 = true) <| ck (fits (((([] : List Int) ++ (cut z0 0 x52)) ++ [z1]).length + (cut z0 x52 (z0.length : Int)).length) 8 = true) <| some (((([] : List Int) ++ (cut z0 0 x52)) ++ [z1]) ++ (cut z0 x52 (z0.length : Int)))) = some r → T 45 c [vw (kSlice 3 (kInt .i64)) (cut z0 x52 (z0.length : Int)) [.slice t78.1 t78.2.1 t78.2.2], vw (kSlice 3 (kInt .i64)) (cut z0 0 x52) [.slice t75.1 t75.2.1 t75.2.2], vw (kSlice 3 (kInt .i64)) z0 [.slice p1 m2 c3], g_pow10, g_kinds] [[blk g84 [.int .i64 z1] 3], [blk g80 [] 3]] [(33, .slice (some ⟨g80, 0, none⟩) 0 0), (36, .slice t75.1 t75.2.1 t75.2.2), (39, .slice (some ⟨g84, 0, none⟩) 1 1), (43, .slice t78.1 t78.2.1 t78.2.2)] (W72 4 #[true, true, true, true, false, true, true, false, true, true, true, false, false]) := by
        intro hc74 t75 hc77 t78 g80 g84 h69
        refine t_W hW73 ?_
        refine d1 4 rfl (by kernel_rfl) (by kernel_rfl) ?_
        refine t_tr (Kd := (kInt .i64)) (xs := ([] : List Int)) (.cons e1 .nil) rfl (fun w Z S hA hN => flat_EO (S := Nil) (flatK_int .i64) er0) ?_
        obtain ⟨hc88, h69⟩ := ck_out h69
        refine t_app (Kd := (kInt .i64)) (xs := ([] : List Int)) (ys := (cut z0 0 x52)) (.cons e0 .nil) rfl rfl Tryd.underlying49 Tryd.underlying49 ti3 rfl rfl hc88 (srcA (flatK_int .i64) a1) rfl fun t89 => ?_
        refine dn (by kernel_rfl) ?_
        exact dW hW73 (by kernel_rfl) (t_go (J90 hc74 hc77 t78 hc88 t89 g84 h69) ⟨rfl, rfl, rfl, trivial⟩ (.cons e1 (.cons e0 .nil)) (fun w Z hA => V1 a0 hA (V1 a2 hA (V1 a3 hA (V1 a4 hA (V0))))))
      refine q_p 1 (panic_then panic_body) rfl (by kernel_rfl) W0 (r_mv rfl) rfl ?_
      refine q_p 2 (panic_then panic_body) rfl (by kernel_rfl) W0 (r_mv rfl) rfl ?_
      obtain ⟨hc74, h69⟩ := ck_out h69
      refine t_cutAq (i := 0) (j := x52) a0 Tryd.underlying49 ti3 hc74 fun t75 hr76 => ?_
      refine q_p 3 (panic_then panic_body) rfl (by kernel_rfl) W0 (hr76 rfl (.inl ⟨rfl, rfl⟩) (.inr ⟨_, _, rfl, rfl⟩)) rfl ?_
      refine q_p 5 (panic_then panic_body) rfl (by kernel_rfl) W0 (r_mv rfl) rfl ?_
      refine q_p 8 (panic_then panic_body) rfl (by kernel_rfl) W0 (r_mv rfl) rfl ?_
      refine q_p 9 (panic_then panic_body) rfl (by kernel_rfl) W0 (r_mv rfl) rfl ?_
      obtain ⟨hc77, h69⟩ := ck_out h69
      refine t_cutAq (i := x52) (j := (z0.length : Int)) a1 Tryd.underlying49 ti3 hc77 fun t78 hr79 => ?_
      refine q_p 10 (panic_then panic_body) rfl (by kernel_rfl) W0 (hr79 rfl (.inr ⟨_, _, rfl, rfl⟩) (.inl ⟨rfl, rfl⟩)) rfl ?_
      refine dm 0 [6] (by kernel_rfl) (dmc 0 rfl (by kernel_rfl) ?_ (dmc 6 rfl (by kernel_rfl) ?_ dmz))
      · refine t_bs (ps := []) (cs := []) Tryd.underlying49 ti3 rfl rfl (by kernel_rfl) rfl fun g80 => ?_
        refine dn (by kernel_rfl) ?_
        refine dm 4 [6] (by kernel_rfl) (dmc 4 rfl (by kernel_rfl) ?_ (dmc 6 rfl (by kernel_rfl) ?_ dmz))
        · refine t_tr (Kd := (kInt .i64)) (xs := ([] : List Int)) (.cons e0 .nil) rfl (fun w Z S hA hN => flat_EO (S := Nil) (flatK_int .i64) er0) ?_
          obtain ⟨hc82, h69⟩ := ck_out h69
          refine t_app (Kd := (kInt .i64)) (xs := ([] : List Int)) (ys := (cut z0 0 x52)) (.cons e0 .nil) rfl rfl Tryd.underlying49 Tryd.underlying49 ti3 rfl rfl hc82 (srcA (flatK_int .i64) a1) rfl fun t83 => ?_
          refine dn (by kernel_rfl) ?_
          refine d1 6 rfl (by kernel_rfl) (by kernel_rfl) ?_
          refine t_bs (ps := [(0, .int .i64 z1)]) (cs := [.int .i64 z1]) Tryd.underlying49 ti3 rfl rfl (by kernel_rfl) rfl fun g86 => ?_
          refine dn (by kernel_rfl) ?_
          exact dW hW73 (by kernel_rfl) (t_go (J90 hc74 hc77 t78 hc82 t83 g86 h69) ⟨rfl, rfl, rfl, trivial⟩ (.cons e0 (.cons e0 .nil)) (fun w Z hA => V1 a0 hA (V1 a2 hA (V1 a3 hA (V1 a4 hA (V0))))))
        · refine t_bs (ps := [(0, .int .i64 z1)]) (cs := [.int .i64 z1]) Tryd.underlying49 ti3 rfl rfl (by kernel_rfl) rfl fun g84 => ?_
          refine dn (by kernel_rfl) ?_
          exact dW hW73 (by kernel_rfl) (t_go (J87 hc74 t75 hc77 t78 g80 g84 h69) ⟨rfl, rfl, rfl, rfl, trivial⟩ (.cons e0 (.cons e0 .nil)) (fun w Z hA => V1 a0 hA (V1 a1 hA (V1 a2 hA (V1 a3 hA (V1 a4 hA (V0)))))))
      · refine t_bs (ps := [(0, .int .i64 z1)]) (cs := [.int .i64 z1]) Tryd.underlying49 ti3 rfl rfl (by kernel_rfl) rfl fun g81 => ?_
        refine dn (by kernel_rfl) ?_
        refine d1 0 rfl (by kernel_rfl) (by kernel_rfl) ?_
        refine t_bs (ps := []) (cs := []) Tryd.underlying49 ti3 rfl rfl (by kernel_rfl) rfl fun g85 => ?_
        refine dn (by kernel_rfl) ?_
        exact dW hW73 (by kernel_rfl) (t_go (J87 hc74 t75 hc77 t78 g85 g81 h69) ⟨rfl, rfl, rfl, rfl, trivial⟩ (.cons e1 (.cons e0 .nil)) (fun w Z hA => V1 a0 hA (V1 a1 hA (V1 a2 hA (V1 a3 hA (V1 a4 hA (V0)))))))
    refine t_seq fun K57 hK58 => ?_
    refine t_region ?_
    refine c_p (r_mv rfl) rfl ?_
    refine c_p (r_i rfl rfl rfl) rfl ?_
    refine c_p (r_mv rfl) rfl ?_
    rcases Bool.eq_false_or_eq_true (decide (x52 > 0)) with hb59 | hb59
    · replace h54 := itT hb59 h54
      refine nx (gd rfl rfl hb59 (sp (r_mv rfl) rfl ?_))
      refine nx (gd rfl rfl hb59 (sp (r_mv rfl) rfl ?_))
      refine nx (gd rfl rfl hb59 (sp (r_i rfl rfl rfl) rfl ?_))
      obtain ⟨el63, hel63, h54⟩ := bs h54
      refine t_q a0 hel63 fun q60 hq61 hm62 => ?_
      refine nx (gd rfl rfl hb59 (sp (r_idx hq61 hm62 hel63 Tryd.underlying49 ti3 rfl rfl) rfl ?_))
      refine t_op (opens_int .i64) a0 hel63 fun t64 => ?_
      refine nx (gd rfl rfl hb59 (ss (r_e1 a0 hq61 Tryd.underlying3 rfl rfl rfl) rfl ?_))
      refine nx (gd rfl rfl hb59 (sp (r_mv rfl) rfl ?_))
      refine nx (gd rfl rfl hb59 (sp (r_i rfl rfl rfl) rfl ?_))
      refine c_p (r_pT rfl hb59 rfl) rfl ?_
      refine t_nil ?_
      refine t_then hK58 ?_
      rcases Bool.eq_false_or_eq_true (el63 == z1) with hb65 | hb65
      · replace h54 := itT hb65 h54
        refine t_T rfl hb65 ?_
        refine t_seq fun K66 hK67 => ?_
        refine t_region ?_
        refine c_p (r_mv rfl) rfl ?_
        refine c_p (r_as rfl) rfl ?_
        refine t_nil ?_
        refine t_then hK67 ?_
        refine t_ret ?_
        exact tr (ret1 rfl (v_t rfl) (t_leave (hQ _ (Option.some.inj h54)) (p1, m2, c3) rfl (fun w Z hA => (V1 a1 hA V0)) .nil))
      · replace h54 := itF hb65 h54
        refine t_F rfl hb65 ?_
        refine t_skip ?_
        exact t_norm (t_go (J68 h54) ⟨rfl, rfl, rfl, trivial⟩ .nil (fun w Z hA => V1 a1 hA (V1 a2 hA (V1 a3 hA (V0)))))
    · replace h54 := itF hb59 h54
      refine nx (pass rfl rfl hb59 rfl ?_)
      refine nx (pass rfl rfl hb59 rfl ?_)
      refine nx (pass rfl rfl hb59 rfl ?_)
      refine nx (pass rfl rfl hb59 rfl ?_)
      refine nx (pass rfl rfl hb59 rfl ?_)
      refine nx (pass rfl rfl hb59 rfl ?_)
      refine nx (pass rfl rfl hb59 rfl ?_)
      refine c_p (r_pF rfl hb59 rfl) rfl ?_
      refine t_nil ?_
      refine t_then hK58 ?_
      refine t_F rfl rfl ?_
      refine t_skip ?_
      exact t_norm (t_go (J68 h54) ⟨rfl, rfl, rfl, trivial⟩ .nil (fun w Z hA => V1 a0 hA (V1 a1 hA (V1 a2 hA (V0)))))
  refine t_block ?_
  refine t_lp fun k34 hk35 => ?_
  have LP37 : ∀ (k39 : Nat) (x36 : Int), f_kauditref40_put_l1 z0 z1 k39 x36 = some r → T 45 c [vw (kSlice 3 (kInt .i64)) z0 [.slice p1 m2 c3], g_pow10, g_kinds] [] [(0, .slice p1 m2 c3), (1, .int .i64 z1), (5, .int .i64 x36)] k34 := by
    intro k39
    induction k39 with
    | zero => intro x36 h38; rewrite [f_kauditref40_put_l1] at h38; cases h38
    | succ k39 ih40 =>
      intro x36 h38
      rewrite [f_kauditref40_put_l1] at h38
      refine ti hk35 ?_
      refine t_seq fun K41 hK42 => ?_
      refine t_seq fun K43 hK44 => ?_
      refine t_region ?_
      refine c_p (r_mv rfl) rfl ?_
      refine c_p (r_i rfl rfl rfl) rfl ?_
      refine c_p (r_mv rfl) rfl ?_
      rcases Bool.eq_false_or_eq_true (decide (x36 > 0)) with hb45 | hb45
      · replace h38 := itT hb45 h38
        refine nx (gd rfl rfl hb45 (sp (r_mv rfl) rfl ?_))
        refine nx (gd rfl rfl hb45 (sp (r_mv rfl) rfl ?_))
        refine nx (gd rfl rfl hb45 (sp (r_i rfl rfl rfl) rfl ?_))
        obtain ⟨el49, hel49, h38⟩ := bs h38
        refine t_q a0 hel49 fun q46 hq47 hm48 => ?_
        refine nx (gd rfl rfl hb45 (sp (r_idx hq47 hm48 hel49 Tryd.underlying49 ti3 rfl rfl) rfl ?_))
        refine t_op (opens_int .i64) a0 hel49 fun t50 => ?_
        refine nx (gd rfl rfl hb45 (ss (r_e1 a0 hq47 Tryd.underlying3 rfl rfl rfl) rfl ?_))
        refine nx (gd rfl rfl hb45 (sp (r_mv rfl) rfl ?_))
        refine nx (gd rfl rfl hb45 (sp (r_i rfl rfl rfl) rfl ?_))
        refine c_p (r_pT rfl hb45 rfl) rfl ?_
        refine t_nil ?_
        refine t_then hK44 ?_
        rcases Bool.eq_false_or_eq_true (decide (el49 > z1)) with hb51 | hb51
        · replace h38 := itT hb51 h38
          refine t_T rfl hb51 ?_
          refine t_skip ?_
          refine t_then hK42 ?_
          refine t_block ?_
          refine t_region ?_
          refine c_p (r_mv rfl) rfl ?_
          refine c_p (r_i rfl rfl rfl) rfl ?_
          refine c_p (r_as rfl) rfl ?_
          refine t_nil ?_
          refine t_blockN ?_
          exact t_norm (t_go (ih40 (IntKind.wrap .i64 (x36 - 1)) h38) ⟨rfl, rfl, rfl, trivial⟩ .nil (fun w Z hA => V1 a1 hA (V1 a2 hA (V1 a3 hA (V0)))))
        · replace h38 := itF hb51 h38
          refine t_F rfl hb51 ?_
          refine t_exit ?_
          refine te (te (bx ?_))
          exact t_norm (t_go (J53 x36 h38) ⟨rfl, rfl, rfl, trivial⟩ .nil (fun w Z hA => V1 a1 hA (V1 a2 hA (V1 a3 hA (V0)))))
      · replace h38 := itF hb45 h38
        refine nx (pass rfl rfl hb45 rfl ?_)
        refine nx (pass rfl rfl hb45 rfl ?_)
        refine nx (pass rfl rfl hb45 rfl ?_)
        refine nx (pass rfl rfl hb45 rfl ?_)
        refine nx (pass rfl rfl hb45 rfl ?_)
        refine nx (pass rfl rfl hb45 rfl ?_)
        refine nx (pass rfl rfl hb45 rfl ?_)
        refine c_p (r_pF rfl hb45 rfl) rfl ?_
        refine t_nil ?_
        refine t_then hK44 ?_
        refine t_F rfl rfl ?_
        refine t_exit ?_
        refine te (te (bx ?_))
        exact t_norm (t_go (J53 x36 h38) ⟨rfl, rfl, rfl, trivial⟩ .nil (fun w Z hA => V1 a0 hA (V1 a1 hA (V1 a2 hA (V0)))))
  exact t_go (LP37 ((((z0.length : Int) : Int) - (0)).toNat + 1) (z0.length : Int) h) ⟨rfl, rfl, rfl, trivial⟩ .nil (fun w Z hA => V1 a0 hA (V1 a1 hA (V1 a2 hA (V0))))
end
end Go.Proofs.YthmjklpmamfncaaDoor.Gx

/- Function 25, kaudit/kauditref40.add: what it answers as a plain function, and that the Go code comes to exactly that (where the plain function gives an answer). -/
set_option linter.unusedVariables false
set_option linter.unusedSimpArgs false
namespace Go.Proofs.YthmjklpmamfncaaDoor.Gx
open Go.Gx Go.RowKit
noncomputable section
/-! ### kaudit/kauditref40.add: function 25 -/
def f_kauditref40_add (z0 : (List api_Span)) (z1 : api_Span) : Option ((List api_Span)) := if (decide ((IntKind.wrap .i64 ((z0.length : Int) - 1)) ≥ 0)) = true then ((at_ z0 (IntKind.wrap .i64 ((z0.length : Int) - 1))).bind fun el17 => if (el17.Kind == z1.Kind) = true then (some (z0.set (IntKind.wrap .i64 ((z0.length : Int) - 1)).toNat (⟨el17.From, z1.To, el17.Kind⟩ : api_Span))) else (ck (fits (z0.length + [z1].length) 24 = true) <| some (z0 ++ [z1]))) else (ck (fits (z0.length + [z1].length) 24 = true) <| some (z0 ++ [z1]))
set_option maxHeartbeats 4000000 in
set_option maxRecDepth 100000 in
theorem C25 (z0 : (List api_Span)) (z1 : api_Span) (p1 : Option Addr) (m2 : Nat) (c3 : Nat) (r : (List api_Span)) (h : f_kauditref40_add z0 z1 = some r) : FunG Tryd.prog 25 #[.slice p1 m2 c3, .agg #[.int .i64 z1.From, .int .i64 z1.To, .int .i64 z1.Kind]] [g_pow10, g_kinds] [[row 46 k_api_Span z0 (.slice p1 m2 c3)]] (fun t : (Option Addr × Nat × Nat) => .slice t.1 t.2.1 t.2.2) (fun t => []) (fun t => [[row 46 k_api_Span r (.slice t.1 t.2.1 t.2.2)]]) := by
  unfold f_kauditref40_add at h
  refine t_begin (args := [.slice p1 m2 c3, .agg #[.int .i64 z1.From, .int .i64 z1.To, .int .i64 z1.Kind]]) Tryd.func25 rfl Tryd.ntmps25 rfl fun c R hR => ?_
  have hQ : ∀ X, X = r → ∀ w2 (t : (Option Addr × Nat × Nat)), PostG c.w0 w2 c.M c.Y [] [[row 46 k_api_Span X (.slice t.1 t.2.1 t.2.2)]] → R (.returned (.slice t.1 t.2.1 t.2.2)) w2 := fun X e => by subst e; exact hR
  refine t_seq fun K4 hK5 => ?_
  refine t_region ?_
  refine nx (t_bx (cs := [.int .i64 z1.From, .int .i64 z1.To, .int .i64 z1.Kind]) rfl rfl rfl fun g6 => ?_)
  refine c_p (r_as rfl) rfl ?_
  refine t_nil ?_
  refine t_then hK5 ?_
  refine t_seq fun K7 hK8 => ?_
  refine t_seq fun K9 hK10 => ?_
  refine t_region ?_
  refine c_p (r_mv rfl) rfl ?_
  refine c_s (r_lnL a1 Tryd.underlying23 rfl) rfl ?_
  refine c_p (r_i rfl rfl rfl) rfl ?_
  refine c_p (r_as rfl) rfl ?_
  refine t_nil ?_
  refine t_then hK10 ?_
  refine t_seq fun K11 hK12 => ?_
  refine t_quiet mixed (by kernel_rfl) (panic_then (panic_then panic_body)) ?_
  refine k_p (r_mv rfl) rfl ?_
  refine k_p (r_i rfl rfl rfl) rfl ?_
  refine k_p (r_mv rfl) rfl ?_
  rcases Bool.eq_false_or_eq_true (decide ((IntKind.wrap .i64 ((z0.length : Int) - 1)) ≥ 0)) with hb13 | hb13
  · replace h := itT hb13 h
    refine kg_p rfl rfl hb13 (r_mv rfl) rfl ?_
    refine kg_p rfl rfl hb13 (r_mv rfl) rfl ?_
    obtain ⟨el17, hel17, h⟩ := bs h
    refine t_qL a1 hel17 fun q14 hq15 hm16 => ?_
    refine kg_p rfl rfl hb13 (r_idx hq15 hm16 hel17 Tryd.underlying23 ti46 rfl rfl) rfl ?_
    refine t_qf hq15 2 fun q18 hq19 => ?_
    refine kg_p rfl rfl hb13 (r_fai hq15 hq19 Tryd.underlying46 rfl ti3 rfl rfl) rfl ?_
    refine t_oI k_api_Span_opensO e1 hel17 fun t20 => ?_
    refine kg_s rfl rfl hb13 (r_h1 a0 hq19 Tryd.underlying3 rfl rfl rfl) rfl ?_
    refine kg_p rfl rfl hb13 (r_fa (off' := 2) Tryd.underlying46 rfl ti3 rfl rfl) rfl ?_
    refine kg_s rfl rfl hb13 (r_ld a1 Tryd.underlying3 rfl rfl rfl) rfl ?_
    refine kg_p rfl rfl hb13 (r_i rfl rfl rfl) rfl ?_
    refine k_p (r_pT rfl hb13 rfl) rfl ?_
    refine k_z ?_
    refine t_then hK12 ?_
    rcases Bool.eq_false_or_eq_true (el17.Kind == z1.Kind) with hb21 | hb21
    · replace h := itT hb21 h
      refine t_T rfl hb21 ?_
      refine t_seq fun K22 hK23 => ?_
      refine t_region ?_
      refine c_p (r_mv rfl) rfl ?_
      refine c_p (r_mv rfl) rfl ?_
      refine c_p (r_fa (off' := 1) Tryd.underlying46 rfl ti3 rfl rfl) rfl ?_
      refine c_s (r_ld a1 Tryd.underlying3 rfl rfl rfl) rfl ?_
      refine t_qH a0 hel17 fun q24 hq25 hm26 => ?_
      refine c_p (r_idx hq25 hm26 hel17 Tryd.underlying23 ti46 rfl rfl) rfl ?_
      refine t_qf hq25 1 fun q27 hq28 => ?_
      refine c_p (r_fai hq25 hq28 Tryd.underlying46 rfl ti3 rfl rfl) rfl ?_
      refine nx (t_hs u0 hq28 ti3 rfl rfl rfl rfl rfl (.s (.t (.s .z))) ?_)
      refine t_nil ?_
      refine t_then hK23 ?_
      refine t_seq fun K29 hK30 => ?_
      refine t_region ?_
      refine c_p (r_mv rfl) rfl ?_
      refine c_p (r_as rfl) rfl ?_
      refine t_nil ?_
      refine t_then hK30 ?_
      refine t_ret ?_
      refine t_cI (u := (⟨el17.From, z1.To, el17.Kind⟩ : api_Span)) (t := ()) k_api_Span_shutsO (.cons e0 .nil) rfl (fun w Z hA => trivial) ?_
      have hn41 := at_set (u' := (⟨el17.From, z1.To, el17.Kind⟩ : api_Span)) hel17
      exact tr (ret1 rfl (v_t rfl) (t_leave (hQ _ (Option.some.inj h)) (p1, m2, c3) rfl (fun w Z hA => V0) (.cons e0 .nil)))
    · replace h := itF hb21 h
      refine t_F rfl hb21 ?_
      refine t_skip ?_
      refine t_then hK8 ?_
      refine t_seq fun K31 hK32 => ?_
      refine t_region ?_
      refine c_p (r_mv rfl) rfl ?_
      refine c_s (r_ldA a1 Tryd.underlying46 rfl ti46 rfl rfl) rfl ?_
      refine nx (t_bs (ps := [(0, .agg #[.int .i64 z1.From, .int .i64 z1.To, .int .i64 z1.Kind])]) (cs := [.int .i64 z1.From, .int .i64 z1.To, .int .i64 z1.Kind]) Tryd.underlying23 ti46 rfl rfl (by kernel_rfl) rfl fun g33 => ?_)
      refine t_cS (u := el17) (t := ()) k_api_Span_shutsO hel17 (.cons e1 .nil) rfl (fun w Z hA => trivial) ?_
      obtain ⟨hc34, h⟩ := ck_out h
      refine nx (t_app (Kd := k_api_Span) (xs := z0) (ys := [z1]) (.cons e0 .nil) rfl rfl Tryd.underlying23 Tryd.underlying23 ti46 rfl rfl hc34 (srcB a1 (fun w Z S hA hN => flat_EO (S := Nil) k_api_Span_flatK (er1 (c1 := [.int .i64 z1.From, .int .i64 z1.To, .int .i64 z1.Kind]) (k_api_Span_shuts (x := z1) (t := ()) trivial) er0))) rfl fun t35 => ?_)
      refine c_p (r_as rfl) rfl ?_
      refine t_nil ?_
      refine t_then hK32 ?_
      refine t_ret ?_
      exact ret1 rfl (v_t rfl) (t_leave (hQ _ (Option.some.inj h)) (t35.1, t35.2.1, t35.2.2) rfl (fun w Z hA => V0) (.cons e0 .nil))
  · replace h := itF hb13 h
    refine k_x rfl rfl hb13 rfl ?_
    refine k_x rfl rfl hb13 rfl ?_
    refine k_x rfl rfl hb13 rfl ?_
    refine k_x rfl rfl hb13 rfl ?_
    refine k_x rfl rfl hb13 rfl ?_
    refine k_x rfl rfl hb13 rfl ?_
    refine k_x rfl rfl hb13 rfl ?_
    refine k_x rfl rfl hb13 rfl ?_
    refine k_p (r_pF rfl hb13 rfl) rfl ?_
    refine k_z ?_
    refine t_then hK12 ?_
    refine t_F rfl rfl ?_
    refine t_skip ?_
    refine t_then hK8 ?_
    refine t_seq fun K36 hK37 => ?_
    refine t_region ?_
    refine c_p (r_mv rfl) rfl ?_
    refine c_s (r_ldA a0 Tryd.underlying46 rfl ti46 rfl rfl) rfl ?_
    refine nx (t_bs (ps := [(0, .agg #[.int .i64 z1.From, .int .i64 z1.To, .int .i64 z1.Kind])]) (cs := [.int .i64 z1.From, .int .i64 z1.To, .int .i64 z1.Kind]) Tryd.underlying23 ti46 rfl rfl (by kernel_rfl) rfl fun g38 => ?_)
    obtain ⟨hc39, h⟩ := ck_out h
    refine nx (t_app (Kd := k_api_Span) (xs := z0) (ys := [z1]) (.cons e2 .nil) rfl rfl Tryd.underlying23 Tryd.underlying23 ti46 rfl rfl hc39 (srcB a0 (fun w Z S hA hN => flat_EO (S := Nil) k_api_Span_flatK (er1 (c1 := [.int .i64 z1.From, .int .i64 z1.To, .int .i64 z1.Kind]) (k_api_Span_shuts (x := z1) (t := ()) trivial) er0))) rfl fun t40 => ?_)
    refine c_p (r_as rfl) rfl ?_
    refine t_nil ?_
    refine t_then hK37 ?_
    refine t_ret ?_
    exact ret1 rfl (v_t rfl) (t_leave (hQ _ (Option.some.inj h)) (t40.1, t40.2.1, t40.2.2) rfl (fun w Z hA => V0) (.cons e0 .nil))
end
end Go.Proofs.YthmjklpmamfncaaDoor.Gx

/- Function 26, kaudit/kauditref40.at: what it answers as a plain function, and that the Go code comes to exactly that (where the plain function gives an answer). -/
set_option linter.unusedVariables false
set_option linter.unusedSimpArgs false
namespace Go.Proofs.YthmjklpmamfncaaDoor.Gx
open Go.Gx Go.RowKit
noncomputable section
/-! ### kaudit/kauditref40.at: function 26 -/
def f_kauditref40_at_l1 (z0 : (List api_Span)) (z1 : Int) : Nat → Int → Option (Int)
  | 0, _ => none
  | k59 + 1, x56 => if (decide (x56 < (z0.length : Int))) = true then ((at_ z0 x56).bind fun el73 => if (decide (el73.From ≤ z1)) = true then (if (decide (z1 ≤ el73.To)) = true then (some el73.Kind) else (f_kauditref40_at_l1 z0 z1 k59 (IntKind.wrap .i64 (x56 + 1)))) else (f_kauditref40_at_l1 z0 z1 k59 (IntKind.wrap .i64 (x56 + 1)))) else (some 4)
def f_kauditref40_at (z0 : (List api_Span)) (z1 : Int) : Option (Int) := f_kauditref40_at_l1 z0 z1 ((((z0.length : Int) : Int) - (0)).toNat + 1) 0
set_option maxHeartbeats 4000000 in
set_option maxRecDepth 100000 in
theorem C26 (z0 : (List api_Span)) (z1 : Int) (p1 : Option Addr) (m2 : Nat) (c3 : Nat) (r : Int) (h : f_kauditref40_at z0 z1 = some r) : FunG Tryd.prog 26 #[.slice p1 m2 c3, .int .i64 z1] [vw (kSlice 46 k_api_Span) z0 [.slice p1 m2 c3], g_pow10, g_kinds] [] (fun (_ : Unit) => .int .i64 r) (fun _ => []) (fun _ => []) := by
  unfold f_kauditref40_at at h
  refine t_begin (args := [.slice p1 m2 c3, .int .i64 z1]) Tryd.func26 rfl Tryd.ntmps26 rfl fun c R hR => ?_
  have hQ : ∀ X, X = r → ∀ w2 (_ : Unit), PostG c.w0 w2 c.M c.Y [] [] → R (.returned (.int .i64 X)) w2 := fun X e => by subst e; exact hR
  refine t_seq fun K4 hK5 => ?_
  refine t_region ?_
  refine c_p (r_as rfl) rfl ?_
  refine t_nil ?_
  refine t_then hK5 ?_
  refine t_seq fun K6 hK7 => ?_
  refine t_seq fun K8 hK9 => ?_
  refine t_region ?_
  refine c_p (r_mv rfl) rfl ?_
  refine c_s (r_lnA a0 Tryd.underlying23 rfl) rfl ?_
  refine c_p (r_mv rfl) rfl ?_
  refine t_nil ?_
  refine t_then hK9 ?_
  refine t_block ?_
  refine t_lp fun k54 hk55 => ?_
  have LP57 : ∀ (k59 : Nat) (x56 : Int), f_kauditref40_at_l1 z0 z1 k59 x56 = some r → T 26 c [vw (kSlice 46 k_api_Span) z0 [.slice p1 m2 c3], g_pow10, g_kinds] [] [(1, .int .i64 z1), (7, .slice p1 m2 c3), (8, .int .i64 (z0.length : Int)), (9, .int .i64 x56)] k54 := by
    intro k59
    induction k59 with
    | zero => intro x56 h58; rewrite [f_kauditref40_at_l1] at h58; cases h58
    | succ k59 ih60 =>
      intro x56 h58
      rewrite [f_kauditref40_at_l1] at h58
      refine ti hk55 ?_
      refine t_seq fun K61 hK62 => ?_
      refine t_region ?_
      refine c_p (r_i rfl rfl rfl) rfl ?_
      refine t_nil ?_
      refine t_then hK62 ?_
      refine t_seq fun K63 hK64 => ?_
      rcases Bool.eq_false_or_eq_true (decide (x56 < (z0.length : Int))) with hb65 | hb65
      · replace h58 := itT hb65 h58
        refine t_T rfl hb65 ?_
        refine t_skip ?_
        refine t_then hK64 ?_
        refine t_seq fun K66 hK67 => ?_
        refine t_block ?_
        refine t_seq fun K68 hK69 => ?_
        refine t_region ?_
        obtain ⟨el73, hel73, h58⟩ := bs h58
        refine t_q a0 hel73 fun q70 hq71 hm72 => ?_
        refine c_p (r_idx hq71 hm72 hel73 Tryd.underlying23 ti46 rfl rfl) rfl ?_
        refine t_op k_api_Span_opens a0 hel73 fun t74 => ?_
        refine c_s (r_eA a0 hq71 Tryd.underlying46 rfl ti46 rfl rfl) rfl ?_
        refine nx (t_al (cs := [.int .i64 0, .int .i64 0, .int .i64 0]) ti46 rfl rfl fun g75 => ?_)
        refine nx (t_st u0 ti46 rfl rfl rfl rfl rfl (.t (.s (.s (.s .z)))) ?_)
        refine t_nil ?_
        refine t_then hK69 ?_
        refine t_seq fun K76 hK77 => ?_
        refine t_region ?_
        refine c_p (r_fa (off' := 0) Tryd.underlying46 rfl ti3 rfl rfl) rfl ?_
        refine c_s (r_ld a0 Tryd.underlying3 rfl rfl rfl) rfl ?_
        refine c_p (r_mv rfl) rfl ?_
        refine c_p (r_i rfl rfl rfl) rfl ?_
        refine c_p (r_mv rfl) rfl ?_
        rcases Bool.eq_false_or_eq_true (decide (el73.From ≤ z1)) with hb78 | hb78
        · replace h58 := itT hb78 h58
          refine nx (gd rfl rfl hb78 (sp (r_mv rfl) rfl ?_))
          refine nx (gd rfl rfl hb78 (sp (r_fa (off' := 1) Tryd.underlying46 rfl ti3 rfl rfl) rfl ?_))
          refine nx (gd rfl rfl hb78 (ss (r_ld a0 Tryd.underlying3 rfl rfl rfl) rfl ?_))
          refine nx (gd rfl rfl hb78 (sp (r_i rfl rfl rfl) rfl ?_))
          refine c_p (r_pT rfl hb78 rfl) rfl ?_
          refine t_nil ?_
          refine t_then hK77 ?_
          rcases Bool.eq_false_or_eq_true (decide (z1 ≤ el73.To)) with hb79 | hb79
          · replace h58 := itT hb79 h58
            refine t_T rfl hb79 ?_
            refine t_seq fun K80 hK81 => ?_
            refine t_region ?_
            refine c_p (r_fa (off' := 2) Tryd.underlying46 rfl ti3 rfl rfl) rfl ?_
            refine c_s (r_ld a0 Tryd.underlying3 rfl rfl rfl) rfl ?_
            refine c_p (r_as rfl) rfl ?_
            refine t_nil ?_
            refine t_then hK81 ?_
            refine t_ret ?_
            exact br (tr (tr (br (tr (ret1 rfl (v_t rfl) (t_leave (hQ _ (Option.some.inj h58)) () rfl (fun w Z hA => V0) .nil))))))
          · replace h58 := itF hb79 h58
            refine t_F rfl hb79 ?_
            refine t_skip ?_
            refine t_blockN ?_
            refine t_then hK67 ?_
            refine t_region ?_
            refine c_p (r_i rfl rfl rfl) rfl ?_
            refine c_p (r_mv rfl) rfl ?_
            refine t_nil ?_
            exact t_norm (t_go (ih60 (IntKind.wrap .i64 (x56 + 1)) h58) ⟨rfl, rfl, rfl, rfl, trivial⟩ .nil (fun w Z hA => V1 a1 hA (V1 a2 hA (V1 a3 hA (V0)))))
        · replace h58 := itF hb78 h58
          refine nx (pass rfl rfl hb78 rfl ?_)
          refine nx (pass rfl rfl hb78 rfl ?_)
          refine nx (pass rfl rfl hb78 rfl ?_)
          refine nx (pass rfl rfl hb78 rfl ?_)
          refine c_p (r_pF rfl hb78 rfl) rfl ?_
          refine t_nil ?_
          refine t_then hK77 ?_
          refine t_F rfl rfl ?_
          refine t_skip ?_
          refine t_blockN ?_
          refine t_then hK67 ?_
          refine t_region ?_
          refine c_p (r_i rfl rfl rfl) rfl ?_
          refine c_p (r_mv rfl) rfl ?_
          refine t_nil ?_
          exact t_norm (t_go (ih60 (IntKind.wrap .i64 (x56 + 1)) h58) ⟨rfl, rfl, rfl, rfl, trivial⟩ .nil (fun w Z hA => V1 a1 hA (V1 a2 hA (V1 a3 hA (V0)))))
      · replace h58 := itF hb65 h58
        refine t_F rfl hb65 ?_
        refine t_exit ?_
        refine te (te (bx ?_))
        refine t_then hK7 ?_
        refine t_seq fun K82 hK83 => ?_
        refine t_region ?_
        refine c_p (r_as rfl) rfl ?_
        refine t_nil ?_
        refine t_then hK83 ?_
        refine t_ret ?_
        exact ret1 rfl (v_t rfl) (t_leave (hQ _ (Option.some.inj h58)) () rfl (fun w Z hA => V0) .nil)
  exact t_go (LP57 ((((z0.length : Int) : Int) - (0)).toNat + 1) 0 h) ⟨rfl, rfl, rfl, rfl, trivial⟩ .nil (fun w Z hA => V1 a0 hA (V1 a1 hA (V1 a2 hA (V0))))
end
end Go.Proofs.YthmjklpmamfncaaDoor.Gx

/- Function 12, kaudit/kauditref40.Merge: what it answers as a plain function, and that the Go code comes to exactly that (where the plain function gives an answer). -/
set_option linter.unusedVariables false
set_option linter.unusedSimpArgs false
namespace Go.Proofs.YthmjklpmamfncaaDoor.Gx
open Go.Gx Go.RowKit
noncomputable section
/-! ### kaudit/kauditref40.Merge: function 12 -/
def f_kauditref40_Merge_l2 (z0 : (List api_Span)) (z1 : (List api_Span)) (x117 : List Int) : Nat → List api_Span → Int → Int → Option ((List api_Span))
  | 0, _, _, _ => none
  | k194 + 1, x189, x190, x191 => if (decide (x191 < (x117.length : Int))) = true then ((at_ x117 x191).bind fun el208 => (f_kauditref40_at z0 x190).bind fun y212 => (f_kauditref40_at z1 x190).bind fun y214 => (f_kauditref40_add x189 (⟨x190, el208, (min y212 y214)⟩ : api_Span)).bind fun y216 => f_kauditref40_Merge_l2 z0 z1 x117 k194 y216 (IntKind.wrap .i64 (el208 + 1)) (IntKind.wrap .i64 (x191 + 1))) else (some x189)
def f_kauditref40_Merge_j1 (z0 : (List api_Span)) (z1 : (List api_Span)) (x117 : List Int) : Option ((List api_Span)) := f_kauditref40_Merge_l2 z0 z1 x117 ((((x117.length : Int) : Int) - (0)).toNat + 1) ([] : List api_Span) 1 0
def f_kauditref40_Merge_l1 (z0 : (List api_Span)) (z1 : (List api_Span)) : Nat → List Int → Int → Option ((List api_Span))
  | 0, _, _ => none
  | k95 + 1, x91, x92 => if (decide (x92 < (((([] : List api_Span) ++ z0) ++ z1).length : Int))) = true then ((at_ ((([] : List api_Span) ++ z0) ++ z1) x92).bind fun el109 => (f_kauditref40_put x91 el109.To).bind fun y112 => f_kauditref40_Merge_l1 z0 z1 k95 y112 (IntKind.wrap .i64 (x92 + 1))) else (f_kauditref40_Merge_j1 z0 z1 x91)
def f_kauditref40_Merge (z0 : (List api_Span)) (z1 : (List api_Span)) : Option ((List api_Span)) := (f_kauditref40_Proper z0).bind fun y13 => if y13 = true then ((f_kauditref40_Proper z1).bind fun y16 => if y16 = true then (ck (fits (([] : List api_Span).length + z0.length) 24 = true) <| ck (fits ((([] : List api_Span) ++ z0).length + z1.length) 24 = true) <| f_kauditref40_Merge_l1 z0 z1 ((((((([] : List api_Span) ++ z0) ++ z1).length : Int) : Int) - (0)).toNat + 1) ([] : List Int) 0) else (some ([] : List api_Span))) else (some ([] : List api_Span))
set_option maxHeartbeats 4000000 in
set_option maxRecDepth 100000 in
theorem C12 (z0 : (List api_Span)) (z1 : (List api_Span)) (p1 : Option Addr) (m2 : Nat) (c3 : Nat) (p4 : Option Addr) (m5 : Nat) (c6 : Nat) (r : (List api_Span)) (h : f_kauditref40_Merge z0 z1 = some r) : FunG Tryd.prog 12 #[.slice p1 m2 c3, .slice p4 m5 c6] [vw (kSlice 46 k_api_Span) z0 [.slice p1 m2 c3], vw (kSlice 46 k_api_Span) z1 [.slice p4 m5 c6], g_pow10, g_kinds] [] (fun t : (Option Addr × Nat × Nat) => .slice t.1 t.2.1 t.2.2) (fun t => []) (fun t => [[row 46 k_api_Span r (.slice t.1 t.2.1 t.2.2)]]) := by
  unfold f_kauditref40_Merge at h
  refine t_begin (args := [.slice p1 m2 c3, .slice p4 m5 c6]) Tryd.func12 rfl Tryd.ntmps12 rfl fun c R hR => ?_
  have hQ : ∀ X, X = r → ∀ w2 (t : (Option Addr × Nat × Nat)), PostG c.w0 w2 c.M c.Y [] [[row 46 k_api_Span X (.slice t.1 t.2.1 t.2.2)]] → R (.returned (.slice t.1 t.2.1 t.2.2)) w2 := fun X e => by subst e; exact hR
  refine t_seq fun K7 hK8 => ?_
  refine t_region ?_
  refine c_p (r_as rfl) rfl ?_
  refine t_nil ?_
  refine t_then hK8 ?_
  refine t_seq fun K9 hK10 => ?_
  refine t_seq fun K11 hK12 => ?_
  refine t_region ?_
  refine c_p (r_mv rfl) rfl ?_
  obtain ⟨y13, hy13, h⟩ := bs h
  refine nx (t_ca (C9 _ _ _ _ _ hy13) Tryd.func9 nm9 rfl rfl rfl .nil (fun w Z hA => (V1 a0 hA (V1 a2 hA (V1 a3 hA V0)))) rfl fun t14 => ?_)
  refine c_p (r_not rfl) rfl ?_
  refine c_p (r_mv rfl) rfl ?_
  rcases Bool.eq_false_or_eq_true y13 with hb15 | hb15
  · replace h := itT hb15 h
    refine nx (gd rfl rfl (congrArg Bool.not hb15) (sp (r_mv rfl) rfl ?_))
    obtain ⟨y16, hy16, h⟩ := bs h
    refine nx (gd rfl rfl (congrArg Bool.not hb15) (t_ca (C9 _ _ _ _ _ hy16) Tryd.func9 nm9 rfl rfl rfl .nil (fun w Z hA => (V1 a1 hA (V1 a2 hA (V1 a3 hA V0)))) rfl fun t17 => ?_))
    refine nx (gd rfl rfl (congrArg Bool.not hb15) (sp (r_not rfl) rfl ?_))
    refine c_p (r_pF rfl (congrArg Bool.not hb15) rfl) rfl ?_
    refine t_nil ?_
    refine t_then hK12 ?_
    rcases Bool.eq_false_or_eq_true y16 with hb18 | hb18
    · replace h := itT hb18 h
      refine t_F rfl (congrArg Bool.not hb18) ?_
      refine t_skip ?_
      refine t_then hK10 ?_
      refine t_seq fun K23 hK24 => ?_
      refine t_region ?_
      refine c_p (r_as rfl) rfl ?_
      refine t_nil ?_
      refine t_then hK24 ?_
      refine t_seq fun K25 hK26 => ?_
      have J118 : ∀ (p114 : Option Addr) (m115 : Nat) (c116 : Nat) (x117 : List Int), f_kauditref40_Merge_j1 z0 z1 x117 = some r → T 57 c [vw (kSlice 46 k_api_Span) z0 [.slice p1 m2 c3], vw (kSlice 46 k_api_Span) z1 [.slice p4 m5 c6], vw (kSlice 3 (kInt .i64)) x117 [.slice p114 m115 c116], g_pow10, g_kinds] [] [(0, .slice p1 m2 c3), (1, .slice p4 m5 c6), (5, .slice p114 m115 c116)] K25 := by
        intro p114 m115 c116 x117 h119
        unfold f_kauditref40_Merge_j1 at h119
        refine ti hK26 ?_
        refine t_seq fun K120 hK121 => ?_
        refine t_region ?_
        refine c_p (r_as rfl) rfl ?_
        refine t_nil ?_
        refine t_then hK121 ?_
        refine t_seq fun K122 hK123 => ?_
        refine t_region ?_
        refine c_p (r_as rfl) rfl ?_
        refine t_nil ?_
        refine t_then hK123 ?_
        refine t_seq fun K124 hK125 => ?_
        refine t_seq fun K126 hK127 => ?_
        refine t_region ?_
        refine c_p (r_mv rfl) rfl ?_
        refine c_s (r_lnA a2 Tryd.underlying49 rfl) rfl ?_
        refine c_p (r_mv rfl) rfl ?_
        refine t_nil ?_
        refine t_then hK127 ?_
        refine t_block ?_
        refine t_nr 46 k_api_Span ?_
        refine t_lp fun k184 hk185 => ?_
        have LP192 : ∀ (k194 : Nat) (p186 : Option Addr) (m187 : Nat) (c188 : Nat) (x189 : List api_Span) (x190 : Int) (x191 : Int), f_kauditref40_Merge_l2 z0 z1 x117 k194 x189 x190 x191 = some r → T 57 c [vw (kSlice 46 k_api_Span) z0 [.slice p1 m2 c3], vw (kSlice 46 k_api_Span) z1 [.slice p4 m5 c6], vw (kSlice 3 (kInt .i64)) x117 [.slice p114 m115 c116], g_pow10, g_kinds] [[row 46 k_api_Span x189 (.slice p186 m187 c188)]] [(0, .slice p1 m2 c3), (1, .slice p4 m5 c6), (8, .slice p186 m187 c188), (9, .int .i64 x190), (35, .slice p114 m115 c116), (36, .int .i64 (x117.length : Int)), (37, .int .i64 x191)] k184 := by
          intro k194
          induction k194 with
          | zero => intro p186 m187 c188 x189 x190 x191 h193; rewrite [f_kauditref40_Merge_l2] at h193; cases h193
          | succ k194 ih195 =>
            intro p186 m187 c188 x189 x190 x191 h193
            rewrite [f_kauditref40_Merge_l2] at h193
            refine ti hk185 ?_
            refine t_seq fun K196 hK197 => ?_
            refine t_region ?_
            refine c_p (r_i rfl rfl rfl) rfl ?_
            refine t_nil ?_
            refine t_then hK197 ?_
            refine t_seq fun K198 hK199 => ?_
            rcases Bool.eq_false_or_eq_true (decide (x191 < (x117.length : Int))) with hb200 | hb200
            · replace h193 := itT hb200 h193
              refine t_T rfl hb200 ?_
              refine t_skip ?_
              refine t_then hK199 ?_
              refine t_seq fun K201 hK202 => ?_
              refine t_block ?_
              refine t_seq fun K203 hK204 => ?_
              refine t_region ?_
              obtain ⟨el208, hel208, h193⟩ := bs h193
              refine t_q a2 hel208 fun q205 hq206 hm207 => ?_
              refine c_p (r_idx hq206 hm207 hel208 Tryd.underlying49 ti3 rfl rfl) rfl ?_
              refine t_op (opens_int .i64) a2 hel208 fun t209 => ?_
              refine c_s (r_e1 a0 hq206 Tryd.underlying3 rfl rfl rfl) rfl ?_
              refine c_p (r_as rfl) rfl ?_
              refine t_nil ?_
              refine t_then hK204 ?_
              refine t_seq fun K210 hK211 => ?_
              refine t_region ?_
              refine c_p (r_mv rfl) rfl ?_
              refine c_p (r_mv rfl) rfl ?_
              refine c_p (r_mv rfl) rfl ?_
              refine c_p (r_mv rfl) rfl ?_
              refine c_p (r_mv rfl) rfl ?_
              obtain ⟨y212, hy212, h193⟩ := bs h193
              refine nx (t_ca (C26 _ _ _ _ _ _ hy212) Tryd.func26 nm26 rfl rfl rfl .nil (fun w Z hA => (V1 a1 hA (V1 a4 hA (V1 a5 hA V0)))) rfl fun t213 => ?_)
              refine c_p (r_mv rfl) rfl ?_
              refine c_p (r_mv rfl) rfl ?_
              obtain ⟨y214, hy214, h193⟩ := bs h193
              refine nx (t_ca (C26 _ _ _ _ _ _ hy214) Tryd.func26 nm26 rfl rfl rfl .nil (fun w Z hA => (V1 a2 hA (V1 a4 hA (V1 a5 hA V0)))) rfl fun t215 => ?_)
              refine c_p (r_min rfl rfl) rfl ?_
              refine c_p (r_bu (ps := [(0, .int .i64 x190), (1, .int .i64 el208), (2, .int .i64 (min y212 y214))]) (cs := [.int .i64 x190, .int .i64 el208, .int .i64 (min y212 y214)]) rfl (by kernel_rfl)) rfl ?_
              obtain ⟨y216, hy216, h193⟩ := bs h193
              refine nx (t_ca (C25 _ _ _ _ _ _ hy216) Tryd.func25 nm25 rfl rfl rfl (.cons e0 .nil) (fun w Z hA => (V1 a4 hA (V1 a5 hA V0))) rfl fun t217 => ?_)
              refine c_p (r_as rfl) rfl ?_
              refine t_nil ?_
              refine t_then hK211 ?_
              refine t_region ?_
              refine c_p (r_mv rfl) rfl ?_
              refine c_p (r_i rfl rfl rfl) rfl ?_
              refine c_p (r_as rfl) rfl ?_
              refine t_nil ?_
              refine t_blockN ?_
              refine t_then hK202 ?_
              refine t_region ?_
              refine c_p (r_i rfl rfl rfl) rfl ?_
              refine c_p (r_mv rfl) rfl ?_
              refine t_nil ?_
              exact t_norm (t_go (ih195 t217.1 t217.2.1 t217.2.2 y216 (IntKind.wrap .i64 (el208 + 1)) (IntKind.wrap .i64 (x191 + 1)) h193) ⟨rfl, rfl, rfl, rfl, rfl, rfl, rfl, trivial⟩ (.cons e0 .nil) (fun w Z hA => V1 a1 hA (V1 a2 hA (V1 a3 hA (V1 a4 hA (V1 a5 hA (V0)))))))
            · replace h193 := itF hb200 h193
              refine t_F rfl hb200 ?_
              refine t_exit ?_
              refine te (te (bx ?_))
              refine t_then hK125 ?_
              refine t_seq fun K218 hK219 => ?_
              refine t_region ?_
              refine c_p (r_mv rfl) rfl ?_
              refine c_p (r_as rfl) rfl ?_
              refine t_nil ?_
              refine t_then hK219 ?_
              refine t_ret ?_
              exact ret1 rfl (v_t rfl) (t_leave (hQ _ (Option.some.inj h193)) (p186, m187, c188) rfl (fun w Z hA => V0) (.cons e0 .nil))
        exact t_go (LP192 ((((x117.length : Int) : Int) - (0)).toNat + 1) none 0 0 ([] : List api_Span) 1 0 h119) ⟨rfl, rfl, rfl, rfl, rfl, rfl, rfl, trivial⟩ (.cons e0 .nil) (fun w Z hA => V1 a0 hA (V1 a1 hA (V1 a2 hA (V1 a3 hA (V1 a4 hA (V0))))))
      refine t_seq fun K27 hK28 => ?_
      refine t_region ?_
      refine nx (t_bs (ps := []) (cs := []) Tryd.underlying23 ti46 rfl rfl (by kernel_rfl) rfl fun g29 => ?_)
      refine c_p (r_mv rfl) rfl ?_
      refine t_tr (Kd := k_api_Span) (xs := ([] : List api_Span)) (.cons e0 .nil) rfl (fun w Z S hA hN => flat_EO (S := Nil) k_api_Span_flatK er0) ?_
      obtain ⟨hc30, h⟩ := ck_out h
      refine nx (t_app (Kd := k_api_Span) (xs := ([] : List api_Span)) (ys := z0) (.cons e0 .nil) rfl rfl Tryd.underlying23 Tryd.underlying23 ti46 rfl rfl hc30 (srcA k_api_Span_flatK a0) rfl fun t31 => ?_)
      refine c_p (r_mv rfl) rfl ?_
      obtain ⟨hc32, h⟩ := ck_out h
      refine nx (t_app (Kd := k_api_Span) (xs := (([] : List api_Span) ++ z0)) (ys := z1) (.cons e0 .nil) rfl rfl Tryd.underlying23 Tryd.underlying23 ti46 rfl rfl hc32 (srcA k_api_Span_flatK a1) rfl fun t33 => ?_)
      refine c_s (r_lnL a0 Tryd.underlying23 rfl) rfl ?_
      refine c_p (r_mv rfl) rfl ?_
      refine t_nil ?_
      refine t_then hK28 ?_
      refine t_block ?_
      refine t_lp fun k86 hk87 => ?_
      have LP93 : ∀ (k95 : Nat) (p88 : Option Addr) (m89 : Nat) (c90 : Nat) (x91 : List Int) (x92 : Int), f_kauditref40_Merge_l1 z0 z1 k95 x91 x92 = some r → T 57 c [vw (kSlice 46 k_api_Span) z0 [.slice p1 m2 c3], vw (kSlice 46 k_api_Span) z1 [.slice p4 m5 c6], vw (kSlice 3 (kInt .i64)) x91 [.slice p88 m89 c90], g_pow10, g_kinds] [[row 46 k_api_Span ((([] : List api_Span) ++ z0) ++ z1) (.slice t33.1 t33.2.1 t33.2.2)]] [(0, .slice p1 m2 c3), (1, .slice p4 m5 c6), (5, .slice p88 m89 c90), (24, .slice t33.1 t33.2.1 t33.2.2), (25, .int .i64 (((([] : List api_Span) ++ z0) ++ z1).length : Int)), (26, .int .i64 x92)] k86 := by
        intro k95
        induction k95 with
        | zero => intro p88 m89 c90 x91 x92 h94; rewrite [f_kauditref40_Merge_l1] at h94; cases h94
        | succ k95 ih96 =>
          intro p88 m89 c90 x91 x92 h94
          rewrite [f_kauditref40_Merge_l1] at h94
          refine ti hk87 ?_
          refine t_seq fun K97 hK98 => ?_
          refine t_region ?_
          refine c_p (r_i rfl rfl rfl) rfl ?_
          refine t_nil ?_
          refine t_then hK98 ?_
          refine t_seq fun K99 hK100 => ?_
          rcases Bool.eq_false_or_eq_true (decide (x92 < (((([] : List api_Span) ++ z0) ++ z1).length : Int))) with hb101 | hb101
          · replace h94 := itT hb101 h94
            refine t_T rfl hb101 ?_
            refine t_skip ?_
            refine t_then hK100 ?_
            refine t_seq fun K102 hK103 => ?_
            refine t_block ?_
            refine t_seq fun K104 hK105 => ?_
            refine t_region ?_
            obtain ⟨el109, hel109, h94⟩ := bs h94
            refine t_qL a0 hel109 fun q106 hq107 hm108 => ?_
            refine c_p (r_idx hq107 hm108 hel109 Tryd.underlying23 ti46 rfl rfl) rfl ?_
            refine t_oI k_api_Span_opensO e0 hel109 fun t110 => ?_
            refine c_s (r_hA a0 hq107 Tryd.underlying46 rfl ti46 rfl rfl) rfl ?_
            refine nx (t_al (cs := [.int .i64 0, .int .i64 0, .int .i64 0]) ti46 rfl rfl fun g111 => ?_)
            refine nx (t_st u0 ti46 rfl rfl rfl rfl rfl (.t (.s (.s (.s .z)))) ?_)
            refine t_nil ?_
            refine t_then hK105 ?_
            refine t_region ?_
            refine c_p (r_mv rfl) rfl ?_
            refine c_p (r_fa (off' := 1) Tryd.underlying46 rfl ti3 rfl rfl) rfl ?_
            refine c_s (r_ld a0 Tryd.underlying3 rfl rfl rfl) rfl ?_
            obtain ⟨y112, hy112, h94⟩ := bs h94
            refine nx (t_ca (C24 _ _ _ _ _ _ hy112) Tryd.func24 nm24 rfl rfl rfl .nil (fun w Z hA => (V1 a2 hA (V1 a3 hA (V1 a4 hA V0)))) rfl fun t113 => ?_)
            refine c_p (r_as rfl) rfl ?_
            refine t_nil ?_
            refine t_blockN ?_
            refine t_then hK103 ?_
            refine t_region ?_
            refine c_p (r_i rfl rfl rfl) rfl ?_
            refine c_p (r_mv rfl) rfl ?_
            refine t_nil ?_
            refine t_cS (u := el109) (t := ()) k_api_Span_shutsO hel109 (.cons e1 .nil) rfl (fun w Z hA => trivial) ?_
            exact t_norm (t_go (ih96 t113.1 t113.2.1 t113.2.2 y112 (IntKind.wrap .i64 (x92 + 1)) h94) ⟨rfl, rfl, rfl, rfl, rfl, rfl, trivial⟩ (.cons e0 .nil) (fun w Z hA => V1 a1 hA (V1 a2 hA (V1 a0 hA (V1 a4 hA (V1 a5 hA (V0)))))))
          · replace h94 := itF hb101 h94
            refine t_F rfl hb101 ?_
            refine t_exit ?_
            refine te (te (bx ?_))
            exact t_norm (t_go (J118 p88 m89 c90 x91 h94) ⟨rfl, rfl, rfl, trivial⟩ .nil (fun w Z hA => V1 a0 hA (V1 a1 hA (V1 a2 hA (V1 a3 hA (V1 a4 hA (V0)))))))
      exact t_go (LP93 ((((((([] : List api_Span) ++ z0) ++ z1).length : Int) : Int) - (0)).toNat + 1) none 0 0 ([] : List Int) 0 h) ⟨rfl, rfl, rfl, rfl, rfl, rfl, trivial⟩ (.cons e0 .nil) (fun w Z hA => V1 a0 hA (V1 a1 hA (VN 3 (V1 a2 hA (V1 a3 hA (V0))))))
    · replace h := itF hb18 h
      refine t_T rfl (congrArg Bool.not hb18) ?_
      refine t_seq fun K19 hK20 => ?_
      refine t_region ?_
      refine c_p (r_as rfl) rfl ?_
      refine t_nil ?_
      refine t_then hK20 ?_
      refine t_ret ?_
      refine t_nr 46 k_api_Span ?_
      exact tr (ret1 rfl (v_t rfl) (t_leave (hQ _ (Option.some.inj h)) (none, 0, 0) rfl (fun w Z hA => V0) (.cons e0 .nil)))
  · replace h := itF hb15 h
    refine nx (pass rfl rfl (congrArg Bool.not hb15) rfl ?_)
    refine nx (pass rfl rfl (congrArg Bool.not hb15) rfl ?_)
    refine nx (pass rfl rfl (congrArg Bool.not hb15) rfl ?_)
    refine c_p (r_pT rfl (congrArg Bool.not hb15) rfl) rfl ?_
    refine t_nil ?_
    refine t_then hK12 ?_
    refine t_T rfl rfl ?_
    refine t_seq fun K21 hK22 => ?_
    refine t_region ?_
    refine c_p (r_as rfl) rfl ?_
    refine t_nil ?_
    refine t_then hK22 ?_
    refine t_ret ?_
    refine t_nr 46 k_api_Span ?_
    exact tr (ret1 rfl (v_t rfl) (t_leave (hQ _ (Option.some.inj h)) (none, 0, 0) rfl (fun w Z hA => V0) (.cons e0 .nil)))
end
end Go.Proofs.YthmjklpmamfncaaDoor.Gx

/- CoverageSpans: both joins are the same. -/
set_option linter.unusedVariables false
set_option maxRecDepth 100000
namespace Go.Proofs.YthmjklpmamfncaaDoor.Gx
open Go.Gx Go.RowKit
/-- Each span's end has a number behind it, or is the last. -/
def Ends (A : List api_Span) : Prop := ∀ (i : Nat) (h : i < A.length), is64 A[i].To ∧ (is64 (A[i].To + 1) ∨ i + 1 = A.length)
theorem cont_next : ∀ {l : List api_Span} {g : Int}, Cont g l → ∀ (i : Nat) (h : i + 1 < l.length), l[i + 1].From = l[i].To + 1
  | [s], _, _, i, h => by simp at h
  | s :: t :: l, g, ⟨_, _, _, d⟩, 0, h => d.1
  | s :: t :: l, g, ⟨_, _, _, d⟩, i + 1, h => by
    have := cont_next d i (by simp at h ⊢; omega)
    exact this
theorem ends_of {A : List api_Span} {g : Int} (hc : Cont g A) (hf : Fit A) : Ends A := by
  intro i h
  refine ⟨(hf _ (List.getElem_mem h)).2.1, ?_⟩
  by_cases c : i + 1 < A.length
  · left
    rw [← cont_next hc i c]
    exact (hf _ (List.getElem_mem c)).1
  · right; omega
theorem mrg_nil (n : Nat) (f : Int) : mrg n f [] [] = [] := by cases n <;> rfl
theorem Merge_loop' {A B : List api_Span} (hA : A.length ≤ 2000000) (hB : B.length ≤ 2000000) (sA : Ends A) (sB : Ends B) : ∀ (n : Nat) (acc : List api_Span) (f : Int) (i k : Nat), i ≤ A.length → k ≤ B.length → (A.length - i) + (B.length - k) ≤ n → acc.length + n ≤ 4000000 →
    f_coverage_Merge_l1 A B (n + 1) acc f i k = f_coverage_Merge_j5 (acc ++ mrg n f (A.drop i) (B.drop k)) := by
  intro n
  induction n with
  | zero =>
    intro acc f i k h1 h2 h3 h4
    obtain rfl : i = A.length := by omega
    obtain rfl : k = B.length := by omega
    rw [f_coverage_Merge_l1]
    refine ite_f (dec_f (by omega)) (ite_f (dec_f (by omega)) ?_)
    unfold mrg
    rw [List.append_nil]
  | succ n ih =>
    intro acc f i k h1 h2 h3 h4
    rw [f_coverage_Merge_l1]
    have step : ∀ (t kd : Int) (i' k' : Nat), (is64 (t + 1) ∨ (i' = A.length ∧ k' = B.length)) → i' ≤ A.length → k' ≤ B.length → (A.length - i') + (B.length - k') ≤ n →
        f_coverage_Merge_j4 acc f t i' (f_coverage_Merge_l1 A B (n + 1)) k' kd = f_coverage_Merge_j5 (acc ++ (⟨f, t, kd⟩ :: mrg n (t + 1) (A.drop i') (B.drop k'))) := by
      intro t kd i' k' ht q1 q2 q3
      unfold f_coverage_Merge_j4
      refine ck_of (fits_of (by simp; omega)) ?_
      rw [ih _ _ i' k' q1 q2 q3 (by simp; omega), List.append_assoc]
      rcases ht with ht | ⟨rfl, rfl⟩
      · rw [wrap_id ht.1 ht.2]; rfl
      · rw [List.drop_length, List.drop_length, mrg_nil, mrg_nil]; rfl
    by_cases hi : i < A.length
    · have ea : A.drop i = A[i] :: A.drop (i + 1) := (List.getElem_cons_drop hi).symm
      have sx := sA i hi
      have gx := at_get hi
      generalize A[i] = x at ea sx gx
      refine ite_t (dec_t (by omega)) ?_
      unfold f_coverage_Merge_j1
      refine ite_f (by rw [beq_eq_false_iff_ne]; omega) ?_
      by_cases hk : k < B.length
      · have eb : B.drop k = B[k] :: B.drop (k + 1) := (List.getElem_cons_drop hk).symm
        have sy := sB k hk
        have gy := at_get hk
        generalize B[k] = y at eb sy gy
        refine ite_f (by rw [beq_eq_false_iff_ne]; omega) (bind_of gx (bind_of gy ?_))
        have em : mrg (n + 1) f (A.drop i) (B.drop k) = ⟨f, min x.To y.To, min (min 4 x.Kind) y.Kind⟩ :: mrg n (min x.To y.To + 1) (if x.To = min x.To y.To then A.drop (i + 1) else A.drop i) (if y.To = min x.To y.To then B.drop (k + 1) else B.drop k) := by
          rw [ea, eb]; rfl
        rw [em]
        obtain ⟨⟨sx1, sx2⟩, sx3⟩ := sx
        obtain ⟨⟨sy1, sy2⟩, sy3⟩ := sy
        unfold is64 at sx3 sy3
        generalize ht : min x.To y.To = t
        unfold f_coverage_Merge_j2
        refine ite_t (dec_t (by omega)) (bind_of gx ?_)
        have j3 : ∀ (i' : Nat) (kd : Int), f_coverage_Merge_j3 B acc f k t (f_coverage_Merge_l1 A B (n + 1)) i' kd = if y.To = t then f_coverage_Merge_j4 acc f t i' (f_coverage_Merge_l1 A B (n + 1)) ((k + 1 : Nat) : Int) (min kd y.Kind) else f_coverage_Merge_j4 acc f t i' (f_coverage_Merge_l1 A B (n + 1)) k (min kd y.Kind) := by
          intro i' kd
          unfold f_coverage_Merge_j3
          refine ite_t (dec_t (by omega)) (bind_of gy ?_)
          by_cases e : y.To = t
          · rw [if_pos e]; exact ite_t (by simpa using e) (by rw [wrap_up (by omega)])
          · rw [if_neg e]; exact ite_f (by simpa using e) rfl
        by_cases e1 : x.To = t
        · refine ite_t (by simpa using e1) ?_
          rw [wrap_up (by omega), j3, if_pos e1]
          by_cases e2 : y.To = t
          · rw [if_pos e2, if_pos e2]; exact step t _ (i + 1) (k + 1) (by unfold is64; omega) (by omega) (by omega) (by omega)
          · rw [if_neg e2, if_neg e2]; exact step t _ (i + 1) k (by unfold is64; omega) (by omega) (by omega) (by omega)
        · have e2 : y.To = t := by omega
          refine ite_f (by simpa using e1) ?_
          rw [j3, if_neg e1, if_pos e2, if_pos e2]
          exact step t _ i (k + 1) (by unfold is64; omega) (by omega) (by omega) (by omega)
      · obtain rfl : k = B.length := by omega
        refine ite_t (by simp) (bind_of gx ?_)
        have em : mrg (n + 1) f (A.drop i) (B.drop B.length) = ⟨f, x.To, min 4 x.Kind⟩ :: mrg n (x.To + 1) (A.drop (i + 1)) (B.drop B.length) := by
          rw [ea, List.drop_length]; rfl
        rw [em]
        unfold f_coverage_Merge_j2
        refine ite_t (dec_t (by omega)) (bind_of gx (ite_t (by simp) ?_))
        rw [wrap_up (by omega)]
        unfold f_coverage_Merge_j3
        refine ite_f (dec_f (by omega)) ?_
        exact step x.To _ (i + 1) B.length (sx.2.imp id fun h => ⟨h, rfl⟩) (by omega) (by omega) (by omega)
    · obtain rfl : i = A.length := by omega
      refine ite_f (dec_f (by omega)) ?_
      by_cases hk : k < B.length
      · have eb : B.drop k = B[k] :: B.drop (k + 1) := (List.getElem_cons_drop hk).symm
        have sy := sB k hk
        have gy := at_get hk
        generalize B[k] = y at eb sy gy
        refine ite_t (dec_t (by omega)) ?_
        unfold f_coverage_Merge_j1
        refine ite_t (by simp) (bind_of gy ?_)
        have em : mrg (n + 1) f (A.drop A.length) (B.drop k) = ⟨f, y.To, min 4 y.Kind⟩ :: mrg n (y.To + 1) (A.drop A.length) (B.drop (k + 1)) := by
          rw [eb, List.drop_length]; rfl
        rw [em]
        unfold f_coverage_Merge_j2
        refine ite_f (dec_f (by omega)) ?_
        unfold f_coverage_Merge_j3
        refine ite_t (dec_t (by omega)) (bind_of gy (ite_t (by simp) ?_))
        rw [wrap_up (by omega)]
        exact step y.To _ A.length (k + 1) (sy.2.imp id fun h => ⟨rfl, h⟩) (by omega) (by omega) (by omega)
      · refine ite_f (dec_f (by omega)) ?_
        obtain rfl : k = B.length := by omega
        rw [List.drop_length, List.drop_length]
        unfold mrg
        rw [List.append_nil]
/-! ### The reference's: a list of ends -/
theorem put_j2_ok {l : List Int} {v : Int} {x : Nat} (hl : l.length ≤ 10000000) (hx : x ≤ l.length) : f_kauditref40_put_j2 l v x = some (l.take x ++ v :: l.drop x) := by
  unfold f_kauditref40_put_j2
  have e1 : cut l 0 (x : Int) = l.take x := by unfold cut; simp
  have e2 : cut l (x : Int) (l.length : Int) = l.drop x := by unfold cut; simp
  rw [e1, e2]
  refine ck_of ⟨by omega, by omega, by omega⟩ (ck_of ⟨by omega, by omega, by omega⟩ (ck_of (fits_of ?_) (ck_of (fits_of ?_) (ck_of (fits_of ?_) ?_))))
  all_goals simp
  all_goals omega
theorem put_loop {l : List Int} {v : Int} (hl : l.length ≤ 10000000) (hs : l.Pairwise (· < ·)) : ∀ (k x : Nat), x ≤ l.length → x < k → (∀ y ∈ l.drop x, v < y) →
    ∃ r, f_kauditref40_put_l1 l v k x = some r ∧ r.Pairwise (· < ·) ∧ (∀ y, y ∈ r ↔ y ∈ l ∨ y = v) ∧ r.length ≤ l.length + 1 := by
  intro k
  induction k with
  | zero => intro x _ h; omega
  | succ k ih =>
    intro x h1 h2 hd
    have ins : (∀ y ∈ l.take x, y < v) → ∃ r, f_kauditref40_put_j2 l v x = some r ∧ r.Pairwise (· < ·) ∧ (∀ y, y ∈ r ↔ y ∈ l ∨ y = v) ∧ r.length ≤ l.length + 1 := by
      intro ht
      refine ⟨_, put_j2_ok hl h1, ?_, ?_, ?_⟩
      · rw [List.pairwise_append]
        refine ⟨hs.sublist (List.take_sublist _ _), ?_, ?_⟩
        · rw [List.pairwise_cons]
          exact ⟨hd, hs.sublist (List.drop_sublist _ _)⟩
        · intro a ha b hb
          have := ht a ha
          rcases List.mem_cons.1 hb with rfl | hb
          · exact this
          · have := hd b hb; omega
      · intro y
        have : y ∈ l ↔ y ∈ l.take x ∨ y ∈ l.drop x := by
          conv => lhs; rw [← List.take_append_drop x l]
          rw [List.mem_append]
        rw [this, List.mem_append, List.mem_cons]
        constructor
        · rintro (h | h | h)
          · exact .inl (.inl h)
          · exact .inr h
          · exact .inl (.inr h)
        · rintro ((h | h) | h)
          · exact .inl h
          · exact .inr (.inr h)
          · exact .inr (.inl h)
      · simp; omega
    rw [f_kauditref40_put_l1]
    cases x with
    | zero =>
      obtain ⟨r, p, q⟩ := ins (by simp)
      exact ⟨r, ite_f (dec_f (by omega)) (by unfold f_kauditref40_put_j1; exact ite_f (dec_f (by omega)) p), q⟩
    | succ x =>
      have hx : x < l.length := by omega
      have g := at_get hx
      have e : l.take (x + 1) = l.take x ++ [l[x]] := by rw [List.take_succ_eq_append_getElem hx]
      have e' : l.drop x = l[x] :: l.drop (x + 1) := (List.getElem_cons_drop hx).symm
      have hm := List.getElem_mem hx
      generalize l[x] = u at g e e' hm
      have w := wrap_dn (n := x) (by omega)
      have hp : (l.take (x + 1)).Pairwise (· < ·) := hs.sublist (List.take_sublist _ _)
      rw [e, List.pairwise_append] at hp
      by_cases c : u > v
      · obtain ⟨r, p, q⟩ := ih x (by omega) (by omega) (by rw [e']; intro y hy; rcases List.mem_cons.1 hy with rfl | hy; exact c; exact hd y hy)
        exact ⟨r, ite_t (dec_t (by omega)) (bind_of (by rw [w]; exact g) (ite_t (dec_t c) (by rw [w]; exact p))), q⟩
      · by_cases c2 : u = v
        · refine ⟨l, ite_t (dec_t (by omega)) (bind_of (by rw [w]; exact g) (ite_f (dec_f c) ?_)), hs, fun y => ⟨.inl, ?_⟩, by omega⟩
          · unfold f_kauditref40_put_j1
            exact ite_t (dec_t (by omega)) (bind_of (by rw [w]; exact g) (ite_t (by simpa using c2) rfl))
          · rintro (h | h)
            · exact h
            · rw [h, ← c2]; exact hm
        · obtain ⟨r, p, q⟩ := ins (by
            rw [e]
            intro y hy
            rcases List.mem_append.1 hy with hy | hy
            · have := hp.2.2 y hy u (by simp); omega
            · have : y = u := by simpa using hy
              omega)
          refine ⟨r, ite_t (dec_t (by omega)) (bind_of (by rw [w]; exact g) (ite_f (dec_f c) ?_)), q⟩
          unfold f_kauditref40_put_j1
          exact ite_t (dec_t (by omega)) (bind_of (by rw [w]; exact g) (ite_f (by simpa using c2) p))
theorem put_ok {l : List Int} {v : Int} (hl : l.length ≤ 10000000) (hs : l.Pairwise (· < ·)) : ∃ r, f_kauditref40_put l v = some r ∧ r.Pairwise (· < ·) ∧ (∀ y, y ∈ r ↔ y ∈ l ∨ y = v) ∧ r.length ≤ l.length + 1 := by
  unfold f_kauditref40_put
  exact put_loop hl hs _ l.length (by omega) (by omega) (by simp)
theorem ends_loop {A B : List api_Span} (h : A.length + B.length ≤ 4000000) : ∀ (k i : Nat) (l : List Int), i ≤ A.length + B.length → A.length + B.length < k + i → l.length ≤ i → l.Pairwise (· < ·) →
    ∃ r, f_kauditref40_Merge_l1 A B k l i = f_kauditref40_Merge_j1 A B r ∧ r.Pairwise (· < ·) ∧ (∀ y, y ∈ r ↔ y ∈ l ∨ y ∈ ((A ++ B).drop i).map (·.To)) ∧ r.length ≤ A.length + B.length := by
  intro k
  induction k with
  | zero => intro i _ h1 h2; omega
  | succ k ih =>
    intro i l h1 h2 h3 hs
    rw [f_kauditref40_Merge_l1]
    rw [List.nil_append]
    by_cases hi : i < (A ++ B).length
    · have g := at_get hi
      have e : (A ++ B).drop i = (A ++ B)[i] :: (A ++ B).drop (i + 1) := (List.getElem_cons_drop hi).symm
      generalize (A ++ B)[i] = s at g e
      obtain ⟨l', p, q1, q2, q3⟩ := put_ok (v := s.To) (by omega) hs
      rw [List.length_append] at hi
      obtain ⟨r, a, b, c, d⟩ := ih (i + 1) l' (by omega) (by omega) (by omega) q1
      refine ⟨r, ite_t (dec_t (by rw [List.length_append]; omega)) (bind_of g (bind_of p (by rw [wrap_up (by omega)]; exact a))), b, fun y => ?_, d⟩
      rw [c, q2, e, List.map_cons, List.mem_cons]
      constructor
      · rintro ((h | h) | h)
        · exact .inl h
        · exact .inr (.inl h)
        · exact .inr (.inr h)
      · rintro (h | h | h)
        · exact .inl (.inl h)
        · exact .inl (.inr h)
        · exact .inr h
    · refine ⟨l, ite_f (dec_f (by omega)) rfl, hs, fun y => ?_, by omega⟩
      rw [List.drop_eq_nil_of_le (by omega)]; simp
theorem mrg_tos : ∀ (n : Nat) {f : Int} {a b : List api_Span}, a.length + b.length ≤ n → ∀ y, y ∈ (mrg n f a b).map (·.To) ↔ y ∈ a.map (·.To) ∨ y ∈ b.map (·.To) := by
  intro n
  induction n with
  | zero =>
    intro f a b h y
    obtain rfl : a = [] := List.eq_nil_of_length_eq_zero (by omega)
    obtain rfl : b = [] := List.eq_nil_of_length_eq_zero (by omega)
    simp [mrg]
  | succ n ih =>
    intro f a b h y
    match a, b, h with
    | [], [], _ => simp [mrg]
    | x :: a, [], h =>
      unfold mrg
      rw [List.map_cons, List.mem_cons, ih (by simp at h ⊢; omega), List.map_cons, List.mem_cons]
      simp
    | [], z :: b, h =>
      unfold mrg
      rw [List.map_cons, List.mem_cons, ih (by simp at h ⊢; omega), List.map_cons, List.mem_cons]
      simp
    | x :: a, z :: b, h =>
      generalize ht : min x.To z.To = t
      have hc : x.To = t ∨ z.To = t := by omega
      have hlen : (if x.To = t then a else x :: a).length + (if z.To = t then b else z :: b).length ≤ n := by
        simp only [List.length_cons] at h
        rcases hc with e | e
        · rw [if_pos e]; split <;> (try simp only [List.length_cons]) <;> omega
        · rw [if_pos e]; split <;> (try simp only [List.length_cons]) <;> omega
      have em : mrg (n + 1) f (x :: a) (z :: b) = ⟨f, t, min (min 4 x.Kind) z.Kind⟩ :: mrg n (t + 1) (if x.To = t then a else x :: a) (if z.To = t then b else z :: b) := by rw [← ht]; rfl
      rw [em, List.map_cons, List.mem_cons, ih hlen]
      by_cases c1 : x.To = t
      · by_cases c2 : z.To = t
        · rw [if_pos c1, if_pos c2]; simp only [List.map_cons, List.mem_cons, c1, c2]
          constructor
          · rintro (h | h | h) <;> simp [h]
          · rintro ((h | h) | (h | h)) <;> simp [h]
        · rw [if_pos c1, if_neg c2]; simp only [List.map_cons, List.mem_cons, c1]
          constructor
          · rintro (h | h | h | h) <;> simp [h]
          · rintro ((h | h) | (h | h)) <;> simp [h]
      · have c2 : z.To = t := by omega
        rw [if_neg c1, if_pos c2]; simp only [List.map_cons, List.mem_cons, c2]
        constructor
        · rintro (h | (h | h) | h) <;> simp [h]
        · rintro ((h | h) | (h | h)) <;> simp [h]
theorem tos_lt : ∀ {l : List api_Span} {g : Int}, Cont g l → (l.map (·.To)).Pairwise (· < ·) ∧ ∀ y ∈ l.map (·.To), g ≤ y
  | [], _, _ => by simp
  | s :: l, g, ⟨a, b, c, d⟩ => by
    obtain ⟨h1, h2⟩ := tos_lt d
    rw [List.map_cons, List.pairwise_cons]
    refine ⟨⟨fun y hy => by have := h2 y hy; omega, h1⟩, fun y hy => ?_⟩
    rcases List.mem_cons.1 hy with rfl | hy
    · exact b
    · have := h2 y hy; omega
theorem asc_eq {a b : List Int} (ha : a.Pairwise (· < ·)) (hb : b.Pairwise (· < ·)) (h : ∀ y, y ∈ a ↔ y ∈ b) : a = b := by
  have na : a.Nodup := ha.imp (fun h => by omega)
  have nb : b.Nodup := hb.imp (fun h => by omega)
  exact List.Perm.eq_of_pairwise (le := fun x y => x < y) (fun x y _ _ h h' => by omega) ha hb ((List.perm_ext_iff_of_nodup na nb).2 h)
theorem at_loop {z : List api_Span} (hz : z.length ≤ 10000000) (n : Int) : ∀ (k i : Nat), i ≤ z.length → z.length < k + i → f_kauditref40_at_l1 z n k i = some (cov (z.drop i) n) := by
  intro k
  induction k with
  | zero => intro i h1 h2; omega
  | succ k ih =>
    intro i h1 h2
    rw [f_kauditref40_at_l1]
    by_cases h : i < z.length
    · have e : z.drop i = z[i] :: z.drop (i + 1) := (List.getElem_cons_drop h).symm
      have g := at_get h
      generalize z[i] = s at g e
      refine ite_t (dec_t (by omega)) (bind_of g ?_)
      rw [wrap_up (by omega), e]
      have ec : cov (s :: z.drop (i + 1)) n = if s.From ≤ n ∧ n ≤ s.To then s.Kind else cov (z.drop (i + 1)) n := rfl
      rw [ec]
      by_cases c1 : s.From ≤ n
      · by_cases c2 : n ≤ s.To
        · refine ite_t (dec_t c1) (ite_t (dec_t c2) ?_); rw [if_pos ⟨c1, c2⟩]
        · refine ite_t (dec_t c1) (ite_f (dec_f c2) ?_); rw [if_neg (fun h => c2 h.2)]; exact ih (i + 1) (by omega) (by omega)
      · refine ite_f (dec_f c1) ?_; rw [if_neg (fun h => c1 h.1)]; exact ih (i + 1) (by omega) (by omega)
    · obtain rfl : i = z.length := by omega
      rw [List.drop_length]
      exact ite_f (dec_f (by omega)) rfl
theorem at_ok {z : List api_Span} (hz : z.length ≤ 10000000) (n : Int) : f_kauditref40_at z n = some (cov z n) := by
  unfold f_kauditref40_at
  exact at_loop hz n _ 0 (by omega) (by omega)
theorem add_nil (s : api_Span) : f_kauditref40_add [] s = some [s] := by
  unfold f_kauditref40_add
  exact ite_f (by decide) (ck_of rfl rfl)
theorem add_snoc {pre : List api_Span} {c s : api_Span} (h : pre.length ≤ 10000000) : f_kauditref40_add (pre ++ [c]) s = some (if c.Kind = s.Kind then pre ++ [⟨c.From, s.To, c.Kind⟩] else pre ++ [c, s]) := by
  unfold f_kauditref40_add
  have hl : ((pre ++ [c]).length : Int) - 1 = (pre.length : Int) := by simp
  have w : IntKind.wrap .i64 (((pre ++ [c]).length : Int) - 1) = (pre.length : Int) := by rw [hl]; exact wrap_id (by omega) (by omega)
  rw [w]
  refine ite_t (dec_t (by omega)) (bind_of (y := c) (at_nat (by simp)) ?_)
  by_cases hk : c.Kind = s.Kind
  · rw [if_pos hk]
    refine ite_t (by simpa using hk) ?_
    simp
  · rw [if_neg hk]
    exact ite_f (by simpa using hk) (ck_of (fits_of (by simp; omega)) (by rw [List.append_assoc]; rfl))
/-- What the list says of its own spans' starts. -/
theorem cov_from : ∀ {l : List api_Span} {g : Int}, Cont g l → ∀ s ∈ l, cov l s.From = s.Kind
  | t :: l, g, ⟨a, b, c, d⟩, s, h => by
    rcases List.mem_cons.1 h with rfl | h
    · exact cov_head (by omega) (by omega)
    · have := (cont_mem d h).1
      rw [cov_tail (by omega)]
      exact cov_from d s h
theorem fold_loop {A B : List api_Span} {M : List api_Span} (hA : A.length ≤ 10000000) (hB : B.length ≤ 10000000) (hM : M.length ≤ 4000000) (hc : Cont 1 M) (hk : ∀ s ∈ M, min (cov A s.From) (cov B s.From) = s.Kind) (hF : Ends M) :
    ∀ (k i : Nat) (acc : List api_Span) (f : Int), i ≤ M.length → M.length < k + i → acc.length ≤ i → (∀ h : i < M.length, M[i].From = f) →
    f_kauditref40_Merge_l2 A B (M.map (·.To)) k acc f i = some (match acc.getLast? with | none => jnL (M.drop i) | some c => acc.dropLast ++ jn c (M.drop i)) := by
  intro k
  induction k with
  | zero => intro i _ _ h1 h2; omega
  | succ k ih =>
    intro i acc f h1 h2 h3 h4
    rw [f_kauditref40_Merge_l2]
    by_cases h : i < M.length
    · have e : M.drop i = M[i] :: M.drop (i + 1) := (List.getElem_cons_drop h).symm
      have hm := List.getElem_mem h
      have g : at_ (M.map (·.To)) (i : Int) = some M[i].To := at_nat (by simp [h])
      have hf := h4 h
      have hkk := hk _ hm
      have hFF := hF i h
      have nx : ∀ h' : i + 1 < M.length, M[i + 1].From = IntKind.wrap .i64 (M[i].To + 1) := fun h' => by
        rw [cont_next hc i h']
        rcases hFF.2 with q | q
        · rw [wrap_id q.1 q.2]
        · omega
      generalize M[i] = s at e hm g hf hkk hFF nx
      have hs : (⟨f, s.To, min (cov A f) (cov B f)⟩ : api_Span) = s := by rw [← hf, hkk]
      rcases List.eq_nil_or_concat acc with rfl | ⟨pre, c, rfl⟩
      · refine ite_t (dec_t (by simp; omega)) (bind_of g (bind_of (at_ok hA f) (bind_of (at_ok hB f) ?_)))
        rw [hs]
        refine bind_of (add_nil s) ?_
        rw [wrap_up (by omega), ih (i + 1) [s] _ (by omega) (by omega) (by simp) nx]
        rw [e]; rfl
      · rw [List.concat_eq_append] at *
        rw [List.length_append] at h3
        simp only [List.length_cons, List.length_nil] at h3
        refine ite_t (dec_t (by simp; omega)) (bind_of g (bind_of (at_ok hA f) (bind_of (at_ok hB f) ?_)))
        rw [hs]
        refine bind_of (add_snoc (by omega)) ?_
        rw [wrap_up (by omega), e]
        by_cases hkd : c.Kind = s.Kind
        · rw [if_pos hkd, ih (i + 1) (pre ++ [(⟨c.From, s.To, c.Kind⟩ : api_Span)]) _ (by omega) (by omega) (by simp; omega) nx]
          simp [jn, hkd]
        · rw [if_neg hkd]
          have e2 : pre ++ [c, s] = (pre ++ [c]) ++ [s] := by simp
          rw [e2, ih (i + 1) ((pre ++ [c]) ++ [s]) _ (by omega) (by omega) (by simp; omega) nx]
          simp [jn, hkd]
    · obtain rfl : i = M.length := by omega
      rw [List.drop_length]
      refine ite_f (dec_f (by simp)) ?_
      rcases List.eq_nil_or_concat acc with rfl | ⟨pre, c, rfl⟩
      · rfl
      · rw [List.concat_eq_append]
        simp [jn]
theorem mrg_fit : ∀ (n : Nat) {f : Int} {a b : List api_Span}, (∀ s ∈ a, is64 s.To) → (∀ s ∈ b, is64 s.To) → ∀ s ∈ mrg n f a b, is64 s.To := by
  intro n
  induction n with
  | zero => intro f a b _ _ s h; cases h
  | succ n ih =>
    intro f a b ha hb s h
    match a, b, ha, hb, h with
    | [], [], _, _, h => cases h
    | x :: a, [], ha, hb, h =>
      rcases List.mem_cons.1 h with rfl | h
      · exact ha x (by simp)
      · exact ih (fun s h => ha s (by simp [h])) hb s h
    | [], x :: b, ha, hb, h =>
      rcases List.mem_cons.1 h with rfl | h
      · exact hb x (by simp)
      · exact ih ha (fun s h => hb s (by simp [h])) s h
    | x :: a, y :: b, ha, hb, h =>
      rcases List.mem_cons.1 h with rfl | h
      · show is64 (min x.To y.To)
        rcases Int.le_total x.To y.To with h | h
        · rw [Int.min_eq_left h]; exact ha x (by simp)
        · rw [Int.min_eq_right h]; exact hb y (by simp)
      · refine ih ?_ ?_ s h
        · intro s h; split at h
          · exact ha s (by simp [h])
          · exact ha s h
        · intro s h; split at h
          · exact hb s (by simp [h])
          · exact hb s h
theorem Merge_eq {a b : List api_Span} (la : a.length ≤ 2000000) (lb : b.length ≤ 2000000) (fa : Fit a) (fb : Fit b) : ∃ r, f_coverage_Merge a b = some r ∧ f_kauditref40_Merge a b = some r ∧ r.length ≤ 4000000 := by
  unfold f_coverage_Merge f_kauditref40_Merge
  cases pa : prB 1 0 a with
  | false => exact ⟨[], bind_of (Proper_ok (by omega) fa) (ite_f pa rfl), bind_of (RProper_ok (by omega) fa) (ite_f pa rfl), by simp⟩
  | true =>
    cases pb : prB 1 0 b with
    | false => exact ⟨[], bind_of (Proper_ok (by omega) fa) (ite_t pa (bind_of (Proper_ok (by omega) fb) (ite_f pb rfl))), bind_of (RProper_ok (by omega) fa) (ite_t pa (bind_of (RProper_ok (by omega) fb) (ite_f pb rfl))), by simp⟩
    | true =>
      have A := (prB_iff.1 pa).cont
      have B := (prB_iff.1 pb).cont
      have EA := ends_of A fa
      have EB := ends_of B fb
      obtain ⟨h1, h2, h3⟩ := mrg_ok (a.length + b.length) A.cov B.cov (Nat.le_refl _)
      have hl := mrg_len (a.length + b.length) 1 a b
      have tos := mrg_tos (a.length + b.length) (f := 1) (a := a) (b := b) (Nat.le_refl _)
      have mf := mrg_fit (a.length + b.length) (f := 1) (a := a) (b := b) (fun s h => (fa s h).2.1) (fun s h => (fb s h).2.1)
      have lp := Merge_loop' la lb EA EB (a.length + b.length) [] 1 0 0 (by omega) (by omega) (by omega) (by simp; omega)
      rw [List.nil_append, List.drop_zero, List.drop_zero] at lp
      generalize mrg (a.length + b.length) 1 a b = M at h1 h2 h3 hl tos mf lp
      have EM : Ends M := by
        intro i h
        have hm := List.getElem_mem h
        refine ⟨mf _ hm, ?_⟩
        by_cases c : i + 1 < M.length
        · left
          have := cont_next h1 i c
          have h5 := cont_mem h1 (List.getElem_mem c)
          have h6 := mf _ (List.getElem_mem c)
          have h7 := mf _ hm
          unfold is64 at *
          omega
        · right; omega
      obtain ⟨r, e1, e2, e3, e4⟩ := ends_loop (A := a) (B := b) (by omega) ((((((([] : List api_Span) ++ a) ++ b).length : Int) : Int) - (0)).toNat + 1) 0 [] (by omega) (by simp; omega) (by simp) (by simp)
      have er : r = M.map (·.To) := asc_eq e2 (tos_lt h1).1 (fun y => by
        rw [e3, tos, List.drop_zero, List.map_append, List.mem_append]; simp)
      subst er
      have fl := fold_loop (A := a) (B := b) (M := M) (by omega) (by omega) (by omega) h1 (fun s hs => by
        rw [← h2 _ (cont_mem h1 hs).1]; exact cov_from h1 s hs) EM ((((M.map (·.To)).length : Int) - 0).toNat + 1) 0 [] 1 (by omega) (by simp) (by simp) (fun h => by
        match M, h1, h with
        | s :: l, h1, _ => exact h1.1)
      refine ⟨jnL M, bind_of (Proper_ok (by omega) fa) (ite_t pa (bind_of (Proper_ok (by omega) fb) (ite_t pb ?_))), bind_of (RProper_ok (by omega) fa) (ite_t pa (bind_of (RProper_ok (by omega) fb) (ite_t pb (ck_of (fits_of (by simp; omega)) (ck_of (fits_of (by simp; omega)) ?_))))), ?_⟩
      · refine Eq.trans lp ?_
        unfold f_coverage_Merge_j5
        exact bind_of (join_ok (by omega)) rfl
      · refine Eq.trans e1 ?_
        unfold f_kauditref40_Merge_j1
        exact fl
      · exact Nat.le_trans (jnL_len _) (by omega)
end Go.Proofs.YthmjklpmamfncaaDoor.Gx

/- Function 33, kaudit/kauditref01.Decimal: what it answers as a plain function, and that the Go code comes to exactly that (where the plain function gives an answer). -/
set_option linter.unusedVariables false
set_option linter.unusedSimpArgs false
namespace Go.Proofs.YthmjklpmamfncaaDoor.Gx
open Go.Gx Go.RowKit
noncomputable section
/-! ### kaudit/kauditref01.Decimal: function 33 -/
def f_kauditref01_Decimal_j1 (x43 : Int) (x44 : ByteArray) : Option (ByteArray) := ck ((Utf8.encode (IntKind.wrap .i32 (IntKind.wrap .i64 (48 + x43)))).size + x44.size ≤ maxStr) <| some ((Utf8.encode (IntKind.wrap .i32 (IntKind.wrap .i64 (48 + x43)))) ++ x44)
def f_kauditref01_Decimal_l1 : Nat → Int → ByteArray → Option (ByteArray)
  | 0, _, _ => none
  | k33 + 1, x29, x30 => if (decide (x29 ≥ 10)) = true then (ck ((Utf8.encode (IntKind.wrap .i32 (IntKind.wrap .i64 (48 + ((x29 : Int).tmod 10))))).size + x30.size ≤ maxStr) <| f_kauditref01_Decimal_l1 k33 (IntKind.wrap .i64 ((x29 : Int).tdiv 10)) ((Utf8.encode (IntKind.wrap .i32 (IntKind.wrap .i64 (48 + ((x29 : Int).tmod 10))))) ++ x30)) else (f_kauditref01_Decimal_j1 x29 x30)
def f_kauditref01_Decimal (z0 : Int) : Option (ByteArray) := f_kauditref01_Decimal_l1 (((z0 : Int) - (10)).toNat + 2) z0 (⟨#[]⟩ : ByteArray)
set_option maxHeartbeats 4000000 in
set_option maxRecDepth 100000 in
theorem C33 (z0 : Int) (r : ByteArray) (h : f_kauditref01_Decimal z0 = some r) : FunG Tryd.prog 33 #[.int .i64 z0] [g_pow10, g_kinds] [] (fun (_ : Unit) => .string r) (fun _ => []) (fun _ => []) := by
  unfold f_kauditref01_Decimal at h
  refine t_begin (args := [.int .i64 z0]) Tryd.func33 rfl Tryd.ntmps33 rfl fun c R hR => ?_
  have hQ : ∀ X, X = r → ∀ w2 (_ : Unit), PostG c.w0 w2 c.M c.Y [] [] → R (.returned (.string X)) w2 := fun X e => by subst e; exact hR
  refine t_seq fun K1 hK2 => ?_
  refine t_region ?_
  refine c_p (r_as rfl) rfl ?_
  refine t_nil ?_
  refine t_then hK2 ?_
  refine t_seq fun K3 hK4 => ?_
  refine t_region ?_
  refine c_p (r_as rfl) rfl ?_
  refine t_nil ?_
  refine t_then hK4 ?_
  refine t_seq fun K5 hK6 => ?_
  have J45 : ∀ (x43 : Int) (x44 : ByteArray), f_kauditref01_Decimal_j1 x43 x44 = some r → T 21 c [g_pow10, g_kinds] [] [(0, .int .i64 x43), (3, .string x44)] K5 := by
    intro x43 x44 h46
    unfold f_kauditref01_Decimal_j1 at h46
    refine ti hK6 ?_
    refine t_seq fun K47 hK48 => ?_
    refine t_region ?_
    refine c_p (r_mv rfl) rfl ?_
    refine c_p (r_i rfl rfl rfl) rfl ?_
    refine c_p (r_ci Tryd.underlying3 Tryd.underlying21 rfl) rfl ?_
    refine c_p (r_crs Tryd.underlying21 Tryd.underlying9 rfl) rfl ?_
    refine c_p (r_mv rfl) rfl ?_
    obtain ⟨hc49, h46⟩ := ck_out h46
    refine c_p (r_cat rfl rfl hc49) rfl ?_
    refine c_p (r_as rfl) rfl ?_
    refine t_nil ?_
    refine t_then hK48 ?_
    refine t_ret ?_
    exact ret1 rfl (v_t rfl) (t_leave (hQ _ (Option.some.inj h46)) () rfl (fun w Z hA => V0) .nil)
  refine t_block ?_
  refine t_lp fun k27 hk28 => ?_
  have LP31 : ∀ (k33 : Nat) (x29 : Int) (x30 : ByteArray), f_kauditref01_Decimal_l1 k33 x29 x30 = some r → T 21 c [g_pow10, g_kinds] [] [(0, .int .i64 x29), (3, .string x30)] k27 := by
    intro k33
    induction k33 with
    | zero => intro x29 x30 h32; rewrite [f_kauditref01_Decimal_l1] at h32; cases h32
    | succ k33 ih34 =>
      intro x29 x30 h32
      rewrite [f_kauditref01_Decimal_l1] at h32
      refine ti hk28 ?_
      refine t_seq fun K35 hK36 => ?_
      refine t_seq fun K37 hK38 => ?_
      refine t_region ?_
      refine c_p (r_mv rfl) rfl ?_
      refine c_p (r_i rfl rfl rfl) rfl ?_
      refine t_nil ?_
      refine t_then hK38 ?_
      rcases Bool.eq_false_or_eq_true (decide (x29 ≥ 10)) with hb39 | hb39
      · replace h32 := itT hb39 h32
        refine t_T rfl hb39 ?_
        refine t_skip ?_
        refine t_then hK36 ?_
        refine t_block ?_
        refine t_seq fun K40 hK41 => ?_
        refine t_region ?_
        refine c_p (r_mv rfl) rfl ?_
        refine c_p (r_rem rfl rfl (by decide)) rfl ?_
        refine c_p (r_i rfl rfl rfl) rfl ?_
        refine c_p (r_ci Tryd.underlying3 Tryd.underlying21 rfl) rfl ?_
        refine c_p (r_crs Tryd.underlying21 Tryd.underlying9 rfl) rfl ?_
        refine c_p (r_mv rfl) rfl ?_
        obtain ⟨hc42, h32⟩ := ck_out h32
        refine c_p (r_cat rfl rfl hc42) rfl ?_
        refine c_p (r_as rfl) rfl ?_
        refine t_nil ?_
        refine t_then hK41 ?_
        refine t_region ?_
        refine c_p (r_mv rfl) rfl ?_
        refine c_p (r_quo rfl rfl (by decide)) rfl ?_
        refine c_p (r_as rfl) rfl ?_
        refine t_nil ?_
        refine t_blockN ?_
        exact t_norm (t_go (ih34 (IntKind.wrap .i64 ((x29 : Int).tdiv 10)) ((Utf8.encode (IntKind.wrap .i32 (IntKind.wrap .i64 (48 + ((x29 : Int).tmod 10))))) ++ x30) h32) ⟨rfl, rfl, trivial⟩ .nil (fun w Z hA => V1 a0 hA (V1 a1 hA (V0))))
      · replace h32 := itF hb39 h32
        refine t_F rfl hb39 ?_
        refine t_exit ?_
        refine te (te (bx ?_))
        exact t_norm (t_go (J45 x29 x30 h32) ⟨rfl, rfl, trivial⟩ .nil (fun w Z hA => V1 a0 hA (V1 a1 hA (V0))))
  exact t_go (LP31 (((z0 : Int) - (10)).toNat + 2) z0 (⟨#[]⟩ : ByteArray) h) ⟨rfl, rfl, trivial⟩ .nil (fun w Z hA => V1 a0 hA (V1 a1 hA (V0)))
end
end Go.Proofs.YthmjklpmamfncaaDoor.Gx

/- Function 28, kaudit/kauditref02.Number: what it answers as a plain function, and that the Go code comes to exactly that (where the plain function gives an answer). -/
set_option linter.unusedVariables false
set_option linter.unusedSimpArgs false
namespace Go.Proofs.YthmjklpmamfncaaDoor.Gx
open Go.Gx Go.RowKit
noncomputable section
/-! ### kaudit/kauditref02.Number: function 28 -/
def f_kauditref02_Number (z0 : Int) : Option (ByteArray) := if (decide (z0 ≥ 0)) = true then ((f_kauditref01_Decimal z0).bind fun y10 => some y10) else (if (decide ((IntKind.wrap .i64 (0 - z0)) < 0)) = true then ((f_kauditref01_Decimal (IntKind.wrap .i64 (0 - (IntKind.wrap .i64 ((z0 : Int).tdiv 10))))).bind fun y19 => ck ((⟨#[45]⟩ : ByteArray).size + y19.size ≤ maxStr) <| (f_kauditref01_Decimal (IntKind.wrap .i64 (0 - ((z0 : Int).tmod 10)))).bind fun y22 => ck (((⟨#[45]⟩ : ByteArray) ++ y19).size + y22.size ≤ maxStr) <| some (((⟨#[45]⟩ : ByteArray) ++ y19) ++ y22)) else ((f_kauditref01_Decimal (IntKind.wrap .i64 (0 - z0))).bind fun y27 => ck ((⟨#[45]⟩ : ByteArray).size + y27.size ≤ maxStr) <| some ((⟨#[45]⟩ : ByteArray) ++ y27)))
set_option maxHeartbeats 4000000 in
set_option maxRecDepth 100000 in
theorem C28 (z0 : Int) (r : ByteArray) (h : f_kauditref02_Number z0 = some r) : FunG Tryd.prog 28 #[.int .i64 z0] [g_pow10, g_kinds] [] (fun (_ : Unit) => .string r) (fun _ => []) (fun _ => []) := by
  unfold f_kauditref02_Number at h
  refine t_begin (args := [.int .i64 z0]) Tryd.func28 rfl Tryd.ntmps28 rfl fun c R hR => ?_
  have hQ : ∀ X, X = r → ∀ w2 (_ : Unit), PostG c.w0 w2 c.M c.Y [] [] → R (.returned (.string X)) w2 := fun X e => by subst e; exact hR
  refine t_seq fun K1 hK2 => ?_
  refine t_region ?_
  refine c_p (r_as rfl) rfl ?_
  refine t_nil ?_
  refine t_then hK2 ?_
  refine t_seq fun K3 hK4 => ?_
  refine t_seq fun K5 hK6 => ?_
  refine t_region ?_
  refine c_p (r_mv rfl) rfl ?_
  refine c_p (r_i rfl rfl rfl) rfl ?_
  refine t_nil ?_
  refine t_then hK6 ?_
  rcases Bool.eq_false_or_eq_true (decide (z0 ≥ 0)) with hb7 | hb7
  · replace h := itT hb7 h
    refine t_T rfl hb7 ?_
    refine t_seq fun K8 hK9 => ?_
    refine t_region ?_
    refine c_p (r_mv rfl) rfl ?_
    obtain ⟨y10, hy10, h⟩ := bs h
    refine nx (t_ca (C33 _ _ hy10) Tryd.func33 nm33 rfl rfl rfl .nil (fun w Z hA => (V1 a0 hA (V1 a1 hA V0))) rfl fun t11 => ?_)
    refine c_p (r_as rfl) rfl ?_
    refine t_nil ?_
    refine t_then hK9 ?_
    refine t_ret ?_
    exact tr (ret1 rfl (v_t rfl) (t_leave (hQ _ (Option.some.inj h)) () rfl (fun w Z hA => V0) .nil))
  · replace h := itF hb7 h
    refine t_F rfl hb7 ?_
    refine t_skip ?_
    refine t_then hK4 ?_
    refine t_seq fun K12 hK13 => ?_
    refine t_seq fun K14 hK15 => ?_
    refine t_region ?_
    refine c_p (r_mv rfl) rfl ?_
    refine c_p (r_neg rfl) rfl ?_
    refine c_p (r_i rfl rfl rfl) rfl ?_
    refine t_nil ?_
    refine t_then hK15 ?_
    rcases Bool.eq_false_or_eq_true (decide ((IntKind.wrap .i64 (0 - z0)) < 0)) with hb16 | hb16
    · replace h := itT hb16 h
      refine t_T rfl hb16 ?_
      refine t_seq fun K17 hK18 => ?_
      refine t_region ?_
      refine c_p (r_mv rfl) rfl ?_
      refine c_p (r_quo rfl rfl (by decide)) rfl ?_
      refine c_p (r_neg rfl) rfl ?_
      obtain ⟨y19, hy19, h⟩ := bs h
      refine nx (t_ca (C33 _ _ hy19) Tryd.func33 nm33 rfl rfl rfl .nil (fun w Z hA => (V1 a0 hA (V1 a1 hA V0))) rfl fun t20 => ?_)
      obtain ⟨hc21, h⟩ := ck_out h
      refine c_p (r_cat rfl rfl hc21) rfl ?_
      refine c_p (r_mv rfl) rfl ?_
      refine c_p (r_rem rfl rfl (by decide)) rfl ?_
      refine c_p (r_neg rfl) rfl ?_
      obtain ⟨y22, hy22, h⟩ := bs h
      refine nx (t_ca (C33 _ _ hy22) Tryd.func33 nm33 rfl rfl rfl .nil (fun w Z hA => (V1 a0 hA (V1 a1 hA V0))) rfl fun t23 => ?_)
      obtain ⟨hc24, h⟩ := ck_out h
      refine c_p (r_cat rfl rfl hc24) rfl ?_
      refine c_p (r_as rfl) rfl ?_
      refine t_nil ?_
      refine t_then hK18 ?_
      refine t_ret ?_
      exact tr (ret1 rfl (v_t rfl) (t_leave (hQ _ (Option.some.inj h)) () rfl (fun w Z hA => V0) .nil))
    · replace h := itF hb16 h
      refine t_F rfl hb16 ?_
      refine t_skip ?_
      refine t_then hK13 ?_
      refine t_seq fun K25 hK26 => ?_
      refine t_region ?_
      refine c_p (r_mv rfl) rfl ?_
      refine c_p (r_neg rfl) rfl ?_
      obtain ⟨y27, hy27, h⟩ := bs h
      refine nx (t_ca (C33 _ _ hy27) Tryd.func33 nm33 rfl rfl rfl .nil (fun w Z hA => (V1 a0 hA (V1 a1 hA V0))) rfl fun t28 => ?_)
      obtain ⟨hc29, h⟩ := ck_out h
      refine c_p (r_cat rfl rfl hc29) rfl ?_
      refine c_p (r_as rfl) rfl ?_
      refine t_nil ?_
      refine t_then hK26 ?_
      refine t_ret ?_
      exact ret1 rfl (v_t rfl) (t_leave (hQ _ (Option.some.inj h)) () rfl (fun w Z hA => V0) .nil)
end
end Go.Proofs.YthmjklpmamfncaaDoor.Gx

/-
  DERIVED: THE SHELF's CONTRACTS AT THIS DUMP, IN PLAIN WORDS (tools/lay-plain.mjs out of 'YthmjklpmamfncaaDoorLayScratch.lean', which tools/lay-shelf.mjs wrote): THE SAME DECLARATIONS UNDER THE SAME NAMES: 'import', 'namespace', 'open', 'def', 'theorem' AND NOTHING ELSE: no command of the shelf's: FOR A HAND-IN. Each laying: the table of numbers ('.._ren') and one theorem, a field a fact of the dump's own or the kernel's comparison; each contract: ONE APPLICATION.
-/
namespace Go.Proofs
open Go.Shelf
def Tryd.laysItoa_ren : Go.Shelf.Ren := ⟨fun | 171 => 27 | 243 => 32 | 246 => 48 | 283 => 59 | 284 => 60 | 285 => 61 | 286 => 62 | 129 => 76 | 317 => 78 | 318 => 79 | 319 => 80 | 320 => 81 | 337 => 91 | 338 => 92 | n => n, fun | 3 => 3 | 9 => 9 | 2 => 2 | 4 => 4 | 171 => 92 | 0 => 0 | 53 => 93 | 37 => 22 | 5 => 5 | 173 => 96 | 212 => 112 | 51 => 109 | 20 => 20 | 213 => 113 | 46 => 87 | 232 => 130 | 233 => 131 | n => n, fun | 17 => 0 | 18 => 2 | 19 => 3 | n => n⟩
theorem Tryd.laysItoa : Go.Proofs.LaysM.n171 Tryd.prog Tryd.laysItoa_ren := {
  mixed := by kernel_rfl
  f129 := Tryd.func76.trans (congrArg some (by kernel_rfl))
  f171 := Tryd.func27.trans (congrArg some (by kernel_rfl))
  f243 := Tryd.func32.trans (congrArg some (by kernel_rfl))
  f246 := Tryd.func48.trans (congrArg some (by kernel_rfl))
  f283 := Tryd.func59.trans (congrArg some (by kernel_rfl))
  f284 := Tryd.func60.trans (congrArg some (by kernel_rfl))
  f285 := Tryd.func61.trans (congrArg some (by kernel_rfl))
  f286 := Tryd.func62.trans (congrArg some (by kernel_rfl))
  f317 := Tryd.func78.trans (congrArg some (by kernel_rfl))
  f318 := Tryd.func79.trans (congrArg some (by kernel_rfl))
  f319 := Tryd.func80.trans (congrArg some (by kernel_rfl))
  f320 := Tryd.func81.trans (congrArg some (by kernel_rfl))
  f337 := Tryd.func91.trans (congrArg some (by kernel_rfl))
  f338 := Tryd.func92.trans (congrArg some (by kernel_rfl))
  t0 := Tryd.underlying0
  a0 := Tryd.isAgg0
  z0 := Tryd.sizeOf0
  v0 := Tryd.zeroValue0
  t2 := Tryd.underlying2
  a2 := Tryd.isAgg2
  z2 := Tryd.sizeOf2
  v2 := Tryd.zeroValue2
  t3 := Tryd.underlying3
  a3 := Tryd.isAgg3
  z3 := Tryd.sizeOf3
  v3 := Tryd.zeroValue3
  t4 := Tryd.underlying4
  a4 := Tryd.isAgg4
  z4 := Tryd.sizeOf4
  v4 := Tryd.zeroValue4
  t5 := Tryd.underlying5
  a5 := Tryd.isAgg5
  z5 := Tryd.sizeOf5
  v5 := Tryd.zeroValue5
  t9 := Tryd.underlying9
  a9 := Tryd.isAgg9
  z9 := Tryd.sizeOf9
  v9 := Tryd.zeroValue9
  t20 := Tryd.underlying20
  a20 := Tryd.isAgg20
  z20 := Tryd.sizeOf20
  v20 := Tryd.zeroValue20
  t37 := Tryd.underlying22
  a37 := Tryd.isAgg22
  z37 := Tryd.sizeOf22
  v37 := Tryd.zeroValue22
  t46 := Tryd.underlying87
  a46 := Tryd.isAgg87
  z46 := Tryd.sizeOf87
  v46 := Tryd.zeroValue87
  t51 := Tryd.underlying109
  a51 := Tryd.isAgg109
  z51 := Tryd.sizeOf109
  v51 := Tryd.zeroValue109
  t53 := Tryd.underlying93
  a53 := Tryd.isAgg93
  z53 := Tryd.sizeOf93
  v53 := Tryd.zeroValue93
  t171 := Tryd.underlying92
  a171 := Tryd.isAgg92
  z171 := Tryd.sizeOf92
  v171 := Tryd.zeroValue92
  t173 := Tryd.underlying96
  a173 := Tryd.isAgg96
  z173 := Tryd.sizeOf96
  v173 := Tryd.zeroValue96
  t212 := Tryd.underlying112
  a212 := Tryd.isAgg112
  z212 := Tryd.sizeOf112
  v212 := Tryd.zeroValue112
  t213 := Tryd.underlying113
  a213 := Tryd.isAgg113
  z213 := Tryd.sizeOf113
  t232 := Tryd.underlying130
  a232 := Tryd.isAgg130
  z232 := Tryd.sizeOf130
  v232 := Tryd.zeroValue130
  t233 := Tryd.underlying131
  a233 := Tryd.isAgg131
  z233 := Tryd.sizeOf131
  v233 := Tryd.zeroValue131
  g17 := by kernel_rfl
  g18 := by kernel_rfl
  g19 := by kernel_rfl
  i0 := by kernel_rfl
  i2 := by kernel_rfl
  i3 := by kernel_rfl
  i4 := by kernel_rfl
  i5 := by kernel_rfl
  i9 := by kernel_rfl
  i20 := by kernel_rfl
  i37 := by kernel_rfl
  i46 := by kernel_rfl
  i51 := by kernel_rfl
  i53 := by kernel_rfl
  i171 := by kernel_rfl
  i173 := by kernel_rfl
  i212 := by kernel_rfl
  i232 := by kernel_rfl
  i233 := by kernel_rfl
  m17 := by kernel_rfl
  m18 := by kernel_rfl
  m19 := by kernel_rfl }
def Tryd.laysSort_ren : Go.Shelf.Ren := ⟨fun | 189 => 35 | 125 => 52 | 257 => 51 | 128 => 75 | 129 => 76 | 294 => 66 | 295 => 67 | 296 => 68 | 297 => 69 | 298 => 70 | 299 => 71 | 216 => 72 | 300 => 73 | 301 => 74 | 328 => 85 | 329 => 86 | 330 => 87 | 331 => 88 | 332 => 89 | 215 => 90 | 343 => 94 | n => n, fun | 28 => 49 | 3 => 3 | 46 => 87 | 0 => 0 | 51 => 109 | 53 => 93 | 4 => 4 | 183 => 102 | 182 => 101 | 131 => 98 | 5 => 5 | 9 => 9 | 218 => 118 | 222 => 122 | 228 => 127 | 229 => 128 | n => n, fun | n => n⟩
theorem Tryd.laysSort : Go.Proofs.Lays.n189 Tryd.prog Tryd.laysSort_ren := {
  mixed := by kernel_rfl
  f125 := Tryd.func52.trans (congrArg some (by kernel_rfl))
  f128 := Tryd.func75.trans (congrArg some (by kernel_rfl))
  f129 := Tryd.func76.trans (congrArg some (by kernel_rfl))
  f189 := Tryd.func35.trans (congrArg some (by kernel_rfl))
  f215 := Tryd.func90.trans (congrArg some (by kernel_rfl))
  f216 := Tryd.func72.trans (congrArg some (by kernel_rfl))
  f257 := Tryd.func51.trans (congrArg some (by kernel_rfl))
  f294 := Tryd.func66.trans (congrArg some (by kernel_rfl))
  f295 := Tryd.func67.trans (congrArg some (by kernel_rfl))
  f296 := Tryd.func68.trans (congrArg some (by kernel_rfl))
  f297 := Tryd.func69.trans (congrArg some (by kernel_rfl))
  f298 := Tryd.func70.trans (congrArg some (by kernel_rfl))
  f299 := Tryd.func71.trans (congrArg some (by kernel_rfl))
  f300 := Tryd.func73.trans (congrArg some (by kernel_rfl))
  f301 := Tryd.func74.trans (congrArg some (by kernel_rfl))
  f328 := Tryd.func85.trans (congrArg some (by kernel_rfl))
  f329 := Tryd.func86.trans (congrArg some (by kernel_rfl))
  f330 := Tryd.func87.trans (congrArg some (by kernel_rfl))
  f331 := Tryd.func88.trans (congrArg some (by kernel_rfl))
  f332 := Tryd.func89.trans (congrArg some (by kernel_rfl))
  f343 := Tryd.func94.trans (congrArg some (by kernel_rfl))
  t0 := Tryd.underlying0
  a0 := Tryd.isAgg0
  z0 := Tryd.sizeOf0
  v0 := Tryd.zeroValue0
  t3 := Tryd.underlying3
  a3 := Tryd.isAgg3
  z3 := Tryd.sizeOf3
  v3 := Tryd.zeroValue3
  t4 := Tryd.underlying4
  a4 := Tryd.isAgg4
  z4 := Tryd.sizeOf4
  v4 := Tryd.zeroValue4
  t5 := Tryd.underlying5
  a5 := Tryd.isAgg5
  z5 := Tryd.sizeOf5
  v5 := Tryd.zeroValue5
  t9 := Tryd.underlying9
  a9 := Tryd.isAgg9
  z9 := Tryd.sizeOf9
  v9 := Tryd.zeroValue9
  t28 := Tryd.underlying49
  a28 := Tryd.isAgg49
  z28 := Tryd.sizeOf49
  v28 := Tryd.zeroValue49
  t46 := Tryd.underlying87
  a46 := Tryd.isAgg87
  z46 := Tryd.sizeOf87
  v46 := Tryd.zeroValue87
  t51 := Tryd.underlying109
  a51 := Tryd.isAgg109
  z51 := Tryd.sizeOf109
  v51 := Tryd.zeroValue109
  t53 := Tryd.underlying93
  a53 := Tryd.isAgg93
  z53 := Tryd.sizeOf93
  v53 := Tryd.zeroValue93
  t131 := Tryd.underlying98
  a131 := Tryd.isAgg98
  z131 := Tryd.sizeOf98
  v131 := Tryd.zeroValue98
  t182 := Tryd.underlying101
  a182 := Tryd.isAgg101
  z182 := Tryd.sizeOf101
  v182 := Tryd.zeroValue101
  t183 := Tryd.underlying102
  a183 := Tryd.isAgg102
  z183 := Tryd.sizeOf102
  v183 := Tryd.zeroValue102
  t218 := Tryd.underlying118
  a218 := Tryd.isAgg118
  z218 := Tryd.sizeOf118
  v218 := Tryd.zeroValue118
  t222 := Tryd.underlying122
  a222 := Tryd.isAgg122
  z222 := Tryd.sizeOf122
  v222 := Tryd.zeroValue122
  t228 := Tryd.underlying127
  a228 := Tryd.isAgg127
  z228 := Tryd.sizeOf127
  v228 := Tryd.zeroValue127
  t229 := Tryd.underlying128
  a229 := Tryd.isAgg128
  z229 := Tryd.sizeOf128
  v229 := Tryd.zeroValue128 }
def Tryd.laysCompact_ren : Go.Shelf.Ren := ⟨fun | 20 => 36 | n => n, fun | 22 => 49 | 3 => 3 | 4 => 4 | 0 => 0 | n => n, fun | n => n⟩
theorem Tryd.laysCompact : Go.Proofs.Lays2.n20 Tryd.prog Tryd.laysCompact_ren := {
  mixed := by kernel_rfl
  f20 := Tryd.func36.trans (congrArg some (by kernel_rfl))
  t0 := Tryd.underlying0
  a0 := Tryd.isAgg0
  z0 := Tryd.sizeOf0
  v0 := Tryd.zeroValue0
  t3 := Tryd.underlying3
  a3 := Tryd.isAgg3
  z3 := Tryd.sizeOf3
  v3 := Tryd.zeroValue3
  t4 := Tryd.underlying4
  a4 := Tryd.isAgg4
  z4 := Tryd.sizeOf4
  v4 := Tryd.zeroValue4
  t22 := Tryd.underlying49
  a22 := Tryd.isAgg49
  z22 := Tryd.sizeOf49
  v22 := Tryd.zeroValue49
  i3 := by kernel_rfl }
end Go.Proofs

/- Function 27, strconv.Itoa: what it answers as a plain function, and that the Go code comes to exactly that (where the plain function gives an answer). -/
set_option linter.unusedVariables false
set_option linter.unusedSimpArgs false
namespace Go.Proofs.YthmjklpmamfncaaDoor.Gx
open Go.Gx Go.RowKit
noncomputable section
open Go.Shelf
/-! ### strconv.Itoa -/
def f_strconv_Itoa (z0 : Int) : Option ByteArray := ck (-9223372036854775808 ≤ z0 ∧ z0 ≤ 9223372036854775807) <| some ⟨(Lib.itoa z0).toArray⟩
set_option maxHeartbeats 4000000 in
theorem C27 (z0 : Int) (r : ByteArray) (h : f_strconv_Itoa z0 = some r) : FunG Tryd.prog 27 #[.int .i64 z0] [g_pow10, g_kinds] [] (fun (_ : Unit) => .string r) (fun _ => []) (fun _ => []) := by
  unfold f_strconv_Itoa at h
  obtain ⟨hc, h⟩ := ck_out h
  obtain rfl := Option.some.inj h
  refine funG_below fun w Z hZ hA => ?_
  obtain ⟨⟨_, cs, hv, he⟩, _⟩ := hA
  refine (Any.strconv_Itoa Tryd.laysItoa z0 hc.1 hc.2 w (by unfold Lib.TabIs; rw [hv, he])).mono ?_
  rintro e w' ⟨rfl, k, os, rfl⟩
  exact ⟨⟨(), rfl⟩, grow_below w k os⟩
end
end Go.Proofs.YthmjklpmamfncaaDoor.Gx

/- Numbers as texts: the reference's are strconv's. -/
set_option linter.unusedVariables false
set_option maxRecDepth 100000
namespace Go.Proofs.YthmjklpmamfncaaDoor.Gx
open Go.Gx Go.RowKit
def bz (l : List UInt8) : ByteArray := ⟨l.toArray⟩
theorem bz_append (a b : List UInt8) : bz a ++ bz b = bz (a ++ b) := by
  apply ByteArray.ext
  simp [bz]
theorem bz_size (a : List UInt8) : (bz a).size = a.length := by simp [bz, ByteArray.size]
theorem digit {d : Int} (h0 : 0 ≤ d) (h : d < 10) : Utf8.encode (IntKind.wrap .i32 (IntKind.wrap .i64 (48 + d))) = bz [UInt8.ofNat (48 + d.toNat)] := by
  have : d = 0 ∨ d = 1 ∨ d = 2 ∨ d = 3 ∨ d = 4 ∨ d = 5 ∨ d = 6 ∨ d = 7 ∨ d = 8 ∨ d = 9 := by omega
  rcases this with rfl | rfl | rfl | rfl | rfl | rfl | rfl | rfl | rfl | rfl <;> rfl
theorem Decimal_loop : ∀ (k u : Nat) (s : List UInt8), 1 ≤ k → u ≤ k + 8 → u < 9223372036854775808 → s.length + Lib.nDigits u ≤ 100 →
    f_kauditref01_Decimal_l1 k u (bz s) = some (bz (Lib.decDigits u ++ s)) := by
  intro k
  induction k with
  | zero => intro u s h; omega
  | succ k ih =>
    intro u s _ hu hlt hs
    have hp := Lib.nDigits_pos u
    have hm : 1000000 ≤ maxStr := by unfold maxStr; omega
    rw [f_kauditref01_Decimal_l1]
    by_cases h : u < 10
    · refine ite_f (dec_f (by omega)) ?_
      unfold f_kauditref01_Decimal_j1
      rw [digit (d := (u : Int)) (by omega) (by omega), bz_append, Lib.decDigits, dif_pos h]
      refine ck_of (by rw [bz_size, bz_size]; simp; omega) ?_
      simp
    · have hd : ((u : Int)).tmod 10 = ((u % 10 : Nat) : Int) := by rw [tmod_nn (by omega)]; omega
      have hq : ((u : Int)).tdiv 10 = ((u / 10 : Nat) : Int) := by rw [Int.tdiv_eq_ediv_of_nonneg (by omega)]; omega
      have hn := Lib.nDigits_big h
      refine ite_t (dec_t (by omega)) ?_
      rw [hd, hq, digit (by omega) (by omega), bz_append, wrap_id (by omega) (by omega), Int.toNat_natCast]
      refine ck_of (by rw [bz_size, bz_size]; simp; omega) ?_
      refine (ih (u / 10) _ (by omega) (by omega) (by omega) (by simp only [List.length_append, List.length_cons, List.length_nil]; omega)).trans ?_
      conv => rhs; rw [Lib.decDigits, dif_neg h]
      simp [List.append_assoc]
theorem nDigits_le {u : Nat} (h : u < 9223372036854775809) : Lib.nDigits u ≤ 19 := by
  rcases Nat.lt_or_ge u 1 with h0 | h0
  · rw [Lib.nDigits_small (by omega)]; omega
  · rcases Nat.lt_or_ge (Lib.nDigits u) 20 with h1 | h1
    · omega
    · exfalso
      have key : ∀ n u : Nat, n + 1 ≤ Lib.nDigits u → 10 ^ n ≤ u ∨ u = 0 := by
        intro n
        induction n with
        | zero => intro u _; rcases Nat.eq_zero_or_pos u with h | h
                  · exact .inr h
                  · exact .inl (by omega)
        | succ n ih =>
          intro u hu
          by_cases h : u < 10
          · rw [Lib.nDigits_small h] at hu; omega
          · rw [Lib.nDigits_big h] at hu
            rcases ih (u / 10) (by omega) with h2 | h2
            · left; rw [Nat.pow_succ]; omega
            · omega
      rcases key 19 u (by omega) with h2 | h2
      · have : (10 : Nat) ^ 19 = 10000000000000000000 := by decide
        omega
      · omega
theorem Decimal_ok {u : Nat} (h : u < 9223372036854775808) : f_kauditref01_Decimal u = some (bz (Lib.decDigits u)) := by
  unfold f_kauditref01_Decimal
  have := nDigits_le (u := u) (by omega)
  have e := Decimal_loop ((((u : Int)) - (10)).toNat + 2) u [] (by omega) (by omega) h (by simp; omega)
  rw [List.append_nil] at e
  exact e
theorem itoa_len {n : Int} (h0 : -9223372036854775808 ≤ n) (h1 : n < 9223372036854775808) : (Lib.itoa n).length ≤ 20 := by
  unfold Lib.itoa
  split
  · rw [List.length_cons, Lib.decDigits_length]; have := nDigits_le (u := n.natAbs) (by omega); omega
  · rw [Lib.decDigits_length]; have := nDigits_le (u := n.toNat) (by omega); omega
theorem Itoa_ok {n : Int} (h0 : -9223372036854775808 ≤ n) (h1 : n < 9223372036854775808) : f_strconv_Itoa n = some (bz (Lib.itoa n)) := by
  unfold f_strconv_Itoa
  exact ck_of ⟨h0, by omega⟩ rfl
theorem Number_ok {n : Int} (h0 : -9223372036854775808 ≤ n) (h1 : n < 9223372036854775808) : f_kauditref02_Number n = some (bz (Lib.itoa n)) := by
  have hm : 1000000 ≤ maxStr := by unfold maxStr; omega
  unfold f_kauditref02_Number
  by_cases h : n ≥ 0
  · obtain ⟨u, rfl⟩ := Int.eq_ofNat_of_zero_le h
    refine ite_t (dec_t h) (bind_of (Decimal_ok (by omega)) ?_)
    unfold Lib.itoa
    rw [if_neg (by omega), Int.toNat_natCast]
  · refine ite_f (dec_f h) ?_
    have hI : Lib.itoa n = 45 :: Lib.decDigits n.natAbs := by unfold Lib.itoa; rw [if_pos (by omega)]
    rw [hI]
    have e45 : (⟨#[45]⟩ : ByteArray) = bz [45] := rfl
    by_cases hmin : n = -9223372036854775808
    · subst hmin
      refine ite_t (dec_t (by decide)) ?_
      have d1 : IntKind.wrap .i64 (0 - IntKind.wrap .i64 ((-9223372036854775808 : Int).tdiv 10)) = ((922337203685477580 : Nat) : Int) := by decide
      have d2 : IntKind.wrap .i64 (0 - ((-9223372036854775808 : Int).tmod 10)) = ((8 : Nat) : Int) := by decide
      rw [d1, d2, e45]
      have l1 := nDigits_le (u := 922337203685477580) (by omega)
      refine bind_of (Decimal_ok (by omega)) (ck_of (by rw [bz_size, bz_size, Lib.decDigits_length]; simp; omega) (bind_of (Decimal_ok (by omega)) (ck_of ?_ ?_)))
      · rw [bz_append, bz_size, bz_size, Lib.decDigits_length, List.length_append, Lib.decDigits_length]
        have := nDigits_le (u := 8) (by omega)
        simp; omega
      · rw [bz_append, bz_append]
        congr 2
        have : (-9223372036854775808 : Int).natAbs = 9223372036854775808 := rfl
        rw [this]
        conv => rhs; rw [Lib.decDigits, dif_neg (by omega)]
        rw [Lib.decDigits_one (i := 8) (by omega)]
        rfl
    · have w : IntKind.wrap .i64 (0 - n) = ((n.natAbs : Nat) : Int) := by rw [wrap_id (by omega) (by omega)]; omega
      rw [w]
      refine ite_f (dec_f (by omega)) ?_
      rw [e45]
      have l1 := nDigits_le (u := n.natAbs) (by omega)
      refine bind_of (Decimal_ok (by omega)) (ck_of (by rw [bz_size, bz_size, Lib.decDigits_length]; simp; omega) ?_)
      rw [bz_append]; rfl
end Go.Proofs.YthmjklpmamfncaaDoor.Gx

/- Function 13, kaudit/coverage.Format: what it answers as a plain function, and that the Go code comes to exactly that (where the plain function gives an answer). -/
set_option linter.unusedVariables false
set_option linter.unusedSimpArgs false
namespace Go.Proofs.YthmjklpmamfncaaDoor.Gx
open Go.Gx Go.RowKit
noncomputable section
/-! ### kaudit/coverage.Format: function 13 -/
def f_coverage_Format_l1 (z0 : ByteArray) (z1 : Int) (z2 : (List api_Span)) : Nat → ByteArray → Int → Option (ByteArray)
  | 0, _, _ => none
  | k110 + 1, x106, x107 => if (decide (x107 < (z2.length : Int))) = true then ((at_ z2 x107).bind fun el124 => if (el124.Kind != 1) = true then (ck (z0.size + (⟨#[32]⟩ : ByteArray).size ≤ maxStr) <| ck (0 ≤ el124.Kind ∧ el124.Kind < 5) <| (at_ [(⟨#[]⟩ : ByteArray), (⟨#[]⟩ : ByteArray), (⟨#[112, 97, 114, 116, 105, 97, 108]⟩ : ByteArray), (⟨#[108, 111, 115, 116]⟩ : ByteArray), (⟨#[97, 98, 115, 101, 110, 116]⟩ : ByteArray)] el124.Kind).bind fun el134 => (f_strconv_Itoa z1).bind fun y135 => ck ((z0 ++ (⟨#[32]⟩ : ByteArray)).size + y135.size ≤ maxStr) <| ck (((z0 ++ (⟨#[32]⟩ : ByteArray)) ++ y135).size + (⟨#[32]⟩ : ByteArray).size ≤ maxStr) <| (f_strconv_Itoa el124.From).bind fun y139 => ck ((((z0 ++ (⟨#[32]⟩ : ByteArray)) ++ y135) ++ (⟨#[32]⟩ : ByteArray)).size + y139.size ≤ maxStr) <| ck (((((z0 ++ (⟨#[32]⟩ : ByteArray)) ++ y135) ++ (⟨#[32]⟩ : ByteArray)) ++ y139).size + (⟨#[45]⟩ : ByteArray).size ≤ maxStr) <| (f_strconv_Itoa el124.To).bind fun y143 => ck ((((((z0 ++ (⟨#[32]⟩ : ByteArray)) ++ y135) ++ (⟨#[32]⟩ : ByteArray)) ++ y139) ++ (⟨#[45]⟩ : ByteArray)).size + y143.size ≤ maxStr) <| ck (((((((z0 ++ (⟨#[32]⟩ : ByteArray)) ++ y135) ++ (⟨#[32]⟩ : ByteArray)) ++ y139) ++ (⟨#[45]⟩ : ByteArray)) ++ y143).size + (⟨#[32]⟩ : ByteArray).size ≤ maxStr) <| ck ((((((((z0 ++ (⟨#[32]⟩ : ByteArray)) ++ y135) ++ (⟨#[32]⟩ : ByteArray)) ++ y139) ++ (⟨#[45]⟩ : ByteArray)) ++ y143) ++ (⟨#[32]⟩ : ByteArray)).size + el134.size ≤ maxStr) <| ck (((((((((z0 ++ (⟨#[32]⟩ : ByteArray)) ++ y135) ++ (⟨#[32]⟩ : ByteArray)) ++ y139) ++ (⟨#[45]⟩ : ByteArray)) ++ y143) ++ (⟨#[32]⟩ : ByteArray)) ++ el134).size + (⟨#[10]⟩ : ByteArray).size ≤ maxStr) <| ck (x106.size + (((((((((z0 ++ (⟨#[32]⟩ : ByteArray)) ++ y135) ++ (⟨#[32]⟩ : ByteArray)) ++ y139) ++ (⟨#[45]⟩ : ByteArray)) ++ y143) ++ (⟨#[32]⟩ : ByteArray)) ++ el134) ++ (⟨#[10]⟩ : ByteArray)).size ≤ maxStr) <| f_coverage_Format_l1 z0 z1 z2 k110 (x106 ++ (((((((((z0 ++ (⟨#[32]⟩ : ByteArray)) ++ y135) ++ (⟨#[32]⟩ : ByteArray)) ++ y139) ++ (⟨#[45]⟩ : ByteArray)) ++ y143) ++ (⟨#[32]⟩ : ByteArray)) ++ el134) ++ (⟨#[10]⟩ : ByteArray))) (IntKind.wrap .i64 (x107 + 1))) else (f_coverage_Format_l1 z0 z1 z2 k110 x106 (IntKind.wrap .i64 (x107 + 1)))) else (some x106)
def f_coverage_Format (z0 : ByteArray) (z1 : Int) (z2 : (List api_Span)) : Option (ByteArray) := (f_coverage_Proper z2).bind fun y10 => if y10 = true then (f_coverage_Format_l1 z0 z1 z2 ((((z2.length : Int) : Int) - (0)).toNat + 1) (⟨#[]⟩ : ByteArray) 0) else (some (⟨#[]⟩ : ByteArray))
set_option maxHeartbeats 4000000 in
set_option maxRecDepth 100000 in
theorem C13 (z0 : ByteArray) (z1 : Int) (z2 : (List api_Span)) (p1 : Option Addr) (m2 : Nat) (c3 : Nat) (r : ByteArray) (h : f_coverage_Format z0 z1 z2 = some r) : FunG Tryd.prog 13 #[.string z0, .int .i64 z1, .slice p1 m2 c3] [vw (kSlice 46 k_api_Span) z2 [.slice p1 m2 c3], g_pow10, g_kinds] [] (fun (_ : Unit) => .string r) (fun _ => []) (fun _ => []) := by
  unfold f_coverage_Format at h
  refine t_begin (args := [.string z0, .int .i64 z1, .slice p1 m2 c3]) Tryd.func13 rfl Tryd.ntmps13 rfl fun c R hR => ?_
  have hQ : ∀ X, X = r → ∀ w2 (_ : Unit), PostG c.w0 w2 c.M c.Y [] [] → R (.returned (.string X)) w2 := fun X e => by subst e; exact hR
  refine t_seq fun K4 hK5 => ?_
  refine t_region ?_
  refine c_p (r_as rfl) rfl ?_
  refine t_nil ?_
  refine t_then hK5 ?_
  refine t_seq fun K6 hK7 => ?_
  refine t_seq fun K8 hK9 => ?_
  refine t_region ?_
  refine c_p (r_mv rfl) rfl ?_
  obtain ⟨y10, hy10, h⟩ := bs h
  refine nx (t_ca (C8 _ _ _ _ _ hy10) Tryd.func8 nm8 rfl rfl rfl .nil (fun w Z hA => (V1 a0 hA (V1 a1 hA (V1 a2 hA V0)))) rfl fun t11 => ?_)
  refine c_p (r_not rfl) rfl ?_
  refine t_nil ?_
  refine t_then hK9 ?_
  rcases Bool.eq_false_or_eq_true y10 with hb12 | hb12
  · replace h := itT hb12 h
    refine t_F rfl (congrArg Bool.not hb12) ?_
    refine t_skip ?_
    refine t_then hK7 ?_
    refine t_seq fun K15 hK16 => ?_
    refine t_region ?_
    refine c_p (r_bu (ps := [(2, .string (⟨#[112, 97, 114, 116, 105, 97, 108]⟩ : ByteArray)), (3, .string (⟨#[108, 111, 115, 116]⟩ : ByteArray)), (4, .string (⟨#[97, 98, 115, 101, 110, 116]⟩ : ByteArray))]) (cs := [.string (⟨#[]⟩ : ByteArray), .string (⟨#[]⟩ : ByteArray), .string (⟨#[112, 97, 114, 116, 105, 97, 108]⟩ : ByteArray), .string (⟨#[108, 111, 115, 116]⟩ : ByteArray), .string (⟨#[97, 98, 115, 101, 110, 116]⟩ : ByteArray)]) rfl (by kernel_rfl)) rfl ?_
    refine nx (t_al (cs := ((List.replicate 5 (⟨#[]⟩ : ByteArray)).map Value.string)) ti52 rfl rfl fun g17 => ?_)
    refine nx (t_sta (vs := ([(⟨#[]⟩ : ByteArray), (⟨#[]⟩ : ByteArray), (⟨#[112, 97, 114, 116, 105, 97, 108]⟩ : ByteArray), (⟨#[108, 111, 115, 116]⟩ : ByteArray), (⟨#[97, 98, 115, 101, 110, 116]⟩ : ByteArray)].map Value.string)) u0 ti52 rfl rfl rfl rfl (by simp) rfl ?_)
    refine t_nil ?_
    refine t_then hK16 ?_
    refine t_seq fun K18 hK19 => ?_
    refine t_region ?_
    refine c_p (r_as rfl) rfl ?_
    refine t_nil ?_
    refine t_then hK19 ?_
    refine t_seq fun K20 hK21 => ?_
    refine t_seq fun K22 hK23 => ?_
    refine t_region ?_
    refine c_p (r_mv rfl) rfl ?_
    refine c_s (r_lnA a0 Tryd.underlying23 rfl) rfl ?_
    refine c_p (r_mv rfl) rfl ?_
    refine t_nil ?_
    refine t_then hK23 ?_
    refine t_block ?_
    refine t_lp fun k104 hk105 => ?_
    have LP108 : ∀ (k110 : Nat) (x106 : ByteArray) (x107 : Int), f_coverage_Format_l1 z0 z1 z2 k110 x106 x107 = some r → T 50 c [vw (kSlice 46 k_api_Span) z2 [.slice p1 m2 c3], g_pow10, g_kinds] [[blk g17 ([(⟨#[]⟩ : ByteArray), (⟨#[]⟩ : ByteArray), (⟨#[112, 97, 114, 116, 105, 97, 108]⟩ : ByteArray), (⟨#[108, 111, 115, 116]⟩ : ByteArray), (⟨#[97, 98, 115, 101, 110, 116]⟩ : ByteArray)].map Value.string) 52]] [(0, .string z0), (1, .int .i64 z1), (7, .pointer (some ⟨g17, 0, none⟩)), (8, .string x106), (15, .slice p1 m2 c3), (16, .int .i64 (z2.length : Int)), (17, .int .i64 x107)] k104 := by
      intro k110
      induction k110 with
      | zero => intro x106 x107 h109; rewrite [f_coverage_Format_l1] at h109; cases h109
      | succ k110 ih111 =>
        intro x106 x107 h109
        rewrite [f_coverage_Format_l1] at h109
        refine ti hk105 ?_
        refine t_seq fun K112 hK113 => ?_
        refine t_region ?_
        refine c_p (r_i rfl rfl rfl) rfl ?_
        refine t_nil ?_
        refine t_then hK113 ?_
        refine t_seq fun K114 hK115 => ?_
        rcases Bool.eq_false_or_eq_true (decide (x107 < (z2.length : Int))) with hb116 | hb116
        · replace h109 := itT hb116 h109
          refine t_T rfl hb116 ?_
          refine t_skip ?_
          refine t_then hK115 ?_
          refine t_seq fun K117 hK118 => ?_
          refine t_block ?_
          refine t_seq fun K119 hK120 => ?_
          refine t_region ?_
          obtain ⟨el124, hel124, h109⟩ := bs h109
          refine t_q a0 hel124 fun q121 hq122 hm123 => ?_
          refine c_p (r_idx hq122 hm123 hel124 Tryd.underlying23 ti46 rfl rfl) rfl ?_
          refine t_op k_api_Span_opens a0 hel124 fun t125 => ?_
          refine c_s (r_eA a0 hq122 Tryd.underlying46 rfl ti46 rfl rfl) rfl ?_
          refine nx (t_al (cs := [.int .i64 0, .int .i64 0, .int .i64 0]) ti46 rfl rfl fun g126 => ?_)
          refine nx (t_st u0 ti46 rfl rfl rfl rfl rfl (.t (.s (.s (.s .z)))) ?_)
          refine t_nil ?_
          refine t_then hK120 ?_
          refine t_seq fun K127 hK128 => ?_
          refine t_region ?_
          refine c_p (r_fa (off' := 2) Tryd.underlying46 rfl ti3 rfl rfl) rfl ?_
          refine c_s (r_ld a0 Tryd.underlying3 rfl rfl rfl) rfl ?_
          refine c_p (r_i rfl rfl rfl) rfl ?_
          refine t_nil ?_
          refine t_then hK128 ?_
          rcases Bool.eq_false_or_eq_true (el124.Kind != 1) with hb129 | hb129
          · replace h109 := itT hb129 h109
            refine t_T rfl hb129 ?_
            refine t_draw mixed (fun w_ => Bk g126 [.int .i64 el124.From, .int .i64 el124.To, .int .i64 el124.Kind] w_ ∧ Bk g17 ([(⟨#[]⟩ : ByteArray), (⟨#[]⟩ : ByteArray), (⟨#[112, 97, 114, 116, 105, 97, 108]⟩ : ByteArray), (⟨#[108, 111, 115, 116]⟩ : ByteArray), (⟨#[97, 98, 115, 101, 110, 116]⟩ : ByteArray)].map Value.string) w_ ∧ True) [8, 13, 18, 20] [4, 9, 14] rfl ?_
            refine q_p 0 (panic_block (panic_then (panic_then (panic_block (panic_then panic_body))))) rfl (by kernel_rfl) W0 (r_mv rfl) rfl ?_
            refine q_p 1 (panic_block (panic_then (panic_then (panic_block (panic_then panic_body))))) rfl (by kernel_rfl) W0 (r_mv rfl) rfl ?_
            obtain ⟨hc132, h109⟩ := ck_out h109
            refine q_p 2 (panic_block (panic_then (panic_then (panic_block (panic_then panic_body))))) rfl (by kernel_rfl) W0 (r_cat rfl rfl hc132) rfl ?_
            refine q_p 3 (panic_block (panic_then (panic_then (panic_block (panic_then panic_body))))) rfl (by kernel_rfl) W0 (r_mv rfl) rfl ?_
            refine q_p 7 (panic_block (panic_then (panic_then (panic_block (panic_then panic_body))))) rfl (by kernel_rfl) W0 (r_fa (off' := 0) Tryd.underlying46 rfl ti3 rfl rfl) rfl ?_
            refine q_s 8 (panic_block (panic_then (panic_then (panic_block (panic_then panic_body))))) rfl (by kernel_rfl) W0 (by kernel_rfl) (fun w H => ⟨bk a0 H, bk a1 H, trivial⟩) (b_ld (fun _ h => h.1) Tryd.underlying3 rfl rfl rfl) rfl ?_
            refine q_p 12 (panic_block (panic_then (panic_then (panic_block (panic_then panic_body))))) rfl (by kernel_rfl) W0 (r_fa (off' := 1) Tryd.underlying46 rfl ti3 rfl rfl) rfl ?_
            refine q_s 13 (panic_block (panic_then (panic_then (panic_block (panic_then panic_body))))) rfl (by kernel_rfl) W0 (by kernel_rfl) (fun w H => ⟨bk a0 H, bk a1 H, trivial⟩) (b_ld (fun _ h => h.1) Tryd.underlying3 rfl rfl rfl) rfl ?_
            refine q_p 17 (panic_block (panic_then (panic_then (panic_block (panic_then panic_body))))) rfl (by kernel_rfl) W0 (r_fa (off' := 2) Tryd.underlying46 rfl ti3 rfl rfl) rfl ?_
            refine q_s 18 (panic_block (panic_then (panic_then (panic_block (panic_then panic_body))))) rfl (by kernel_rfl) W0 (by kernel_rfl) (fun w H => ⟨bk a0 H, bk a1 H, trivial⟩) (b_ld (fun _ h => h.1) Tryd.underlying3 rfl rfl rfl) rfl ?_
            obtain ⟨hc133, h109⟩ := ck_out h109
            refine q_p 19 (panic_block (panic_then (panic_then (panic_block (panic_then panic_body))))) rfl (by kernel_rfl) W0 (r_ixA Tryd.underlying52 ti9 rfl rfl hc133) rfl ?_
            obtain ⟨el134, hel134, h109⟩ := bs h109
            refine q_s 20 (panic_block (panic_then (panic_then (panic_block (panic_then panic_body))))) rfl (by kernel_rfl) W0 (by kernel_rfl) (fun w H => ⟨bk a0 H, bk a1 H, trivial⟩) (b_ld (fun _ h => h.2.1) Tryd.underlying9 rfl rfl (at_map hel134)) rfl ?_
            refine d1 4 rfl (by kernel_rfl) (by kernel_rfl) ?_
            obtain ⟨y135, hy135, h109⟩ := bs h109
            refine t_ca (C27 _ _ hy135) Tryd.func27 nm27 rfl rfl rfl .nil (fun w Z hA => (V1 a2 hA (V1 a3 hA V0))) rfl fun t136 => ?_
            refine dk (fun w H => ⟨bk a0 H, bk a1 H, trivial⟩) ?_
            obtain ⟨hc137, h109⟩ := ck_out h109
            refine q_p 5 (panic_block (panic_then (panic_then (panic_block (panic_then panic_body))))) rfl (by kernel_rfl) W0 (r_cat rfl rfl hc137) rfl ?_
            obtain ⟨hc138, h109⟩ := ck_out h109
            refine q_p 6 (panic_block (panic_then (panic_then (panic_block (panic_then panic_body))))) rfl (by kernel_rfl) W0 (r_cat rfl rfl hc138) rfl ?_
            refine d1 9 rfl (by kernel_rfl) (by kernel_rfl) ?_
            obtain ⟨y139, hy139, h109⟩ := bs h109
            refine t_ca (C27 _ _ hy139) Tryd.func27 nm27 rfl rfl rfl .nil (fun w Z hA => (V1 a2 hA (V1 a3 hA V0))) rfl fun t140 => ?_
            refine dk (fun w H => ⟨bk a0 H, bk a1 H, trivial⟩) ?_
            obtain ⟨hc141, h109⟩ := ck_out h109
            refine q_p 10 (panic_block (panic_then (panic_then (panic_block (panic_then panic_body))))) rfl (by kernel_rfl) W0 (r_cat rfl rfl hc141) rfl ?_
            obtain ⟨hc142, h109⟩ := ck_out h109
            refine q_p 11 (panic_block (panic_then (panic_then (panic_block (panic_then panic_body))))) rfl (by kernel_rfl) W0 (r_cat rfl rfl hc142) rfl ?_
            refine d1 14 rfl (by kernel_rfl) (by kernel_rfl) ?_
            obtain ⟨y143, hy143, h109⟩ := bs h109
            refine t_ca (C27 _ _ hy143) Tryd.func27 nm27 rfl rfl rfl .nil (fun w Z hA => (V1 a2 hA (V1 a3 hA V0))) rfl fun t144 => ?_
            refine dk (fun w H => ⟨bk a0 H, bk a1 H, trivial⟩) ?_
            obtain ⟨hc145, h109⟩ := ck_out h109
            refine q_p 15 (panic_block (panic_then (panic_then (panic_block (panic_then panic_body))))) rfl (by kernel_rfl) W0 (r_cat rfl rfl hc145) rfl ?_
            obtain ⟨hc146, h109⟩ := ck_out h109
            refine q_p 16 (panic_block (panic_then (panic_then (panic_block (panic_then panic_body))))) rfl (by kernel_rfl) W0 (r_cat rfl rfl hc146) rfl ?_
            obtain ⟨hc147, h109⟩ := ck_out h109
            refine q_p 21 (panic_block (panic_then (panic_then (panic_block (panic_then panic_body))))) rfl (by kernel_rfl) W0 (r_cat rfl rfl hc147) rfl ?_
            obtain ⟨hc148, h109⟩ := ck_out h109
            refine q_p 22 (panic_block (panic_then (panic_then (panic_block (panic_then panic_body))))) rfl (by kernel_rfl) W0 (r_cat rfl rfl hc148) rfl ?_
            obtain ⟨hc149, h109⟩ := ck_out h109
            refine q_p 23 (panic_block (panic_then (panic_then (panic_block (panic_then panic_body))))) rfl (by kernel_rfl) W0 (r_cat rfl rfl hc149) rfl ?_
            refine q_p 24 (panic_block (panic_then (panic_then (panic_block (panic_then panic_body))))) rfl (by kernel_rfl) W0 (r_as rfl) rfl ?_
            refine dz (by kernel_rfl) ?_
            refine t_blockN ?_
            refine t_then hK118 ?_
            refine t_region ?_
            refine c_p (r_i rfl rfl rfl) rfl ?_
            refine c_p (r_mv rfl) rfl ?_
            refine t_nil ?_
            exact t_norm (t_go (ih111 (x106 ++ (((((((((z0 ++ (⟨#[32]⟩ : ByteArray)) ++ y135) ++ (⟨#[32]⟩ : ByteArray)) ++ y139) ++ (⟨#[45]⟩ : ByteArray)) ++ y143) ++ (⟨#[32]⟩ : ByteArray)) ++ el134) ++ (⟨#[10]⟩ : ByteArray))) (IntKind.wrap .i64 (x107 + 1)) h109) ⟨rfl, rfl, rfl, rfl, rfl, rfl, rfl, trivial⟩ (.cons e1 .nil) (fun w Z hA => V1 a1 hA (V1 a2 hA (V1 a3 hA (V0)))))
          · replace h109 := itF hb129 h109
            refine t_F rfl hb129 ?_
            refine t_skip ?_
            refine t_blockN ?_
            refine t_then hK118 ?_
            refine t_region ?_
            refine c_p (r_i rfl rfl rfl) rfl ?_
            refine c_p (r_mv rfl) rfl ?_
            refine t_nil ?_
            exact t_norm (t_go (ih111 x106 (IntKind.wrap .i64 (x107 + 1)) h109) ⟨rfl, rfl, rfl, rfl, rfl, rfl, rfl, trivial⟩ (.cons e1 .nil) (fun w Z hA => V1 a1 hA (V1 a2 hA (V1 a3 hA (V0)))))
        · replace h109 := itF hb116 h109
          refine t_F rfl hb116 ?_
          refine t_exit ?_
          refine te (te (bx ?_))
          refine t_then hK21 ?_
          refine t_seq fun K150 hK151 => ?_
          refine t_region ?_
          refine c_p (r_mv rfl) rfl ?_
          refine c_p (r_as rfl) rfl ?_
          refine t_nil ?_
          refine t_then hK151 ?_
          refine t_ret ?_
          exact ret1 rfl (v_t rfl) (t_leave (hQ _ (Option.some.inj h109)) () rfl (fun w Z hA => V0) .nil)
    exact t_go (LP108 ((((z2.length : Int) : Int) - (0)).toNat + 1) (⟨#[]⟩ : ByteArray) 0 h) ⟨rfl, rfl, rfl, rfl, rfl, rfl, rfl, trivial⟩ (.cons e0 .nil) (fun w Z hA => V1 a0 hA (V1 a1 hA (V1 a2 hA (V0))))
  · replace h := itF hb12 h
    refine t_T rfl (congrArg Bool.not hb12) ?_
    refine t_seq fun K13 hK14 => ?_
    refine t_region ?_
    refine c_p (r_as rfl) rfl ?_
    refine t_nil ?_
    refine t_then hK14 ?_
    refine t_ret ?_
    exact tr (ret1 rfl (v_t rfl) (t_leave (hQ _ (Option.some.inj h)) () rfl (fun w Z hA => V0) .nil))
end
end Go.Proofs.YthmjklpmamfncaaDoor.Gx

/- Function 14, kaudit/kauditref40.Format: what it answers as a plain function, and that the Go code comes to exactly that (where the plain function gives an answer). -/
set_option linter.unusedVariables false
set_option linter.unusedSimpArgs false
namespace Go.Proofs.YthmjklpmamfncaaDoor.Gx
open Go.Gx Go.RowKit
noncomputable section
/-! ### kaudit/kauditref40.Format: function 14 -/
def f_kauditref40_Format_l1 (z0 : ByteArray) (z1 : Int) (z2 : (List api_Span)) : Nat → ByteArray → Int → Option (ByteArray)
  | 0, _, _ => none
  | k119 + 1, x115, x116 => if (decide (x116 < (z2.length : Int))) = true then ((at_ z2 x116).bind fun el133 => (at_ [(⟨#[]⟩ : ByteArray), (⟨#[]⟩ : ByteArray), (⟨#[112, 97, 114, 116, 105, 97, 108]⟩ : ByteArray), (⟨#[108, 111, 115, 116]⟩ : ByteArray), (⟨#[97, 98, 115, 101, 110, 116]⟩ : ByteArray)] el133.Kind).bind fun el142 => if (el142.toList == (⟨#[]⟩ : ByteArray).toList) = true then (f_kauditref40_Format_l1 z0 z1 z2 k119 x115 (IntKind.wrap .i64 (x116 + 1))) else (ck (z0.size + (⟨#[32]⟩ : ByteArray).size ≤ maxStr) <| (f_kauditref02_Number z1).bind fun y150 => ck ((z0 ++ (⟨#[32]⟩ : ByteArray)).size + y150.size ≤ maxStr) <| ck (((z0 ++ (⟨#[32]⟩ : ByteArray)) ++ y150).size + (⟨#[32]⟩ : ByteArray).size ≤ maxStr) <| (f_kauditref02_Number el133.From).bind fun y154 => ck ((((z0 ++ (⟨#[32]⟩ : ByteArray)) ++ y150) ++ (⟨#[32]⟩ : ByteArray)).size + y154.size ≤ maxStr) <| ck (((((z0 ++ (⟨#[32]⟩ : ByteArray)) ++ y150) ++ (⟨#[32]⟩ : ByteArray)) ++ y154).size + (⟨#[45]⟩ : ByteArray).size ≤ maxStr) <| (f_kauditref02_Number el133.To).bind fun y158 => ck ((((((z0 ++ (⟨#[32]⟩ : ByteArray)) ++ y150) ++ (⟨#[32]⟩ : ByteArray)) ++ y154) ++ (⟨#[45]⟩ : ByteArray)).size + y158.size ≤ maxStr) <| ck (((((((z0 ++ (⟨#[32]⟩ : ByteArray)) ++ y150) ++ (⟨#[32]⟩ : ByteArray)) ++ y154) ++ (⟨#[45]⟩ : ByteArray)) ++ y158).size + (⟨#[32]⟩ : ByteArray).size ≤ maxStr) <| ck ((((((((z0 ++ (⟨#[32]⟩ : ByteArray)) ++ y150) ++ (⟨#[32]⟩ : ByteArray)) ++ y154) ++ (⟨#[45]⟩ : ByteArray)) ++ y158) ++ (⟨#[32]⟩ : ByteArray)).size + el142.size ≤ maxStr) <| ck (((((((((z0 ++ (⟨#[32]⟩ : ByteArray)) ++ y150) ++ (⟨#[32]⟩ : ByteArray)) ++ y154) ++ (⟨#[45]⟩ : ByteArray)) ++ y158) ++ (⟨#[32]⟩ : ByteArray)) ++ el142).size + (⟨#[10]⟩ : ByteArray).size ≤ maxStr) <| ck (x115.size + (((((((((z0 ++ (⟨#[32]⟩ : ByteArray)) ++ y150) ++ (⟨#[32]⟩ : ByteArray)) ++ y154) ++ (⟨#[45]⟩ : ByteArray)) ++ y158) ++ (⟨#[32]⟩ : ByteArray)) ++ el142) ++ (⟨#[10]⟩ : ByteArray)).size ≤ maxStr) <| f_kauditref40_Format_l1 z0 z1 z2 k119 (x115 ++ (((((((((z0 ++ (⟨#[32]⟩ : ByteArray)) ++ y150) ++ (⟨#[32]⟩ : ByteArray)) ++ y154) ++ (⟨#[45]⟩ : ByteArray)) ++ y158) ++ (⟨#[32]⟩ : ByteArray)) ++ el142) ++ (⟨#[10]⟩ : ByteArray))) (IntKind.wrap .i64 (x116 + 1)))) else (some x115)
def f_kauditref40_Format (z0 : ByteArray) (z1 : Int) (z2 : (List api_Span)) : Option (ByteArray) := (f_kauditref40_Proper z2).bind fun y12 => if y12 = true then (f_kauditref40_Format_l1 z0 z1 z2 ((((z2.length : Int) : Int) - (0)).toNat + 1) (⟨#[]⟩ : ByteArray) 0) else (some (⟨#[]⟩ : ByteArray))
set_option maxHeartbeats 4000000 in
set_option maxRecDepth 100000 in
theorem C14 (z0 : ByteArray) (z1 : Int) (z2 : (List api_Span)) (p1 : Option Addr) (m2 : Nat) (c3 : Nat) (r : ByteArray) (h : f_kauditref40_Format z0 z1 z2 = some r) : FunG Tryd.prog 14 #[.string z0, .int .i64 z1, .slice p1 m2 c3] [vw (kSlice 46 k_api_Span) z2 [.slice p1 m2 c3], g_pow10, g_kinds] [] (fun (_ : Unit) => .string r) (fun _ => []) (fun _ => []) := by
  unfold f_kauditref40_Format at h
  refine t_begin (args := [.string z0, .int .i64 z1, .slice p1 m2 c3]) Tryd.func14 rfl Tryd.ntmps14 rfl fun c R hR => ?_
  have hQ : ∀ X, X = r → ∀ w2 (_ : Unit), PostG c.w0 w2 c.M c.Y [] [] → R (.returned (.string X)) w2 := fun X e => by subst e; exact hR
  refine t_seq fun K4 hK5 => ?_
  refine t_region ?_
  refine c_p (r_as rfl) rfl ?_
  refine t_nil ?_
  refine t_then hK5 ?_
  refine t_seq fun K6 hK7 => ?_
  refine t_region ?_
  refine c_p (r_as rfl) rfl ?_
  refine t_nil ?_
  refine t_then hK7 ?_
  refine t_seq fun K8 hK9 => ?_
  refine t_seq fun K10 hK11 => ?_
  refine t_region ?_
  refine c_p (r_mv rfl) rfl ?_
  obtain ⟨y12, hy12, h⟩ := bs h
  refine nx (t_ca (C9 _ _ _ _ _ hy12) Tryd.func9 nm9 rfl rfl rfl .nil (fun w Z hA => (V1 a0 hA (V1 a1 hA (V1 a2 hA V0)))) rfl fun t13 => ?_)
  refine c_p (r_not rfl) rfl ?_
  refine t_nil ?_
  refine t_then hK11 ?_
  rcases Bool.eq_false_or_eq_true y12 with hb14 | hb14
  · replace h := itT hb14 h
    refine t_F rfl (congrArg Bool.not hb14) ?_
    refine t_skip ?_
    refine t_then hK9 ?_
    refine t_seq fun K17 hK18 => ?_
    refine t_seq fun K19 hK20 => ?_
    refine t_region ?_
    refine c_p (r_mv rfl) rfl ?_
    refine c_s (r_lnA a0 Tryd.underlying23 rfl) rfl ?_
    refine c_p (r_mv rfl) rfl ?_
    refine t_nil ?_
    refine t_then hK20 ?_
    refine t_block ?_
    refine t_lp fun k113 hk114 => ?_
    have LP117 : ∀ (k119 : Nat) (x115 : ByteArray) (x116 : Int), f_kauditref40_Format_l1 z0 z1 z2 k119 x115 x116 = some r → T 50 c [vw (kSlice 46 k_api_Span) z2 [.slice p1 m2 c3], g_pow10, g_kinds] [] [(0, .string z0), (1, .int .i64 z1), (7, .string x115), (14, .slice p1 m2 c3), (15, .int .i64 (z2.length : Int)), (16, .int .i64 x116)] k113 := by
      intro k119
      induction k119 with
      | zero => intro x115 x116 h118; rewrite [f_kauditref40_Format_l1] at h118; cases h118
      | succ k119 ih120 =>
        intro x115 x116 h118
        rewrite [f_kauditref40_Format_l1] at h118
        refine ti hk114 ?_
        refine t_seq fun K121 hK122 => ?_
        refine t_region ?_
        refine c_p (r_i rfl rfl rfl) rfl ?_
        refine t_nil ?_
        refine t_then hK122 ?_
        refine t_seq fun K123 hK124 => ?_
        rcases Bool.eq_false_or_eq_true (decide (x116 < (z2.length : Int))) with hb125 | hb125
        · replace h118 := itT hb125 h118
          refine t_T rfl hb125 ?_
          refine t_skip ?_
          refine t_then hK124 ?_
          refine t_seq fun K126 hK127 => ?_
          refine t_block ?_
          refine t_seq fun K128 hK129 => ?_
          refine t_region ?_
          obtain ⟨el133, hel133, h118⟩ := bs h118
          refine t_q a0 hel133 fun q130 hq131 hm132 => ?_
          refine c_p (r_idx hq131 hm132 hel133 Tryd.underlying23 ti46 rfl rfl) rfl ?_
          refine t_op k_api_Span_opens a0 hel133 fun t134 => ?_
          refine c_s (r_eA a0 hq131 Tryd.underlying46 rfl ti46 rfl rfl) rfl ?_
          refine nx (t_al (cs := [.int .i64 0, .int .i64 0, .int .i64 0]) ti46 rfl rfl fun g135 => ?_)
          refine nx (t_st u0 ti46 rfl rfl rfl rfl rfl (.t (.s (.s (.s .z)))) ?_)
          refine t_nil ?_
          refine t_then hK129 ?_
          refine t_seq fun K136 hK137 => ?_
          refine t_region ?_
          refine nx (t_bs (ps := [(0, .string (⟨#[]⟩ : ByteArray)), (1, .string (⟨#[]⟩ : ByteArray)), (2, .string (⟨#[112, 97, 114, 116, 105, 97, 108]⟩ : ByteArray)), (3, .string (⟨#[108, 111, 115, 116]⟩ : ByteArray)), (4, .string (⟨#[97, 98, 115, 101, 110, 116]⟩ : ByteArray))]) (cs := [.string (⟨#[]⟩ : ByteArray), .string (⟨#[]⟩ : ByteArray), .string (⟨#[112, 97, 114, 116, 105, 97, 108]⟩ : ByteArray), .string (⟨#[108, 111, 115, 116]⟩ : ByteArray), .string (⟨#[97, 98, 115, 101, 110, 116]⟩ : ByteArray)]) Tryd.underlying54 ti9 rfl rfl (by kernel_rfl) rfl fun g138 => ?_)
          refine c_p (r_fa (off' := 2) Tryd.underlying46 rfl ti3 rfl rfl) rfl ?_
          refine c_s (r_ld a1 Tryd.underlying3 rfl rfl rfl) rfl ?_
          refine t_tr (Kd := kStr) (xs := [(⟨#[]⟩ : ByteArray), (⟨#[]⟩ : ByteArray), (⟨#[112, 97, 114, 116, 105, 97, 108]⟩ : ByteArray), (⟨#[108, 111, 115, 116]⟩ : ByteArray), (⟨#[97, 98, 115, 101, 110, 116]⟩ : ByteArray)]) (.cons e0 .nil) rfl (fun w Z S hA hN => flat_EO (S := Nil) flatK_str (er1 (c1 := [.string (⟨#[]⟩ : ByteArray)]) rfl (er1 (c1 := [.string (⟨#[]⟩ : ByteArray)]) rfl (er1 (c1 := [.string (⟨#[112, 97, 114, 116, 105, 97, 108]⟩ : ByteArray)]) rfl (er1 (c1 := [.string (⟨#[108, 111, 115, 116]⟩ : ByteArray)]) rfl (er1 (c1 := [.string (⟨#[97, 98, 115, 101, 110, 116]⟩ : ByteArray)]) rfl er0)))))) ?_
          obtain ⟨el142, hel142, h118⟩ := bs h118
          refine t_qL a0 hel142 fun q139 hq140 hm141 => ?_
          refine c_p (r_idx hq140 hm141 hel142 Tryd.underlying54 ti9 rfl rfl) rfl ?_
          refine t_oI opensO_str e0 hel142 fun t143 => ?_
          refine c_s (r_h1 a0 hq140 Tryd.underlying9 rfl rfl rfl) rfl ?_
          refine c_p (r_as rfl) rfl ?_
          refine t_nil ?_
          refine t_then hK137 ?_
          refine t_seq fun K144 hK145 => ?_
          refine t_region ?_
          refine c_p (r_mv rfl) rfl ?_
          refine c_p (r_s rfl rfl rfl) rfl ?_
          refine t_nil ?_
          refine t_then hK145 ?_
          rcases Bool.eq_false_or_eq_true (el142.toList == (⟨#[]⟩ : ByteArray).toList) with hb146 | hb146
          · replace h118 := itT hb146 h118
            refine t_F rfl (congrArg Bool.not hb146) ?_
            refine t_skip ?_
            refine t_blockN ?_
            refine t_then hK127 ?_
            refine t_region ?_
            refine c_p (r_i rfl rfl rfl) rfl ?_
            refine c_p (r_mv rfl) rfl ?_
            refine t_nil ?_
            exact t_norm (t_go (ih120 x115 (IntKind.wrap .i64 (x116 + 1)) h118) ⟨rfl, rfl, rfl, rfl, rfl, rfl, trivial⟩ .nil (fun w Z hA => V1 a1 hA (V1 a2 hA (V1 a3 hA (V0)))))
          · replace h118 := itF hb146 h118
            refine t_T rfl (congrArg Bool.not hb146) ?_
            refine t_draw mixed (fun w_ => Bk g135 [.int .i64 el133.From, .int .i64 el133.To, .int .i64 el133.Kind] w_ ∧ True) [8, 13] [4, 9, 14] rfl ?_
            refine q_p 0 (panic_block (panic_then (panic_then (panic_block (panic_then panic_body))))) rfl (by kernel_rfl) W0 (r_mv rfl) rfl ?_
            refine q_p 1 (panic_block (panic_then (panic_then (panic_block (panic_then panic_body))))) rfl (by kernel_rfl) W0 (r_mv rfl) rfl ?_
            obtain ⟨hc149, h118⟩ := ck_out h118
            refine q_p 2 (panic_block (panic_then (panic_then (panic_block (panic_then panic_body))))) rfl (by kernel_rfl) W0 (r_cat rfl rfl hc149) rfl ?_
            refine q_p 3 (panic_block (panic_then (panic_then (panic_block (panic_then panic_body))))) rfl (by kernel_rfl) W0 (r_mv rfl) rfl ?_
            refine q_p 7 (panic_block (panic_then (panic_then (panic_block (panic_then panic_body))))) rfl (by kernel_rfl) W0 (r_fa (off' := 0) Tryd.underlying46 rfl ti3 rfl rfl) rfl ?_
            refine q_s 8 (panic_block (panic_then (panic_then (panic_block (panic_then panic_body))))) rfl (by kernel_rfl) W0 (by kernel_rfl) (fun w H => ⟨bk a1 H, trivial⟩) (b_ld (fun _ h => h.1) Tryd.underlying3 rfl rfl rfl) rfl ?_
            refine q_p 12 (panic_block (panic_then (panic_then (panic_block (panic_then panic_body))))) rfl (by kernel_rfl) W0 (r_fa (off' := 1) Tryd.underlying46 rfl ti3 rfl rfl) rfl ?_
            refine q_s 13 (panic_block (panic_then (panic_then (panic_block (panic_then panic_body))))) rfl (by kernel_rfl) W0 (by kernel_rfl) (fun w H => ⟨bk a1 H, trivial⟩) (b_ld (fun _ h => h.1) Tryd.underlying3 rfl rfl rfl) rfl ?_
            refine q_p 17 (panic_block (panic_then (panic_then (panic_block (panic_then panic_body))))) rfl (by kernel_rfl) W0 (r_mv rfl) rfl ?_
            refine d1 4 rfl (by kernel_rfl) (by kernel_rfl) ?_
            obtain ⟨y150, hy150, h118⟩ := bs h118
            refine t_ca (C28 _ _ hy150) Tryd.func28 nm28 rfl rfl rfl .nil (fun w Z hA => (V1 a2 hA (V1 a3 hA V0))) rfl fun t151 => ?_
            refine dk (fun w H => ⟨bk a1 H, trivial⟩) ?_
            obtain ⟨hc152, h118⟩ := ck_out h118
            refine q_p 5 (panic_block (panic_then (panic_then (panic_block (panic_then panic_body))))) rfl (by kernel_rfl) W0 (r_cat rfl rfl hc152) rfl ?_
            obtain ⟨hc153, h118⟩ := ck_out h118
            refine q_p 6 (panic_block (panic_then (panic_then (panic_block (panic_then panic_body))))) rfl (by kernel_rfl) W0 (r_cat rfl rfl hc153) rfl ?_
            refine d1 9 rfl (by kernel_rfl) (by kernel_rfl) ?_
            obtain ⟨y154, hy154, h118⟩ := bs h118
            refine t_ca (C28 _ _ hy154) Tryd.func28 nm28 rfl rfl rfl .nil (fun w Z hA => (V1 a2 hA (V1 a3 hA V0))) rfl fun t155 => ?_
            refine dk (fun w H => ⟨bk a1 H, trivial⟩) ?_
            obtain ⟨hc156, h118⟩ := ck_out h118
            refine q_p 10 (panic_block (panic_then (panic_then (panic_block (panic_then panic_body))))) rfl (by kernel_rfl) W0 (r_cat rfl rfl hc156) rfl ?_
            obtain ⟨hc157, h118⟩ := ck_out h118
            refine q_p 11 (panic_block (panic_then (panic_then (panic_block (panic_then panic_body))))) rfl (by kernel_rfl) W0 (r_cat rfl rfl hc157) rfl ?_
            refine d1 14 rfl (by kernel_rfl) (by kernel_rfl) ?_
            obtain ⟨y158, hy158, h118⟩ := bs h118
            refine t_ca (C28 _ _ hy158) Tryd.func28 nm28 rfl rfl rfl .nil (fun w Z hA => (V1 a2 hA (V1 a3 hA V0))) rfl fun t159 => ?_
            refine dn (by kernel_rfl) ?_
            obtain ⟨hc160, h118⟩ := ck_out h118
            refine q_p 15 (panic_block (panic_then (panic_then (panic_block (panic_then panic_body))))) rfl (by kernel_rfl) W0 (r_cat rfl rfl hc160) rfl ?_
            obtain ⟨hc161, h118⟩ := ck_out h118
            refine q_p 16 (panic_block (panic_then (panic_then (panic_block (panic_then panic_body))))) rfl (by kernel_rfl) W0 (r_cat rfl rfl hc161) rfl ?_
            obtain ⟨hc162, h118⟩ := ck_out h118
            refine q_p 18 (panic_block (panic_then (panic_then (panic_block (panic_then panic_body))))) rfl (by kernel_rfl) W0 (r_cat rfl rfl hc162) rfl ?_
            obtain ⟨hc163, h118⟩ := ck_out h118
            refine q_p 19 (panic_block (panic_then (panic_then (panic_block (panic_then panic_body))))) rfl (by kernel_rfl) W0 (r_cat rfl rfl hc163) rfl ?_
            obtain ⟨hc164, h118⟩ := ck_out h118
            refine q_p 20 (panic_block (panic_then (panic_then (panic_block (panic_then panic_body))))) rfl (by kernel_rfl) W0 (r_cat rfl rfl hc164) rfl ?_
            refine q_p 21 (panic_block (panic_then (panic_then (panic_block (panic_then panic_body))))) rfl (by kernel_rfl) W0 (r_as rfl) rfl ?_
            refine dz (by kernel_rfl) ?_
            refine t_blockN ?_
            refine t_then hK127 ?_
            refine t_region ?_
            refine c_p (r_i rfl rfl rfl) rfl ?_
            refine c_p (r_mv rfl) rfl ?_
            refine t_nil ?_
            exact t_norm (t_go (ih120 (x115 ++ (((((((((z0 ++ (⟨#[32]⟩ : ByteArray)) ++ y150) ++ (⟨#[32]⟩ : ByteArray)) ++ y154) ++ (⟨#[45]⟩ : ByteArray)) ++ y158) ++ (⟨#[32]⟩ : ByteArray)) ++ el142) ++ (⟨#[10]⟩ : ByteArray))) (IntKind.wrap .i64 (x116 + 1)) h118) ⟨rfl, rfl, rfl, rfl, rfl, rfl, trivial⟩ .nil (fun w Z hA => V1 a1 hA (V1 a2 hA (V1 a3 hA (V0)))))
        · replace h118 := itF hb125 h118
          refine t_F rfl hb125 ?_
          refine t_exit ?_
          refine te (te (bx ?_))
          refine t_then hK18 ?_
          refine t_seq fun K165 hK166 => ?_
          refine t_region ?_
          refine c_p (r_mv rfl) rfl ?_
          refine c_p (r_as rfl) rfl ?_
          refine t_nil ?_
          refine t_then hK166 ?_
          refine t_ret ?_
          exact ret1 rfl (v_t rfl) (t_leave (hQ _ (Option.some.inj h118)) () rfl (fun w Z hA => V0) .nil)
    exact t_go (LP117 ((((z2.length : Int) : Int) - (0)).toNat + 1) (⟨#[]⟩ : ByteArray) 0 h) ⟨rfl, rfl, rfl, rfl, rfl, rfl, trivial⟩ .nil (fun w Z hA => V1 a0 hA (V1 a1 hA (V1 a2 hA (V0))))
  · replace h := itF hb14 h
    refine t_T rfl (congrArg Bool.not hb14) ?_
    refine t_seq fun K15 hK16 => ?_
    refine t_region ?_
    refine c_p (r_as rfl) rfl ?_
    refine t_nil ?_
    refine t_then hK16 ?_
    refine t_ret ?_
    exact tr (ret1 rfl (v_t rfl) (t_leave (hQ _ (Option.some.inj h)) () rfl (fun w Z hA => V0) .nil))
end
end Go.Proofs.YthmjklpmamfncaaDoor.Gx

/- CoverageSpans: both texts are the same. -/
set_option linter.unusedVariables false
set_option maxRecDepth 100000
namespace Go.Proofs.YthmjklpmamfncaaDoor.Gx
open Go.Gx Go.RowKit
theorem word_ok {kd : Int} (h : KOk kd) : ∃ w, at_ [(⟨#[]⟩ : ByteArray), (⟨#[]⟩ : ByteArray), (⟨#[112, 97, 114, 116, 105, 97, 108]⟩ : ByteArray), (⟨#[108, 111, 115, 116]⟩ : ByteArray), (⟨#[97, 98, 115, 101, 110, 116]⟩ : ByteArray)] kd = some w ∧ w.size ≤ 7 ∧ (w.toList == (⟨#[]⟩ : ByteArray).toList) = decide (kd = 1) := by
  obtain ⟨h1, h2⟩ := h
  have : kd = 1 ∨ kd = 2 ∨ kd = 3 ∨ kd = 4 := by omega
  rcases this with rfl | rfl | rfl | rfl
  · exact ⟨_, rfl, by decide, by rw [beq_bytes]; decide⟩
  · exact ⟨_, rfl, by decide, by rw [beq_bytes]; decide⟩
  · exact ⟨_, rfl, by decide, by rw [beq_bytes]; decide⟩
  · exact ⟨_, rfl, by decide, by rw [beq_bytes]; decide⟩
theorem Format_loop {z0 : ByteArray} {z1 : Int} {z : List api_Span} (h0 : z0.size ≤ 2000000) (hz : z.length ≤ 2000000) (h1 : is64 z1) (hf : Fit z) (hk : ∀ s ∈ z, KOk s.Kind) : ∀ (k i : Nat) (acc : ByteArray), i ≤ z.length → z.length < k + i → acc.size ≤ i * 2000200 →
    ∃ r, f_coverage_Format_l1 z0 z1 z k acc i = some r ∧ f_kauditref40_Format_l1 z0 z1 z k acc i = some r := by
  intro k
  induction k with
  | zero => intro i _ h1 h2; omega
  | succ k ih =>
    intro i acc l1 l2 l3
    rw [f_coverage_Format_l1, f_kauditref40_Format_l1]
    by_cases h : i < z.length
    · have hm := List.getElem_mem h
      have ha := at_get h
      generalize z[i] = s at hm ha
      obtain ⟨⟨f1, f2⟩, ⟨t1, t2⟩, _⟩ := hf s hm
      have hK := hk s hm
      obtain ⟨w, hw, ws, we⟩ := word_ok hK
      have w1 : IntKind.wrap .i64 ((i : Int) + 1) = ((i + 1 : Nat) : Int) := wrap_up (by omega)
      rw [w1]
      by_cases c : s.Kind = 1
      · obtain ⟨r, p, q⟩ := ih (i + 1) acc (by omega) (by omega) (Nat.le_trans l3 (Nat.mul_le_mul_right _ (by omega)))
        exact ⟨r, ite_t (dec_t (by omega)) (bind_of ha (ite_f (by simpa using c) p)), ite_t (dec_t (by omega)) (bind_of ha (bind_of hw (ite_t (by rw [we]; simpa using c) q)))⟩
      · have hmx : 100000000000000 ≤ maxStr := by unfold maxStr; omega
        have s32 : (⟨#[32]⟩ : ByteArray).size = 1 := rfl
        have s45 : (⟨#[45]⟩ : ByteArray).size = 1 := rfl
        have s10 : (⟨#[10]⟩ : ByteArray).size = 1 := rfl
        have n1 : (bz (Lib.itoa z1)).size ≤ 20 := by rw [bz_size]; exact itoa_len h1.1 h1.2
        have n2 : (bz (Lib.itoa s.From)).size ≤ 20 := by rw [bz_size]; exact itoa_len f1 f2
        have n3 : (bz (Lib.itoa s.To)).size ≤ 20 := by rw [bz_size]; exact itoa_len t1 t2
        have i1 := Itoa_ok h1.1 h1.2
        have i2 := Itoa_ok f1 f2
        have i3 := Itoa_ok t1 t2
        have k1 := Number_ok h1.1 h1.2
        have k2 := Number_ok f1 f2
        have k3 := Number_ok t1 t2
        generalize bz (Lib.itoa z1) = b1 at n1 i1 k1
        generalize bz (Lib.itoa s.From) = b2 at n2 i2 k2
        generalize bz (Lib.itoa s.To) = b3 at n3 i3 k3
        have hmul : i * 2000200 ≤ 2000000 * 2000200 := Nat.mul_le_mul_right _ (by omega)
        obtain ⟨r, p, q⟩ := ih (i + 1) (acc ++ (((((((((z0 ++ (⟨#[32]⟩ : ByteArray)) ++ b1) ++ (⟨#[32]⟩ : ByteArray)) ++ b2) ++ (⟨#[45]⟩ : ByteArray)) ++ b3) ++ (⟨#[32]⟩ : ByteArray)) ++ w) ++ (⟨#[10]⟩ : ByteArray))) (by omega) (by omega) (by rw [Nat.add_mul]; simp only [ByteArray.size_append, s32, s45, s10]; omega)
        refine ⟨r, ?_, ?_⟩
        · refine ite_t (dec_t (by omega)) (bind_of ha (ite_t (by simpa using c) (ck_of ?_ (ck_of (by have := hK.1; have := hK.2; omega) (bind_of hw (bind_of i1 (ck_of ?_ (ck_of ?_ (bind_of i2 (ck_of ?_ (ck_of ?_ (bind_of i3 (ck_of ?_ (ck_of ?_ (ck_of ?_ (ck_of ?_ (ck_of ?_ p)))))))))))))))))
          all_goals (simp only [ByteArray.size_append, s32, s45, s10]; omega)
        · refine ite_t (dec_t (by omega)) (bind_of ha (bind_of hw (ite_f (by rw [we]; simpa using c) (ck_of ?_ (bind_of k1 (ck_of ?_ (ck_of ?_ (bind_of k2 (ck_of ?_ (ck_of ?_ (bind_of k3 (ck_of ?_ (ck_of ?_ (ck_of ?_ (ck_of ?_ (ck_of ?_ q))))))))))))))))
          all_goals (simp only [ByteArray.size_append, s32, s45, s10]; omega)
    · exact ⟨acc, ite_f (dec_f (by omega)) rfl, ite_f (dec_f (by omega)) rfl⟩
theorem prop_k : ∀ {l : List api_Span} {g k : Int}, PropF g k l → ∀ s ∈ l, KOk s.Kind
  | t :: l, g, k, ⟨_, _, c, _, d⟩, s, h => by
    rcases List.mem_cons.1 h with rfl | h
    · exact c
    · exact prop_k d s h
theorem Format_eq {z0 : ByteArray} {z1 : Int} {z : List api_Span} (h0 : z0.size ≤ 2000000) (hz : z.length ≤ 2000000) (h1 : is64 z1) (hf : Fit z) : ∃ r, f_coverage_Format z0 z1 z = some r ∧ f_kauditref40_Format z0 z1 z = some r := by
  unfold f_coverage_Format f_kauditref40_Format
  cases hp : prB 1 0 z with
  | false => exact ⟨_, bind_of (Proper_ok (by omega) hf) (ite_f hp rfl), bind_of (RProper_ok (by omega) hf) (ite_f hp rfl)⟩
  | true =>
    obtain ⟨r, p, q⟩ := Format_loop h0 hz h1 hf (prop_k (prB_iff.1 hp)) ((((z.length : Int) : Int) - (0)).toNat + 1) 0 ⟨#[]⟩ (by omega) (by omega) (Nat.zero_le _)
    exact ⟨r, bind_of (Proper_ok (by omega) hf) (ite_t hp p), bind_of (RProper_ok (by omega) hf) (ite_t hp q)⟩
end Go.Proofs.YthmjklpmamfncaaDoor.Gx

/- Function 35, slices.Sort[[]int,int]: what it answers as a plain function, and that the Go code comes to exactly that (where the plain function gives an answer). -/
set_option linter.unusedVariables false
set_option linter.unusedSimpArgs false
namespace Go.Proofs.YthmjklpmamfncaaDoor.Gx
open Go.Gx Go.RowKit
noncomputable section
open Go.Shelf
/-! ### slices.Sort at []int -/
def f_slices_Sort_int_int (z0 : List Int) : Option (List Int) := ck (z0.length < 4611686018427387904) <| some (z0.mergeSort fun x y => decide (x ≤ y))
set_option maxHeartbeats 4000000 in
theorem C35 (z0 : List Int) (p : Option Addr) (m c : Nat) (r : List Int) (h : f_slices_Sort_int_int z0 = some r) : FunG Tryd.prog 35 #[.slice p m c] [] [[row 3 (kInt .i64) z0 (.slice p m c)]] (fun (_ : Unit) => .tuple #[]) (fun _ => []) (fun _ => [[row 3 (kInt .i64) r (.slice p m c)]]) := by
  unfold f_slices_Sort_int_int at h
  obtain ⟨hc, h⟩ := ck_out h
  obtain rfl := Option.some.inj h
  have hl : (z0.mergeSort fun x y => decide (x ≤ y)).length = z0.length := List.length_mergeSort z0
  refine funG_put (ys := z0.mergeSort fun x y => decide (x ≤ y)) (zs := z0.mergeSort fun x y => decide (x ≤ y)) (fun hx hm w => ?_) (fun hm g off w hp hx hH hg hcap => ?_) (fun _ => ⟨hl, [], by simp⟩)
  · subst hx hm
    refine (calls_of_every_depth fun D => AnyS.slices_Sort_int_none_alone Tryd.laysSort D p c w).mono ?_
    rintro e w' ⟨rfl, rfl⟩
    exact ⟨⟨(), rfl, by rw [List.mergeSort_nil]⟩, List.mergeSort_nil, rfl⟩
  · subst hm hp
    refine (Any.slices_Sort_int Tryd.laysSort g off c z0 w hH hg hc).mono ?_
    rintro e w' ⟨rfl, n, os, rfl⟩
    exact ⟨⟨(), rfl, by rw [hl]⟩, n, os, rfl⟩
end
end Go.Proofs.YthmjklpmamfncaaDoor.Gx

/- Function 36, slices.Compact[[]int,int]: what it answers as a plain function, and that the Go code comes to exactly that (where the plain function gives an answer). -/
set_option linter.unusedVariables false
set_option linter.unusedSimpArgs false
namespace Go.Proofs.YthmjklpmamfncaaDoor.Gx
open Go.Gx Go.RowKit
noncomputable section
open Go.Shelf
/-! ### slices.Compact at []int -/
def f_slices_Compact_int_int (z0 : List Int) : Option (List Int) := ck (z0.length ≤ 4611686018427387904) <| some (Lib.compact z0)
theorem compact_le (z0 : List Int) : (Lib.compact z0).length ≤ z0.length := by
  unfold Lib.compact Lib.compactUpTo
  rw [List.length_map]
  exact Nat.le_trans (List.length_filter_le _ _) (by simp)
set_option maxHeartbeats 4000000 in
theorem C36 (z0 : List Int) (p : Option Addr) (m c : Nat) (r : List Int) (h : f_slices_Compact_int_int z0 = some r) : FunG Tryd.prog 36 #[.slice p m c] [] [[row 3 (kInt .i64) z0 (.slice p m c)]] (fun t : Option Addr × Nat × Nat => .slice t.1 t.2.1 t.2.2) (fun _ => []) (fun t => [[row 3 (kInt .i64) r (.slice t.1 t.2.1 t.2.2)]]) := by
  unfold f_slices_Compact_int_int at h
  obtain ⟨hc, h⟩ := ck_out h
  obtain rfl := Option.some.inj h
  have hl := compact_le z0
  refine funG_put (ys := Lib.compact z0 ++ List.replicate (z0.length - (Lib.compact z0).length) 0) (zs := Lib.compact z0) (fun hx hm w => ?_) (fun hm g off w hp hx hH hg hcap => ?_) (fun _ => ⟨by simp; omega, _, rfl⟩)
  · subst hx hm
    refine (Any.slices_Compact_int_empty Tryd.laysCompact p c w).mono ?_
    rintro e w' ⟨rfl, rfl⟩
    exact ⟨⟨(p, 0, c), rfl, rfl⟩, rfl, rfl⟩
  · subst hm hp
    refine (Any.slices_Compact_int Tryd.laysCompact g off c z0 w hH (by omega) hcap).mono ?_
    rintro e w' ⟨rfl, n, rfl⟩
    exact ⟨⟨(some ⟨g, off, none⟩, _, c), rfl, rfl⟩, n, #[], by unfold Sort.grow; rw [Array.append_empty]⟩
end
end Go.Proofs.YthmjklpmamfncaaDoor.Gx

/- Function 63, kaudit/record.Single: what it answers as a plain function, and that the Go code comes to exactly that (where the plain function gives an answer). -/
set_option linter.unusedVariables false
set_option linter.unusedSimpArgs false
namespace Go.Proofs.YthmjklpmamfncaaDoor.Gx
open Go.Gx Go.RowKit
noncomputable section
/-! ### kaudit/record.Single: function 63 -/
def f_record_Single_j2 (x137 : ByteArray) (x138 : Int) (x139 : Bool) : Option (Bool) := some x139
def f_record_Single_j1 (x122 : Int) : Option (Bool) := if (decide (x122 ≥ 0)) = true then ((at_ (t_kinds : List record_kind) x122).bind fun el130 => f_record_Single_j2 el130.name el130.number el130.single) else (f_record_Single_j2 (⟨#[]⟩ : ByteArray) 0 false)
def f_record_Single_l1 (z0 : Int) : Nat → Int → Option (Bool)
  | 0, _ => none
  | k90 + 1, x87 => if (decide (x87 < ((t_kinds : List record_kind).length : Int))) = true then ((at_ (t_kinds : List record_kind) x87).bind fun el106 => if (el106.number == z0) = true then (f_record_Single_j1 x87) else (f_record_Single_l1 z0 k90 (IntKind.wrap .i64 (x87 + 1)))) else (f_record_Single_j1 (-1))
def f_record_Single (z0 : Int) : Option (Bool) := f_record_Single_l1 z0 (((((t_kinds : List record_kind).length : Int) : Int) - (0)).toNat + 1) 0
set_option maxHeartbeats 4000000 in
set_option maxRecDepth 100000 in
theorem C63 (z0 : Int) (r : Bool) (h : f_record_Single z0 = some r) : FunG Tryd.prog 63 #[.int .i64 z0] [g_pow10, g_kinds] [] (fun (_ : Unit) => .bool r) (fun _ => []) (fun _ => []) := by
  unfold f_record_Single at h
  refine t_begin (args := [.int .i64 z0]) Tryd.func63 rfl Tryd.ntmps63 rfl fun c R hR => ?_
  have hQ : ∀ X, X = r → ∀ w2 (_ : Unit), PostG c.w0 w2 c.M c.Y [] [] → R (.returned (.bool X)) w2 := fun X e => by subst e; exact hR
  refine t_seq fun K1 hK2 => ?_
  refine t_region ?_
  refine nx (t_bx (cs := [.int .i64 z0]) rfl rfl rfl fun g3 => ?_)
  refine c_p (r_as rfl) rfl ?_
  refine t_nil ?_
  refine t_then hK2 ?_
  refine t_seq fun K4 hK5 => ?_
  refine t_region ?_
  refine c_p (r_mf (vs := [.pointer (some ⟨g3, 0, none⟩)]) rfl) rfl ?_
  refine nx (t_in (args := [.func (.func 83) #[] #[.pointer (some ⟨g3, 0, none⟩)]]) (cap := []) (all := [.func (.func 83) #[] #[.pointer (some ⟨g3, 0, none⟩)]]) rfl rfl Tryd.func82 nm82 rfl rfl rfl Tryd.ntmps82 rfl fun R6 k7 hk8 hR9 => ?_)
  have J140 : ∀ (x137 : ByteArray) (x138 : Int) (x139 : Bool), f_record_Single_j2 x137 x138 x139 = some r → T 6 c [g_kinds, g_pow10] [] [(2, .bool false), (4, .agg #[.string x137, .int .i64 x138, .bool x139])] k7 := by
    intro x137 x138 x139 h141
    unfold f_record_Single_j2 at h141
    refine ti hk8 ?_
    refine c_p (r_f1 Tryd.underlying115 rfl Tryd.underlying4 rfl rfl rfl) rfl ?_
    refine c_p (r_as rfl) rfl ?_
    refine t_nil ?_
    refine t_then hK5 ?_
    refine t_ret ?_
    exact ret1 rfl (v_t rfl) (t_leave (hQ _ (Option.some.inj h141)) () rfl (fun w Z hA => V0) .nil)
  refine t_seq fun K10 hK11 => ?_
  refine t_region ?_
  refine nx (t_al (cs := [.string (⟨#[]⟩ : ByteArray), .int .i64 0, .bool false]) ti115 rfl rfl fun g12 => ?_)
  refine t_nil ?_
  refine t_then hK11 ?_
  refine t_seq fun K13 hK14 => ?_
  refine t_seq fun K15 hK16 => ?_
  refine t_region ?_
  refine c_p (r_gsl Tryd.underlying126 ti115 rfl) rfl ?_
  refine c_p (r_mv rfl) rfl ?_
  refine nx (t_in (args := [.slice (some ⟨1, 0, none⟩) 10 10, .func (.func 83) #[] #[.pointer (some ⟨g3, 0, none⟩)]]) (cap := []) (all := [.slice (some ⟨1, 0, none⟩) 10 10, .func (.func 83) #[] #[.pointer (some ⟨g3, 0, none⟩)]]) rfl rfl Tryd.func93 nm93 rfl rfl rfl Tryd.ntmps93 rfl fun R17 k18 hk19 hR20 => ?_)
  have J123 : ∀ (x122 : Int), f_record_Single_j1 x122 = some r → T 13 c [g_kinds, g_pow10] [[blk g12 [.string (⟨#[]⟩ : ByteArray), .int .i64 0, .bool false] 115]] [(2, .pointer (some ⟨g12, 0, none⟩)), (6, .int .i64 x122)] k18 := by
    intro x122 h124
    unfold f_record_Single_j1 at h124
    refine ti hk19 ?_
    refine c_p (r_as rfl) rfl ?_
    refine t_nil ?_
    refine t_then hK16 ?_
    refine t_seq fun K125 hK126 => ?_
    refine t_region ?_
    refine c_p (r_mv rfl) rfl ?_
    refine c_p (r_i rfl rfl rfl) rfl ?_
    refine t_nil ?_
    refine t_then hK126 ?_
    rcases Bool.eq_false_or_eq_true (decide (x122 ≥ 0)) with hb127 | hb127
    · replace h124 := itT hb127 h124
      refine t_T rfl hb127 ?_
      refine t_seq fun K128 hK129 => ?_
      refine t_region ?_
      refine c_p (r_mv rfl) rfl ?_
      obtain ⟨el130, hel130, h124⟩ := bs h124
      refine t_q a0 hel130 fun q131 hq132 hm133 => ?_
      refine c_p (r_idxG hq132 hm133 hel130 Tryd.underlying126 ti115 rfl rfl) rfl ?_
      refine t_op k_record_kind_opens a0 hel130 fun t134 => ?_
      refine c_s (r_eA a0 hq132 Tryd.underlying115 rfl ti115 rfl rfl) rfl ?_
      refine nx (t_st u0 ti115 rfl rfl rfl rfl rfl (.t (.s (.s (.s .z)))) ?_)
      refine t_nil ?_
      refine t_then hK129 ?_
      refine t_ret ?_
      refine tr (ret1 rfl (v_N rfl a0 Tryd.underlying115 rfl ti115 rfl) (t_bk hR9 ?_))
      exact t_go (J140 el130.name el130.number el130.single h124) ⟨rfl, rfl, trivial⟩ .nil (fun w Z hA => V1 a1 hA (V1 a2 hA (V0)))
    · replace h124 := itF hb127 h124
      refine t_F rfl hb127 ?_
      refine t_skip ?_
      refine t_then hK14 ?_
      refine t_seq fun K135 hK136 => ?_
      refine t_region ?_
      refine c_p (r_bu (ps := []) (cs := [.string (⟨#[]⟩ : ByteArray), .int .i64 0, .bool false]) rfl (by kernel_rfl)) rfl ?_
      refine nx (t_st u0 ti115 rfl rfl rfl rfl rfl (.t (.s (.s (.s .z)))) ?_)
      refine t_nil ?_
      refine t_then hK136 ?_
      refine t_ret ?_
      refine ret1 rfl (v_N rfl a0 Tryd.underlying115 rfl ti115 rfl) (t_bk hR9 ?_)
      exact t_go (J140 (⟨#[]⟩ : ByteArray) 0 false h124) ⟨rfl, rfl, trivial⟩ .nil (fun w Z hA => V1 a0 hA (V1 a1 hA (V0)))
  refine t_seq fun K21 hK22 => ?_
  refine t_region ?_
  refine c_p (r_as rfl) rfl ?_
  refine t_nil ?_
  refine t_then hK22 ?_
  refine t_seq fun K23 hK24 => ?_
  refine t_seq fun K25 hK26 => ?_
  refine t_region ?_
  refine c_p (r_mv rfl) rfl ?_
  refine c_s (r_lnA a1 Tryd.underlying125 rfl) rfl ?_
  refine c_p (r_mv rfl) rfl ?_
  refine t_nil ?_
  refine t_then hK26 ?_
  refine t_block ?_
  refine t_lp fun k85 hk86 => ?_
  have LP88 : ∀ (k90 : Nat) (x87 : Int), f_record_Single_l1 z0 k90 x87 = some r → T 19 c [g_kinds, g_pow10] [[blk g3 [.int .i64 z0] 3], [blk g12 [.string (⟨#[]⟩ : ByteArray), .int .i64 0, .bool false] 115]] [(0, .slice (some ⟨1, 0, none⟩) 10 10), (1, .func (.func 83) #[] #[.pointer (some ⟨g3, 0, none⟩)]), (7, .int .i64 ((t_kinds : List record_kind).length : Int)), (8, .int .i64 x87)] k85 := by
    intro k90
    induction k90 with
    | zero => intro x87 h89; rewrite [f_record_Single_l1] at h89; cases h89
    | succ k90 ih91 =>
      intro x87 h89
      rewrite [f_record_Single_l1] at h89
      refine ti hk86 ?_
      refine t_seq fun K92 hK93 => ?_
      refine t_region ?_
      refine c_p (r_i rfl rfl rfl) rfl ?_
      refine t_nil ?_
      refine t_then hK93 ?_
      refine t_seq fun K94 hK95 => ?_
      rcases Bool.eq_false_or_eq_true (decide (x87 < ((t_kinds : List record_kind).length : Int))) with hb96 | hb96
      · replace h89 := itT hb96 h89
        refine t_T rfl hb96 ?_
        refine t_skip ?_
        refine t_then hK95 ?_
        refine t_seq fun K97 hK98 => ?_
        refine t_block ?_
        refine t_seq fun K99 hK100 => ?_
        refine t_region ?_
        refine c_p (r_mv rfl) rfl ?_
        refine c_p (r_as rfl) rfl ?_
        refine t_nil ?_
        refine t_then hK100 ?_
        refine t_seq fun K101 hK102 => ?_
        refine t_region ?_
        refine c_p (r_mv rfl) rfl ?_
        refine c_p (r_mv rfl) rfl ?_
        refine c_p (r_mv rfl) rfl ?_
        obtain ⟨el106, hel106, h89⟩ := bs h89
        refine t_q a0 hel106 fun q103 hq104 hm105 => ?_
        refine c_p (r_idx hq104 hm105 hel106 Tryd.underlying125 ti115 rfl rfl) rfl ?_
        refine t_op k_record_kind_opens a0 hel106 fun t107 => ?_
        refine c_s (r_eA a0 hq104 Tryd.underlying115 rfl ti115 rfl rfl) rfl ?_
        refine nx (t_in (args := [.agg #[.string el106.name, .int .i64 el106.number, .bool el106.single]]) (cap := [.pointer (some ⟨g3, 0, none⟩)]) (all := [.agg #[.string el106.name, .int .i64 el106.number, .bool el106.single], .pointer (some ⟨g3, 0, none⟩)]) rfl rfl Tryd.func83 nm83 rfl rfl rfl Tryd.ntmps83 rfl fun R108 k109 hk110 hR111 => ?_)
        refine t_seq fun K112 hK113 => ?_
        refine t_region ?_
        refine nx (t_bx (cs := [.string el106.name, .int .i64 el106.number, .bool el106.single]) rfl rfl rfl fun g114 => ?_)
        refine c_p (r_as rfl) rfl ?_
        refine t_nil ?_
        refine t_then hK113 ?_
        refine t_seq fun K115 hK116 => ?_
        refine t_region ?_
        refine c_p (r_fa (off' := 1) Tryd.underlying115 rfl ti3 rfl rfl) rfl ?_
        refine c_s (r_ld a0 Tryd.underlying3 rfl rfl rfl) rfl ?_
        refine c_s (r_ld a1 Tryd.underlying3 rfl rfl rfl) rfl ?_
        refine c_p (r_i rfl rfl rfl) rfl ?_
        refine c_p (r_as rfl) rfl ?_
        refine t_nil ?_
        refine t_then hK116 ?_
        refine t_ret ?_
        refine ret1 rfl (v_t rfl) (t_bk hR111 ?_)
        refine ti hk110 ?_
        refine t_nil ?_
        refine t_then hK102 ?_
        rcases Bool.eq_false_or_eq_true (el106.number == z0) with hb117 | hb117
        · replace h89 := itT hb117 h89
          refine t_T rfl hb117 ?_
          refine t_seq fun K118 hK119 => ?_
          refine t_region ?_
          refine c_p (r_mv rfl) rfl ?_
          refine c_p (r_as rfl) rfl ?_
          refine t_nil ?_
          refine t_then hK119 ?_
          refine t_ret ?_
          refine br (tr (tr (br (tr (ret1 rfl (v_t rfl) (t_bk hR20 ?_))))))
          exact t_go (J123 x87 h89) ⟨rfl, rfl, trivial⟩ (.cons e2 .nil) (fun w Z hA => V1 a1 hA (V1 a2 hA (V0)))
        · replace h89 := itF hb117 h89
          refine t_F rfl hb117 ?_
          refine t_skip ?_
          refine t_blockN ?_
          refine t_then hK98 ?_
          refine t_region ?_
          refine c_p (r_i rfl rfl rfl) rfl ?_
          refine c_p (r_mv rfl) rfl ?_
          refine t_nil ?_
          exact t_norm (t_go (ih91 (IntKind.wrap .i64 (x87 + 1)) h89) ⟨rfl, rfl, rfl, rfl, trivial⟩ (.cons e1 (.cons e1 .nil)) (fun w Z hA => V1 a1 hA (V1 a2 hA (V0))))
      · replace h89 := itF hb96 h89
        refine t_F rfl hb96 ?_
        refine t_exit ?_
        refine te (te (bx ?_))
        refine t_then hK24 ?_
        refine t_seq fun K120 hK121 => ?_
        refine t_region ?_
        refine c_p (r_as rfl) rfl ?_
        refine t_nil ?_
        refine t_then hK121 ?_
        refine t_ret ?_
        refine ret1 rfl (v_t rfl) (t_bk hR20 ?_)
        exact t_go (J123 (-1) h89) ⟨rfl, rfl, trivial⟩ (.cons e1 .nil) (fun w Z hA => V1 a0 hA (V1 a1 hA (V0)))
  exact t_go (LP88 (((((t_kinds : List record_kind).length : Int) : Int) - (0)).toNat + 1) 0 h) ⟨rfl, rfl, rfl, rfl, trivial⟩ (.cons e1 (.cons e0 .nil)) (fun w Z hA => V1 a1 hA (V1 a0 hA (V0)))
end
end Go.Proofs.YthmjklpmamfncaaDoor.Gx

/- Function 64, kaudit/record.Name: what it answers as a plain function, and that the Go code comes to exactly that (where the plain function gives an answer). -/
set_option linter.unusedVariables false
set_option linter.unusedSimpArgs false
namespace Go.Proofs.YthmjklpmamfncaaDoor.Gx
open Go.Gx Go.RowKit
noncomputable section
/-! ### kaudit/record.Name: function 64 -/
def f_record_Name_j2 (x137 : ByteArray) (x138 : Int) (x139 : Bool) : Option (ByteArray) := some x137
def f_record_Name_j1 (x122 : Int) : Option (ByteArray) := if (decide (x122 ≥ 0)) = true then ((at_ (t_kinds : List record_kind) x122).bind fun el130 => f_record_Name_j2 el130.name el130.number el130.single) else (f_record_Name_j2 (⟨#[]⟩ : ByteArray) 0 false)
def f_record_Name_l1 (z0 : Int) : Nat → Int → Option (ByteArray)
  | 0, _ => none
  | k90 + 1, x87 => if (decide (x87 < ((t_kinds : List record_kind).length : Int))) = true then ((at_ (t_kinds : List record_kind) x87).bind fun el106 => if (el106.number == z0) = true then (f_record_Name_j1 x87) else (f_record_Name_l1 z0 k90 (IntKind.wrap .i64 (x87 + 1)))) else (f_record_Name_j1 (-1))
def f_record_Name (z0 : Int) : Option (ByteArray) := f_record_Name_l1 z0 (((((t_kinds : List record_kind).length : Int) : Int) - (0)).toNat + 1) 0
set_option maxHeartbeats 4000000 in
set_option maxRecDepth 100000 in
theorem C64 (z0 : Int) (r : ByteArray) (h : f_record_Name z0 = some r) : FunG Tryd.prog 64 #[.int .i64 z0] [g_pow10, g_kinds] [] (fun (_ : Unit) => .string r) (fun _ => []) (fun _ => []) := by
  unfold f_record_Name at h
  refine t_begin (args := [.int .i64 z0]) Tryd.func64 rfl Tryd.ntmps64 rfl fun c R hR => ?_
  have hQ : ∀ X, X = r → ∀ w2 (_ : Unit), PostG c.w0 w2 c.M c.Y [] [] → R (.returned (.string X)) w2 := fun X e => by subst e; exact hR
  refine t_seq fun K1 hK2 => ?_
  refine t_region ?_
  refine nx (t_bx (cs := [.int .i64 z0]) rfl rfl rfl fun g3 => ?_)
  refine c_p (r_as rfl) rfl ?_
  refine t_nil ?_
  refine t_then hK2 ?_
  refine t_seq fun K4 hK5 => ?_
  refine t_region ?_
  refine c_p (r_mf (vs := [.pointer (some ⟨g3, 0, none⟩)]) rfl) rfl ?_
  refine nx (t_in (args := [.func (.func 84) #[] #[.pointer (some ⟨g3, 0, none⟩)]]) (cap := []) (all := [.func (.func 84) #[] #[.pointer (some ⟨g3, 0, none⟩)]]) rfl rfl Tryd.func82 nm82 rfl rfl rfl Tryd.ntmps82 rfl fun R6 k7 hk8 hR9 => ?_)
  have J140 : ∀ (x137 : ByteArray) (x138 : Int) (x139 : Bool), f_record_Name_j2 x137 x138 x139 = some r → T 6 c [g_kinds, g_pow10] [] [(2, .string (⟨#[]⟩ : ByteArray)), (4, .agg #[.string x137, .int .i64 x138, .bool x139])] k7 := by
    intro x137 x138 x139 h141
    unfold f_record_Name_j2 at h141
    refine ti hk8 ?_
    refine c_p (r_f1 Tryd.underlying115 rfl Tryd.underlying9 rfl rfl rfl) rfl ?_
    refine c_p (r_as rfl) rfl ?_
    refine t_nil ?_
    refine t_then hK5 ?_
    refine t_ret ?_
    exact ret1 rfl (v_t rfl) (t_leave (hQ _ (Option.some.inj h141)) () rfl (fun w Z hA => V0) .nil)
  refine t_seq fun K10 hK11 => ?_
  refine t_region ?_
  refine nx (t_al (cs := [.string (⟨#[]⟩ : ByteArray), .int .i64 0, .bool false]) ti115 rfl rfl fun g12 => ?_)
  refine t_nil ?_
  refine t_then hK11 ?_
  refine t_seq fun K13 hK14 => ?_
  refine t_seq fun K15 hK16 => ?_
  refine t_region ?_
  refine c_p (r_gsl Tryd.underlying126 ti115 rfl) rfl ?_
  refine c_p (r_mv rfl) rfl ?_
  refine nx (t_in (args := [.slice (some ⟨1, 0, none⟩) 10 10, .func (.func 84) #[] #[.pointer (some ⟨g3, 0, none⟩)]]) (cap := []) (all := [.slice (some ⟨1, 0, none⟩) 10 10, .func (.func 84) #[] #[.pointer (some ⟨g3, 0, none⟩)]]) rfl rfl Tryd.func93 nm93 rfl rfl rfl Tryd.ntmps93 rfl fun R17 k18 hk19 hR20 => ?_)
  have J123 : ∀ (x122 : Int), f_record_Name_j1 x122 = some r → T 13 c [g_kinds, g_pow10] [[blk g12 [.string (⟨#[]⟩ : ByteArray), .int .i64 0, .bool false] 115]] [(2, .pointer (some ⟨g12, 0, none⟩)), (6, .int .i64 x122)] k18 := by
    intro x122 h124
    unfold f_record_Name_j1 at h124
    refine ti hk19 ?_
    refine c_p (r_as rfl) rfl ?_
    refine t_nil ?_
    refine t_then hK16 ?_
    refine t_seq fun K125 hK126 => ?_
    refine t_region ?_
    refine c_p (r_mv rfl) rfl ?_
    refine c_p (r_i rfl rfl rfl) rfl ?_
    refine t_nil ?_
    refine t_then hK126 ?_
    rcases Bool.eq_false_or_eq_true (decide (x122 ≥ 0)) with hb127 | hb127
    · replace h124 := itT hb127 h124
      refine t_T rfl hb127 ?_
      refine t_seq fun K128 hK129 => ?_
      refine t_region ?_
      refine c_p (r_mv rfl) rfl ?_
      obtain ⟨el130, hel130, h124⟩ := bs h124
      refine t_q a0 hel130 fun q131 hq132 hm133 => ?_
      refine c_p (r_idxG hq132 hm133 hel130 Tryd.underlying126 ti115 rfl rfl) rfl ?_
      refine t_op k_record_kind_opens a0 hel130 fun t134 => ?_
      refine c_s (r_eA a0 hq132 Tryd.underlying115 rfl ti115 rfl rfl) rfl ?_
      refine nx (t_st u0 ti115 rfl rfl rfl rfl rfl (.t (.s (.s (.s .z)))) ?_)
      refine t_nil ?_
      refine t_then hK129 ?_
      refine t_ret ?_
      refine tr (ret1 rfl (v_N rfl a0 Tryd.underlying115 rfl ti115 rfl) (t_bk hR9 ?_))
      exact t_go (J140 el130.name el130.number el130.single h124) ⟨rfl, rfl, trivial⟩ .nil (fun w Z hA => V1 a1 hA (V1 a2 hA (V0)))
    · replace h124 := itF hb127 h124
      refine t_F rfl hb127 ?_
      refine t_skip ?_
      refine t_then hK14 ?_
      refine t_seq fun K135 hK136 => ?_
      refine t_region ?_
      refine c_p (r_bu (ps := []) (cs := [.string (⟨#[]⟩ : ByteArray), .int .i64 0, .bool false]) rfl (by kernel_rfl)) rfl ?_
      refine nx (t_st u0 ti115 rfl rfl rfl rfl rfl (.t (.s (.s (.s .z)))) ?_)
      refine t_nil ?_
      refine t_then hK136 ?_
      refine t_ret ?_
      refine ret1 rfl (v_N rfl a0 Tryd.underlying115 rfl ti115 rfl) (t_bk hR9 ?_)
      exact t_go (J140 (⟨#[]⟩ : ByteArray) 0 false h124) ⟨rfl, rfl, trivial⟩ .nil (fun w Z hA => V1 a0 hA (V1 a1 hA (V0)))
  refine t_seq fun K21 hK22 => ?_
  refine t_region ?_
  refine c_p (r_as rfl) rfl ?_
  refine t_nil ?_
  refine t_then hK22 ?_
  refine t_seq fun K23 hK24 => ?_
  refine t_seq fun K25 hK26 => ?_
  refine t_region ?_
  refine c_p (r_mv rfl) rfl ?_
  refine c_s (r_lnA a1 Tryd.underlying125 rfl) rfl ?_
  refine c_p (r_mv rfl) rfl ?_
  refine t_nil ?_
  refine t_then hK26 ?_
  refine t_block ?_
  refine t_lp fun k85 hk86 => ?_
  have LP88 : ∀ (k90 : Nat) (x87 : Int), f_record_Name_l1 z0 k90 x87 = some r → T 19 c [g_kinds, g_pow10] [[blk g3 [.int .i64 z0] 3], [blk g12 [.string (⟨#[]⟩ : ByteArray), .int .i64 0, .bool false] 115]] [(0, .slice (some ⟨1, 0, none⟩) 10 10), (1, .func (.func 84) #[] #[.pointer (some ⟨g3, 0, none⟩)]), (7, .int .i64 ((t_kinds : List record_kind).length : Int)), (8, .int .i64 x87)] k85 := by
    intro k90
    induction k90 with
    | zero => intro x87 h89; rewrite [f_record_Name_l1] at h89; cases h89
    | succ k90 ih91 =>
      intro x87 h89
      rewrite [f_record_Name_l1] at h89
      refine ti hk86 ?_
      refine t_seq fun K92 hK93 => ?_
      refine t_region ?_
      refine c_p (r_i rfl rfl rfl) rfl ?_
      refine t_nil ?_
      refine t_then hK93 ?_
      refine t_seq fun K94 hK95 => ?_
      rcases Bool.eq_false_or_eq_true (decide (x87 < ((t_kinds : List record_kind).length : Int))) with hb96 | hb96
      · replace h89 := itT hb96 h89
        refine t_T rfl hb96 ?_
        refine t_skip ?_
        refine t_then hK95 ?_
        refine t_seq fun K97 hK98 => ?_
        refine t_block ?_
        refine t_seq fun K99 hK100 => ?_
        refine t_region ?_
        refine c_p (r_mv rfl) rfl ?_
        refine c_p (r_as rfl) rfl ?_
        refine t_nil ?_
        refine t_then hK100 ?_
        refine t_seq fun K101 hK102 => ?_
        refine t_region ?_
        refine c_p (r_mv rfl) rfl ?_
        refine c_p (r_mv rfl) rfl ?_
        refine c_p (r_mv rfl) rfl ?_
        obtain ⟨el106, hel106, h89⟩ := bs h89
        refine t_q a0 hel106 fun q103 hq104 hm105 => ?_
        refine c_p (r_idx hq104 hm105 hel106 Tryd.underlying125 ti115 rfl rfl) rfl ?_
        refine t_op k_record_kind_opens a0 hel106 fun t107 => ?_
        refine c_s (r_eA a0 hq104 Tryd.underlying115 rfl ti115 rfl rfl) rfl ?_
        refine nx (t_in (args := [.agg #[.string el106.name, .int .i64 el106.number, .bool el106.single]]) (cap := [.pointer (some ⟨g3, 0, none⟩)]) (all := [.agg #[.string el106.name, .int .i64 el106.number, .bool el106.single], .pointer (some ⟨g3, 0, none⟩)]) rfl rfl Tryd.func84 nm84 rfl rfl rfl Tryd.ntmps84 rfl fun R108 k109 hk110 hR111 => ?_)
        refine t_seq fun K112 hK113 => ?_
        refine t_region ?_
        refine nx (t_bx (cs := [.string el106.name, .int .i64 el106.number, .bool el106.single]) rfl rfl rfl fun g114 => ?_)
        refine c_p (r_as rfl) rfl ?_
        refine t_nil ?_
        refine t_then hK113 ?_
        refine t_seq fun K115 hK116 => ?_
        refine t_region ?_
        refine c_p (r_fa (off' := 1) Tryd.underlying115 rfl ti3 rfl rfl) rfl ?_
        refine c_s (r_ld a0 Tryd.underlying3 rfl rfl rfl) rfl ?_
        refine c_s (r_ld a1 Tryd.underlying3 rfl rfl rfl) rfl ?_
        refine c_p (r_i rfl rfl rfl) rfl ?_
        refine c_p (r_as rfl) rfl ?_
        refine t_nil ?_
        refine t_then hK116 ?_
        refine t_ret ?_
        refine ret1 rfl (v_t rfl) (t_bk hR111 ?_)
        refine ti hk110 ?_
        refine t_nil ?_
        refine t_then hK102 ?_
        rcases Bool.eq_false_or_eq_true (el106.number == z0) with hb117 | hb117
        · replace h89 := itT hb117 h89
          refine t_T rfl hb117 ?_
          refine t_seq fun K118 hK119 => ?_
          refine t_region ?_
          refine c_p (r_mv rfl) rfl ?_
          refine c_p (r_as rfl) rfl ?_
          refine t_nil ?_
          refine t_then hK119 ?_
          refine t_ret ?_
          refine br (tr (tr (br (tr (ret1 rfl (v_t rfl) (t_bk hR20 ?_))))))
          exact t_go (J123 x87 h89) ⟨rfl, rfl, trivial⟩ (.cons e2 .nil) (fun w Z hA => V1 a1 hA (V1 a2 hA (V0)))
        · replace h89 := itF hb117 h89
          refine t_F rfl hb117 ?_
          refine t_skip ?_
          refine t_blockN ?_
          refine t_then hK98 ?_
          refine t_region ?_
          refine c_p (r_i rfl rfl rfl) rfl ?_
          refine c_p (r_mv rfl) rfl ?_
          refine t_nil ?_
          exact t_norm (t_go (ih91 (IntKind.wrap .i64 (x87 + 1)) h89) ⟨rfl, rfl, rfl, rfl, trivial⟩ (.cons e1 (.cons e1 .nil)) (fun w Z hA => V1 a1 hA (V1 a2 hA (V0))))
      · replace h89 := itF hb96 h89
        refine t_F rfl hb96 ?_
        refine t_exit ?_
        refine te (te (bx ?_))
        refine t_then hK24 ?_
        refine t_seq fun K120 hK121 => ?_
        refine t_region ?_
        refine c_p (r_as rfl) rfl ?_
        refine t_nil ?_
        refine t_then hK121 ?_
        refine t_ret ?_
        refine ret1 rfl (v_t rfl) (t_bk hR20 ?_)
        exact t_go (J123 (-1) h89) ⟨rfl, rfl, trivial⟩ (.cons e1 .nil) (fun w Z hA => V1 a0 hA (V1 a1 hA (V0)))
  exact t_go (LP88 (((((t_kinds : List record_kind).length : Int) : Int) - (0)).toNat + 1) 0 h) ⟨rfl, rfl, rfl, rfl, trivial⟩ (.cons e1 (.cons e0 .nil)) (fun w Z hA => V1 a1 hA (V1 a0 hA (V0)))
end
end Go.Proofs.YthmjklpmamfncaaDoor.Gx

/- Function 49, kaudit/assemble.Complete: what it answers as a plain function, and that the Go code comes to exactly that (where the plain function gives an answer). -/
set_option linter.unusedVariables false
set_option linter.unusedSimpArgs false
namespace Go.Proofs.YthmjklpmamfncaaDoor.Gx
open Go.Gx Go.RowKit
noncomputable section
/-! ### kaudit/assemble.Complete: function 49 -/
def f_assemble_Complete_l1 (z0 : api_Event) : Nat → Int → Option (Bool)
  | 0, _ => none
  | k99 + 1, x96 => if (decide (x96 < (z0.Records.length : Int))) = true then ((at_ z0.Records x96).bind fun el113 => (f_record_Name el113.Type_).bind fun y118 => if (y118.toList == (⟨#[]⟩ : ByteArray).toList) = true then (some false) else ((f_record_Single el113.Type_).bind fun y121 => if y121 = true then (some false) else (if ((el113.Type_ == 1320) != (x96 == (IntKind.wrap .i64 ((z0.Records.length : Int) - 1)))) = true then (some false) else (f_assemble_Complete_l1 z0 k99 (IntKind.wrap .i64 (x96 + 1)))))) else (some (decide ((z0.Records.length : Int) > 0)))
def f_assemble_Complete_j1 (z0 : api_Event) : Option (Bool) := f_assemble_Complete_l1 z0 ((((z0.Records.length : Int) : Int) - (0)).toNat + 1) 0
def f_assemble_Complete (z0 : api_Event) : Option (Bool) := if ((z0.Records.length : Int) == 1) = true then ((at_ z0.Records 0).bind fun el17 => (f_record_Single el17.Type_).bind fun y21 => if y21 = true then (some true) else (f_assemble_Complete_j1 z0)) else (f_assemble_Complete_j1 z0)
set_option maxHeartbeats 4000000 in
set_option maxRecDepth 100000 in
theorem C49 (z0 : api_Event) (p1 : Option Addr) (m2 : Nat) (c3 : Nat) (r : Bool) (h : f_assemble_Complete z0 = some r) : FunG Tryd.prog 49 #[.agg #[.int .i64 z0.Boot, .int .i64 z0.Serial, .int .i64 z0.Time, .slice p1 m2 c3, .bool z0.Complete]] [vw (kSlice 72 k_api_Record) z0.Records [.slice p1 m2 c3], g_pow10, g_kinds] [] (fun (_ : Unit) => .bool r) (fun _ => []) (fun _ => []) := by
  unfold f_assemble_Complete at h
  refine t_begin (args := [.agg #[.int .i64 z0.Boot, .int .i64 z0.Serial, .int .i64 z0.Time, .slice p1 m2 c3, .bool z0.Complete]]) Tryd.func49 rfl Tryd.ntmps49 rfl fun c R hR => ?_
  have hQ : ∀ X, X = r → ∀ w2 (_ : Unit), PostG c.w0 w2 c.M c.Y [] [] → R (.returned (.bool X)) w2 := fun X e => by subst e; exact hR
  refine t_seq fun K4 hK5 => ?_
  refine t_region ?_
  refine nx (t_bx (cs := [.int .i64 z0.Boot, .int .i64 z0.Serial, .int .i64 z0.Time, .slice p1 m2 c3, .bool z0.Complete]) rfl rfl rfl fun g6 => ?_)
  refine c_p (r_as rfl) rfl ?_
  refine t_nil ?_
  refine t_then hK5 ?_
  refine t_seq fun K7 hK8 => ?_
  refine t_region ?_
  refine c_p (r_fa (off' := 3) Tryd.underlying58 rfl ti56 rfl rfl) rfl ?_
  refine c_s (r_ld a0 Tryd.underlying56 rfl rfl rfl) rfl ?_
  refine c_s (r_lnA a0 Tryd.underlying56 rfl) rfl ?_
  refine c_p (r_as rfl) rfl ?_
  refine t_nil ?_
  refine t_then hK8 ?_
  refine t_seq fun K9 hK10 => ?_
  have J26 : f_assemble_Complete_j1 z0 = some r → T 49 c [vw (kSlice 72 k_api_Record) z0.Records [.slice p1 m2 c3], g_pow10, g_kinds] [[blk g6 [.int .i64 z0.Boot, .int .i64 z0.Serial, .int .i64 z0.Time, .slice p1 m2 c3, .bool z0.Complete] 58]] [(1, .pointer (some ⟨g6, 0, none⟩)), (3, .int .i64 (z0.Records.length : Int))] K9 := by
    intro h27
    unfold f_assemble_Complete_j1 at h27
    refine ti hK10 ?_
    refine t_seq fun K28 hK29 => ?_
    refine t_seq fun K30 hK31 => ?_
    refine t_region ?_
    refine c_p (r_fa (off' := 3) Tryd.underlying58 rfl ti56 rfl rfl) rfl ?_
    refine c_s (r_ld a0 Tryd.underlying56 rfl rfl rfl) rfl ?_
    refine c_s (r_lnA a0 Tryd.underlying56 rfl) rfl ?_
    refine c_p (r_mv rfl) rfl ?_
    refine t_nil ?_
    refine t_then hK31 ?_
    refine t_block ?_
    refine t_lp fun k94 hk95 => ?_
    have LP97 : ∀ (k99 : Nat) (x96 : Int), f_assemble_Complete_l1 z0 k99 x96 = some r → T 49 c [vw (kSlice 72 k_api_Record) z0.Records [.slice p1 m2 c3], g_pow10, g_kinds] [] [(3, .int .i64 (z0.Records.length : Int)), (20, .slice p1 m2 c3), (21, .int .i64 (z0.Records.length : Int)), (22, .int .i64 x96)] k94 := by
      intro k99
      induction k99 with
      | zero => intro x96 h98; rewrite [f_assemble_Complete_l1] at h98; cases h98
      | succ k99 ih100 =>
        intro x96 h98
        rewrite [f_assemble_Complete_l1] at h98
        refine ti hk95 ?_
        refine t_seq fun K101 hK102 => ?_
        refine t_region ?_
        refine c_p (r_i rfl rfl rfl) rfl ?_
        refine t_nil ?_
        refine t_then hK102 ?_
        refine t_seq fun K103 hK104 => ?_
        rcases Bool.eq_false_or_eq_true (decide (x96 < (z0.Records.length : Int))) with hb105 | hb105
        · replace h98 := itT hb105 h98
          refine t_T rfl hb105 ?_
          refine t_skip ?_
          refine t_then hK104 ?_
          refine t_seq fun K106 hK107 => ?_
          refine t_block ?_
          refine t_seq fun K108 hK109 => ?_
          refine t_region ?_
          refine c_p (r_mv rfl) rfl ?_
          obtain ⟨el113, hel113, h98⟩ := bs h98
          refine t_q a0 hel113 fun q110 hq111 hm112 => ?_
          refine c_p (r_idx hq111 hm112 hel113 Tryd.underlying56 ti72 rfl rfl) rfl ?_
          refine t_op k_api_Record_opens a0 hel113 fun t114 => ?_
          refine c_s (r_eA a1 hq111 Tryd.underlying72 rfl ti72 rfl rfl) rfl ?_
          refine nx (t_al (cs := [.int .i64 0, .int .i64 0, .int .i64 0, .slice none 0 0]) ti72 rfl rfl fun g115 => ?_)
          refine c_p (r_as rfl) rfl ?_
          refine nx (t_st u0 ti72 rfl rfl rfl rfl rfl (.t (.s (.s (.s (.s .z))))) ?_)
          refine t_nil ?_
          refine t_then hK109 ?_
          refine t_seq fun K116 hK117 => ?_
          refine t_region ?_
          refine c_p (r_fa (off' := 0) Tryd.underlying72 rfl ti3 rfl rfl) rfl ?_
          refine c_s (r_ld a0 Tryd.underlying3 rfl rfl rfl) rfl ?_
          obtain ⟨y118, hy118, h98⟩ := bs h98
          refine nx (t_ca (C64 _ _ hy118) Tryd.func64 nm64 rfl rfl rfl .nil (fun w Z hA => (V1 a3 hA (V1 a4 hA V0))) rfl fun t119 => ?_)
          refine c_p (r_s rfl rfl rfl) rfl ?_
          refine c_p (r_mv rfl) rfl ?_
          rcases Bool.eq_false_or_eq_true (y118.toList == (⟨#[]⟩ : ByteArray).toList) with hb120 | hb120
          · replace h98 := itT hb120 h98
            refine nx (pass rfl rfl hb120 rfl ?_)
            refine nx (pass rfl rfl hb120 rfl ?_)
            refine nx (pass rfl rfl hb120 rfl ?_)
            refine c_p (r_pT rfl hb120 rfl) rfl ?_
            refine c_p (r_mv rfl) rfl ?_
            refine nx (pass rfl rfl rfl rfl ?_)
            refine nx (pass rfl rfl rfl rfl ?_)
            refine nx (pass rfl rfl rfl rfl ?_)
            refine nx (pass rfl rfl rfl rfl ?_)
            refine nx (pass rfl rfl rfl rfl ?_)
            refine nx (pass rfl rfl rfl rfl ?_)
            refine nx (pass rfl rfl rfl rfl ?_)
            refine nx (pass rfl rfl rfl rfl ?_)
            refine c_p (r_pT rfl rfl rfl) rfl ?_
            refine t_nil ?_
            refine t_then hK117 ?_
            refine t_T rfl rfl ?_
            refine t_seq fun K124 hK125 => ?_
            refine t_region ?_
            refine c_p (r_as rfl) rfl ?_
            refine t_nil ?_
            refine t_then hK125 ?_
            refine t_ret ?_
            exact br (tr (tr (br (tr (ret1 rfl (v_t rfl) (t_leave (hQ _ (Option.some.inj h98)) () rfl (fun w Z hA => V0) .nil))))))
          · replace h98 := itF hb120 h98
            refine nx (gd rfl rfl hb120 (sp (r_fa (off' := 0) Tryd.underlying72 rfl ti3 rfl rfl) rfl ?_))
            refine nx (gd rfl rfl hb120 (ss (r_ld a0 Tryd.underlying3 rfl rfl rfl) rfl ?_))
            obtain ⟨y121, hy121, h98⟩ := bs h98
            refine nx (gd rfl rfl hb120 (t_ca (C63 _ _ hy121) Tryd.func63 nm63 rfl rfl rfl .nil (fun w Z hA => (V1 a3 hA (V1 a4 hA V0))) rfl fun t122 => ?_))
            refine c_p (r_pF rfl hb120 rfl) rfl ?_
            refine c_p (r_mv rfl) rfl ?_
            rcases Bool.eq_false_or_eq_true y121 with hb123 | hb123
            · replace h98 := itT hb123 h98
              refine nx (pass rfl rfl hb123 rfl ?_)
              refine nx (pass rfl rfl hb123 rfl ?_)
              refine nx (pass rfl rfl hb123 rfl ?_)
              refine nx (pass rfl rfl hb123 rfl ?_)
              refine nx (pass rfl rfl hb123 rfl ?_)
              refine nx (pass rfl rfl hb123 rfl ?_)
              refine nx (pass rfl rfl hb123 rfl ?_)
              refine nx (pass rfl rfl hb123 rfl ?_)
              refine c_p (r_pT rfl hb123 rfl) rfl ?_
              refine t_nil ?_
              refine t_then hK117 ?_
              refine t_T rfl rfl ?_
              refine t_seq fun K126 hK127 => ?_
              refine t_region ?_
              refine c_p (r_as rfl) rfl ?_
              refine t_nil ?_
              refine t_then hK127 ?_
              refine t_ret ?_
              exact br (tr (tr (br (tr (ret1 rfl (v_t rfl) (t_leave (hQ _ (Option.some.inj h98)) () rfl (fun w Z hA => V0) .nil))))))
            · replace h98 := itF hb123 h98
              refine nx (gd rfl rfl hb123 (sp (r_fa (off' := 0) Tryd.underlying72 rfl ti3 rfl rfl) rfl ?_))
              refine nx (gd rfl rfl hb123 (ss (r_ld a0 Tryd.underlying3 rfl rfl rfl) rfl ?_))
              refine nx (gd rfl rfl hb123 (sp (r_i rfl rfl rfl) rfl ?_))
              refine nx (gd rfl rfl hb123 (sp (r_mv rfl) rfl ?_))
              refine nx (gd rfl rfl hb123 (sp (r_mv rfl) rfl ?_))
              refine nx (gd rfl rfl hb123 (sp (r_i rfl rfl rfl) rfl ?_))
              refine nx (gd rfl rfl hb123 (sp (r_i rfl rfl rfl) rfl ?_))
              refine nx (gd rfl rfl hb123 (sp (r_bne Tryd.underlying4 rfl rfl) rfl ?_))
              refine c_p (r_pF rfl hb123 rfl) rfl ?_
              refine t_nil ?_
              refine t_then hK117 ?_
              rcases Bool.eq_false_or_eq_true ((el113.Type_ == 1320) != (x96 == (IntKind.wrap .i64 ((z0.Records.length : Int) - 1)))) with hb128 | hb128
              · replace h98 := itT hb128 h98
                refine t_T rfl hb128 ?_
                refine t_seq fun K129 hK130 => ?_
                refine t_region ?_
                refine c_p (r_as rfl) rfl ?_
                refine t_nil ?_
                refine t_then hK130 ?_
                refine t_ret ?_
                exact br (tr (tr (br (tr (ret1 rfl (v_t rfl) (t_leave (hQ _ (Option.some.inj h98)) () rfl (fun w Z hA => V0) .nil))))))
              · replace h98 := itF hb128 h98
                refine t_F rfl hb128 ?_
                refine t_skip ?_
                refine t_blockN ?_
                refine t_then hK107 ?_
                refine t_region ?_
                refine c_p (r_i rfl rfl rfl) rfl ?_
                refine c_p (r_mv rfl) rfl ?_
                refine t_nil ?_
                exact t_norm (t_go (ih100 (IntKind.wrap .i64 (x96 + 1)) h98) ⟨rfl, rfl, rfl, rfl, trivial⟩ .nil (fun w Z hA => V1 a2 hA (V1 a3 hA (V1 a4 hA (V0)))))
        · replace h98 := itF hb105 h98
          refine t_F rfl hb105 ?_
          refine t_exit ?_
          refine te (te (bx ?_))
          refine t_then hK29 ?_
          refine t_seq fun K131 hK132 => ?_
          refine t_region ?_
          refine c_p (r_mv rfl) rfl ?_
          refine c_p (r_i rfl rfl rfl) rfl ?_
          refine c_p (r_as rfl) rfl ?_
          refine t_nil ?_
          refine t_then hK132 ?_
          refine t_ret ?_
          exact ret1 rfl (v_t rfl) (t_leave (hQ _ (Option.some.inj h98)) () rfl (fun w Z hA => V0) .nil)
    exact t_go (LP97 ((((z0.Records.length : Int) : Int) - (0)).toNat + 1) 0 h27) ⟨rfl, rfl, rfl, rfl, trivial⟩ .nil (fun w Z hA => V1 a0 hA (V1 a1 hA (V1 a2 hA (V0))))
  refine t_seq fun K11 hK12 => ?_
  refine t_region ?_
  refine c_p (r_mv rfl) rfl ?_
  refine c_p (r_i rfl rfl rfl) rfl ?_
  refine c_p (r_mv rfl) rfl ?_
  rcases Bool.eq_false_or_eq_true ((z0.Records.length : Int) == 1) with hb13 | hb13
  · replace h := itT hb13 h
    refine nx (gd rfl rfl hb13 (sp (r_fa (off' := 3) Tryd.underlying58 rfl ti56 rfl rfl) rfl ?_))
    refine nx (gd rfl rfl hb13 (ss (r_ld a0 Tryd.underlying56 rfl rfl rfl) rfl ?_))
    obtain ⟨el17, hel17, h⟩ := bs h
    refine t_q a0 hel17 fun q14 hq15 hm16 => ?_
    refine nx (gd rfl rfl hb13 (sp (r_idx hq15 hm16 hel17 Tryd.underlying56 ti72 rfl rfl) rfl ?_))
    refine t_qf hq15 0 fun q18 hq19 => ?_
    refine nx (gd rfl rfl hb13 (sp (r_fai hq15 hq19 Tryd.underlying72 rfl ti3 rfl rfl) rfl ?_))
    refine t_op k_api_Record_opens a0 hel17 fun t20 => ?_
    refine nx (gd rfl rfl hb13 (ss (r_e1 a1 hq19 Tryd.underlying3 rfl rfl rfl) rfl ?_))
    obtain ⟨y21, hy21, h⟩ := bs h
    refine nx (gd rfl rfl hb13 (t_ca (C63 _ _ hy21) Tryd.func63 nm63 rfl rfl rfl .nil (fun w Z hA => (V1 a3 hA (V1 a4 hA V0))) rfl fun t22 => ?_))
    refine c_p (r_pT rfl hb13 rfl) rfl ?_
    refine t_nil ?_
    refine t_then hK12 ?_
    rcases Bool.eq_false_or_eq_true y21 with hb23 | hb23
    · replace h := itT hb23 h
      refine t_T rfl hb23 ?_
      refine t_seq fun K24 hK25 => ?_
      refine t_region ?_
      refine c_p (r_as rfl) rfl ?_
      refine t_nil ?_
      refine t_then hK25 ?_
      refine t_ret ?_
      exact tr (ret1 rfl (v_t rfl) (t_leave (hQ _ (Option.some.inj h)) () rfl (fun w Z hA => V0) .nil))
    · replace h := itF hb23 h
      refine t_F rfl hb23 ?_
      refine t_skip ?_
      exact t_norm (t_go (J26 h) ⟨rfl, rfl, trivial⟩ (.cons e0 .nil) (fun w Z hA => V1 a2 hA (V1 a3 hA (V1 a4 hA (V0)))))
  · replace h := itF hb13 h
    refine nx (pass rfl rfl hb13 rfl ?_)
    refine nx (pass rfl rfl hb13 rfl ?_)
    refine nx (pass rfl rfl hb13 rfl ?_)
    refine nx (pass rfl rfl hb13 rfl ?_)
    refine nx (pass rfl rfl hb13 rfl ?_)
    refine nx (pass rfl rfl hb13 rfl ?_)
    refine c_p (r_pF rfl hb13 rfl) rfl ?_
    refine t_nil ?_
    refine t_then hK12 ?_
    refine t_F rfl rfl ?_
    refine t_skip ?_
    exact t_norm (t_go (J26 h) ⟨rfl, rfl, trivial⟩ (.cons e0 .nil) (fun w Z hA => V1 a0 hA (V1 a1 hA (V1 a2 hA (V0)))))
end
end Go.Proofs.YthmjklpmamfncaaDoor.Gx

/- Function 65, kaudit/coverage.number: what it answers as a plain function, and that the Go code comes to exactly that (where the plain function gives an answer). -/
set_option linter.unusedVariables false
set_option linter.unusedSimpArgs false
namespace Go.Proofs.YthmjklpmamfncaaDoor.Gx
open Go.Gx Go.RowKit
noncomputable section
/-! ### kaudit/coverage.number: function 65 -/
def f_coverage_number_l1 (z0 : api_Record) (z1 : ByteArray) : Nat → Int → Option (Int × Bool)
  | 0, _ => none
  | k58 + 1, x55 => if (decide (x55 < (z0.Pairs.length : Int))) = true then ((at_ z0.Pairs x55).bind fun el72 => if (el72.Name.toList == z1.toList) = true then (some (el72.Num, (el72.Kind == 1))) else (f_coverage_number_l1 z0 z1 k58 (IntKind.wrap .i64 (x55 + 1)))) else (some (0, false))
def f_coverage_number (z0 : api_Record) (z1 : ByteArray) : Option (Int × Bool) := f_coverage_number_l1 z0 z1 ((((z0.Pairs.length : Int) : Int) - (0)).toNat + 1) 0
set_option maxHeartbeats 4000000 in
set_option maxRecDepth 100000 in
theorem C65 (z0 : api_Record) (z1 : ByteArray) (p1 : Option Addr) (m2 : Nat) (c3 : Nat) (r : Int × Bool) (h : f_coverage_number z0 z1 = some r) : FunG Tryd.prog 65 #[.agg #[.int .i64 z0.Type_, .int .i64 z0.Time, .int .i64 z0.Serial, .slice p1 m2 c3], .string z1] [vw (kSlice 76 k_api_Pair) z0.Pairs [.slice p1 m2 c3], g_pow10, g_kinds] [] (fun (_ : Unit) => .tuple #[.int .i64 r.1, .bool r.2]) (fun _ => []) (fun _ => []) := by
  unfold f_coverage_number at h
  refine t_begin (args := [.agg #[.int .i64 z0.Type_, .int .i64 z0.Time, .int .i64 z0.Serial, .slice p1 m2 c3], .string z1]) Tryd.func65 rfl Tryd.ntmps65 rfl fun c R hR => ?_
  have hQ : ∀ X, X = r → ∀ w2 (_ : Unit), PostG c.w0 w2 c.M c.Y [] [] → R (.returned (.tuple #[.int .i64 X.1, .bool X.2])) w2 := fun X e => by subst e; exact hR
  refine t_seq fun K4 hK5 => ?_
  refine t_region ?_
  refine nx (t_bx (cs := [.int .i64 z0.Type_, .int .i64 z0.Time, .int .i64 z0.Serial, .slice p1 m2 c3]) rfl rfl rfl fun g6 => ?_)
  refine c_p (r_as rfl) rfl ?_
  refine c_p (r_as rfl) rfl ?_
  refine t_nil ?_
  refine t_then hK5 ?_
  refine t_seq fun K7 hK8 => ?_
  refine t_seq fun K9 hK10 => ?_
  refine t_region ?_
  refine c_p (r_fa (off' := 3) Tryd.underlying72 rfl ti70 rfl rfl) rfl ?_
  refine c_s (r_ld a0 Tryd.underlying70 rfl rfl rfl) rfl ?_
  refine c_s (r_lnA a0 Tryd.underlying70 rfl) rfl ?_
  refine c_p (r_mv rfl) rfl ?_
  refine t_nil ?_
  refine t_then hK10 ?_
  refine t_block ?_
  refine t_lp fun k53 hk54 => ?_
  have LP56 : ∀ (k58 : Nat) (x55 : Int), f_coverage_number_l1 z0 z1 k58 x55 = some r → T 25 c [vw (kSlice 76 k_api_Pair) z0.Pairs [.slice p1 m2 c3], g_pow10, g_kinds] [] [(1, .string z1), (9, .slice p1 m2 c3), (10, .int .i64 (z0.Pairs.length : Int)), (11, .int .i64 x55)] k53 := by
    intro k58
    induction k58 with
    | zero => intro x55 h57; rewrite [f_coverage_number_l1] at h57; cases h57
    | succ k58 ih59 =>
      intro x55 h57
      rewrite [f_coverage_number_l1] at h57
      refine ti hk54 ?_
      refine t_seq fun K60 hK61 => ?_
      refine t_region ?_
      refine c_p (r_i rfl rfl rfl) rfl ?_
      refine t_nil ?_
      refine t_then hK61 ?_
      refine t_seq fun K62 hK63 => ?_
      rcases Bool.eq_false_or_eq_true (decide (x55 < (z0.Pairs.length : Int))) with hb64 | hb64
      · replace h57 := itT hb64 h57
        refine t_T rfl hb64 ?_
        refine t_skip ?_
        refine t_then hK63 ?_
        refine t_seq fun K65 hK66 => ?_
        refine t_block ?_
        refine t_seq fun K67 hK68 => ?_
        refine t_region ?_
        obtain ⟨el72, hel72, h57⟩ := bs h57
        refine t_q a0 hel72 fun q69 hq70 hm71 => ?_
        refine c_p (r_idx hq70 hm71 hel72 Tryd.underlying70 ti76 rfl rfl) rfl ?_
        refine t_op k_api_Pair_opens a0 hel72 fun t73 => ?_
        refine c_s (r_eA a0 hq70 Tryd.underlying76 rfl ti76 rfl rfl) rfl ?_
        refine nx (t_al (cs := [.string (⟨#[]⟩ : ByteArray), .int .i64 0, .int .i64 0, .string (⟨#[]⟩ : ByteArray)]) ti76 rfl rfl fun g74 => ?_)
        refine nx (t_st u0 ti76 rfl rfl rfl rfl rfl (.t (.s (.s (.s (.s .z))))) ?_)
        refine t_nil ?_
        refine t_then hK68 ?_
        refine t_seq fun K75 hK76 => ?_
        refine t_region ?_
        refine c_p (r_fa (off' := 0) Tryd.underlying76 rfl ti9 rfl rfl) rfl ?_
        refine c_s (r_ld a0 Tryd.underlying9 rfl rfl rfl) rfl ?_
        refine c_p (r_mv rfl) rfl ?_
        refine c_p (r_s rfl rfl rfl) rfl ?_
        refine t_nil ?_
        refine t_then hK76 ?_
        rcases Bool.eq_false_or_eq_true (el72.Name.toList == z1.toList) with hb77 | hb77
        · replace h57 := itT hb77 h57
          refine t_T rfl hb77 ?_
          refine t_seq fun K78 hK79 => ?_
          refine t_quiet mixed (by kernel_rfl) (panic_then (panic_block (panic_then (panic_then (panic_block (panic_then panic_body)))))) ?_
          refine k_p (r_fa (off' := 2) Tryd.underlying76 rfl ti3 rfl rfl) rfl ?_
          refine k_s (r_ld a0 Tryd.underlying3 rfl rfl rfl) rfl ?_
          refine k_p (r_fa (off' := 1) Tryd.underlying76 rfl ti3 rfl rfl) rfl ?_
          refine k_s (r_ld a0 Tryd.underlying3 rfl rfl rfl) rfl ?_
          refine k_p (r_i rfl rfl rfl) rfl ?_
          refine k_p (r_as rfl) rfl ?_
          refine k_p (r_as rfl) rfl ?_
          refine k_z ?_
          refine t_then hK79 ?_
          refine t_ret ?_
          exact br (tr (tr (br (tr (ret2 rfl (v_t rfl) (v_t rfl) (t_leave (hQ _ (Option.some.inj h57)) () rfl (fun w Z hA => V0) .nil))))))
        · replace h57 := itF hb77 h57
          refine t_F rfl hb77 ?_
          refine t_skip ?_
          refine t_blockN ?_
          refine t_then hK66 ?_
          refine t_region ?_
          refine c_p (r_i rfl rfl rfl) rfl ?_
          refine c_p (r_mv rfl) rfl ?_
          refine t_nil ?_
          exact t_norm (t_go (ih59 (IntKind.wrap .i64 (x55 + 1)) h57) ⟨rfl, rfl, rfl, rfl, trivial⟩ .nil (fun w Z hA => V1 a1 hA (V1 a2 hA (V1 a3 hA (V0)))))
      · replace h57 := itF hb64 h57
        refine t_F rfl hb64 ?_
        refine t_exit ?_
        refine te (te (bx ?_))
        refine t_then hK8 ?_
        refine t_seq fun K80 hK81 => ?_
        refine t_region ?_
        refine c_p (r_as rfl) rfl ?_
        refine c_p (r_as rfl) rfl ?_
        refine t_nil ?_
        refine t_then hK81 ?_
        refine t_ret ?_
        exact ret2 rfl (v_t rfl) (v_t rfl) (t_leave (hQ _ (Option.some.inj h57)) () rfl (fun w Z hA => V0) .nil)
  exact t_go (LP56 ((((z0.Pairs.length : Int) : Int) - (0)).toNat + 1) 0 h) ⟨rfl, rfl, rfl, rfl, trivial⟩ .nil (fun w Z hA => V1 a0 hA (V1 a1 hA (V1 a2 hA (V0))))
end
end Go.Proofs.YthmjklpmamfncaaDoor.Gx

/- Function 50, kaudit/coverage.loss: what it answers as a plain function, and that the Go code comes to exactly that (where the plain function gives an answer). -/
set_option linter.unusedVariables false
set_option linter.unusedSimpArgs false
namespace Go.Proofs.YthmjklpmamfncaaDoor.Gx
open Go.Gx Go.RowKit
noncomputable section
/-! ### kaudit/coverage.loss: function 50 -/
def f_coverage_loss (z0 : api_Event) : Option (api_Span × Bool) := if ((z0.Records.length : Int) != 1) = true then (some ((⟨0, 0, 0⟩ : api_Span), false)) else ((at_ z0.Records 0).bind fun el16 => if (el16.Type_ != 1331) = true then (some ((⟨0, 0, 0⟩ : api_Span), false)) else ((f_coverage_number el16 (⟨#[102, 105, 114, 115, 116]⟩ : ByteArray)).bind fun y31 => (f_coverage_number el16 (⟨#[108, 97, 115, 116]⟩ : ByteArray)).bind fun y39 => if y31.2 = true then (if y39.2 = true then (if (decide (y31.1 ≥ 1)) = true then (if (decide (y31.1 ≤ y39.1)) = true then (some ((⟨y31.1, y39.1, 0⟩ : api_Span), (decide (y39.1 < z0.Serial)))) else (some ((⟨y31.1, y39.1, 0⟩ : api_Span), false))) else (some ((⟨y31.1, y39.1, 0⟩ : api_Span), false))) else (some ((⟨y31.1, y39.1, 0⟩ : api_Span), false))) else (some ((⟨y31.1, y39.1, 0⟩ : api_Span), false))))
set_option maxHeartbeats 4000000 in
set_option maxRecDepth 100000 in
theorem C50 (z0 : api_Event) (p1 : Option Addr) (m2 : Nat) (c3 : Nat) (r : api_Span × Bool) (h : f_coverage_loss z0 = some r) : FunG Tryd.prog 50 #[.agg #[.int .i64 z0.Boot, .int .i64 z0.Serial, .int .i64 z0.Time, .slice p1 m2 c3, .bool z0.Complete]] [vw (kSlice 72 k_api_Record) z0.Records [.slice p1 m2 c3], g_pow10, g_kinds] [] (fun (_ : Unit) => .tuple #[.agg #[.int .i64 r.1.From, .int .i64 r.1.To, .int .i64 r.1.Kind], .bool r.2]) (fun _ => []) (fun _ => []) := by
  unfold f_coverage_loss at h
  refine t_begin (args := [.agg #[.int .i64 z0.Boot, .int .i64 z0.Serial, .int .i64 z0.Time, .slice p1 m2 c3, .bool z0.Complete]]) Tryd.func50 rfl Tryd.ntmps50 rfl fun c R hR => ?_
  have hQ : ∀ X, X = r → ∀ w2 (_ : Unit), PostG c.w0 w2 c.M c.Y [] [] → R (.returned (.tuple #[.agg #[.int .i64 X.1.From, .int .i64 X.1.To, .int .i64 X.1.Kind], .bool X.2])) w2 := fun X e => by subst e; exact hR
  refine t_seq fun K4 hK5 => ?_
  refine t_region ?_
  refine nx (t_bx (cs := [.int .i64 z0.Boot, .int .i64 z0.Serial, .int .i64 z0.Time, .slice p1 m2 c3, .bool z0.Complete]) rfl rfl rfl fun g6 => ?_)
  refine nx (t_al (cs := [.int .i64 0, .int .i64 0, .int .i64 0]) ti46 rfl rfl fun g7 => ?_)
  refine c_p (r_as rfl) rfl ?_
  refine t_nil ?_
  refine t_then hK5 ?_
  refine t_seq fun K8 hK9 => ?_
  refine t_seq fun K10 hK11 => ?_
  refine t_region ?_
  refine c_p (r_fa (off' := 3) Tryd.underlying58 rfl ti56 rfl rfl) rfl ?_
  refine c_s (r_ld a1 Tryd.underlying56 rfl rfl rfl) rfl ?_
  refine c_s (r_lnA a0 Tryd.underlying56 rfl) rfl ?_
  refine c_p (r_i rfl rfl rfl) rfl ?_
  refine c_p (r_mv rfl) rfl ?_
  rcases Bool.eq_false_or_eq_true ((z0.Records.length : Int) != 1) with hb12 | hb12
  · replace h := itT hb12 h
    refine nx (pass rfl rfl hb12 rfl ?_)
    refine nx (pass rfl rfl hb12 rfl ?_)
    refine nx (pass rfl rfl hb12 rfl ?_)
    refine nx (pass rfl rfl hb12 rfl ?_)
    refine nx (pass rfl rfl hb12 rfl ?_)
    refine nx (pass rfl rfl hb12 rfl ?_)
    refine c_p (r_pT rfl hb12 rfl) rfl ?_
    refine t_nil ?_
    refine t_then hK11 ?_
    refine t_T rfl rfl ?_
    refine t_seq fun K20 hK21 => ?_
    refine t_region ?_
    refine c_p (r_bu (ps := []) (cs := [.int .i64 0, .int .i64 0, .int .i64 0]) rfl (by kernel_rfl)) rfl ?_
    refine nx (t_st u0 ti46 rfl rfl rfl rfl rfl (.t (.s (.s (.s .z)))) ?_)
    refine c_p (r_as rfl) rfl ?_
    refine t_nil ?_
    refine t_then hK21 ?_
    refine t_ret ?_
    exact tr (ret2 rfl (v_N rfl a0 Tryd.underlying46 rfl ti46 rfl) (v_t rfl) (t_leave (hQ _ (Option.some.inj h)) () rfl (fun w Z hA => V0) .nil))
  · replace h := itF hb12 h
    refine nx (gd rfl rfl hb12 (sp (r_fa (off' := 3) Tryd.underlying58 rfl ti56 rfl rfl) rfl ?_))
    refine nx (gd rfl rfl hb12 (ss (r_ld a1 Tryd.underlying56 rfl rfl rfl) rfl ?_))
    obtain ⟨el16, hel16, h⟩ := bs h
    refine t_q a0 hel16 fun q13 hq14 hm15 => ?_
    refine nx (gd rfl rfl hb12 (sp (r_idx hq14 hm15 hel16 Tryd.underlying56 ti72 rfl rfl) rfl ?_))
    refine t_qf hq14 0 fun q17 hq18 => ?_
    refine nx (gd rfl rfl hb12 (sp (r_fai hq14 hq18 Tryd.underlying72 rfl ti3 rfl rfl) rfl ?_))
    refine t_op k_api_Record_opens a0 hel16 fun t19 => ?_
    refine nx (gd rfl rfl hb12 (ss (r_e1 a1 hq18 Tryd.underlying3 rfl rfl rfl) rfl ?_))
    refine nx (gd rfl rfl hb12 (sp (r_i rfl rfl rfl) rfl ?_))
    refine c_p (r_pF rfl hb12 rfl) rfl ?_
    refine t_nil ?_
    refine t_then hK11 ?_
    rcases Bool.eq_false_or_eq_true (el16.Type_ != 1331) with hb22 | hb22
    · replace h := itT hb22 h
      refine t_T rfl hb22 ?_
      refine t_seq fun K23 hK24 => ?_
      refine t_region ?_
      refine c_p (r_bu (ps := []) (cs := [.int .i64 0, .int .i64 0, .int .i64 0]) rfl (by kernel_rfl)) rfl ?_
      refine nx (t_st u0 ti46 rfl rfl rfl rfl rfl (.t (.s (.s (.s .z)))) ?_)
      refine c_p (r_as rfl) rfl ?_
      refine t_nil ?_
      refine t_then hK24 ?_
      refine t_ret ?_
      exact tr (ret2 rfl (v_N rfl a0 Tryd.underlying46 rfl ti46 rfl) (v_t rfl) (t_leave (hQ _ (Option.some.inj h)) () rfl (fun w Z hA => V0) .nil))
    · replace h := itF hb22 h
      refine t_F rfl hb22 ?_
      refine t_skip ?_
      refine t_then hK9 ?_
      refine t_seq fun K25 hK26 => ?_
      refine t_region ?_
      refine c_p (r_fa (off' := 3) Tryd.underlying58 rfl ti56 rfl rfl) rfl ?_
      refine c_s (r_ld a1 Tryd.underlying56 rfl rfl rfl) rfl ?_
      refine t_q a2 hel16 fun q27 hq28 hm29 => ?_
      refine c_p (r_idx hq28 hm29 hel16 Tryd.underlying56 ti72 rfl rfl) rfl ?_
      refine t_op k_api_Record_opens a2 hel16 fun t30 => ?_
      refine c_s (r_eA a1 hq28 Tryd.underlying72 rfl ti72 rfl rfl) rfl ?_
      obtain ⟨y31, hy31, h⟩ := bs h
      refine nx (t_ca (C65 _ _ _ _ _ _ hy31) Tryd.func65 nm65 rfl rfl rfl .nil (fun w Z hA => (V1 a0 hA (V1 a5 hA (V1 a6 hA V0)))) rfl fun t32 => ?_)
      refine c_p (r_mv rfl) rfl ?_
      refine c_p (r_ex rfl rfl) rfl ?_
      refine c_p (r_ex rfl rfl) rfl ?_
      refine c_p (r_as rfl) rfl ?_
      refine c_p (r_as rfl) rfl ?_
      refine t_nil ?_
      refine t_then hK26 ?_
      refine t_seq fun K33 hK34 => ?_
      refine t_region ?_
      refine c_p (r_fa (off' := 3) Tryd.underlying58 rfl ti56 rfl rfl) rfl ?_
      refine c_s (r_ld a1 Tryd.underlying56 rfl rfl rfl) rfl ?_
      refine t_q a4 hel16 fun q35 hq36 hm37 => ?_
      refine c_p (r_idx hq36 hm37 hel16 Tryd.underlying56 ti72 rfl rfl) rfl ?_
      refine t_op k_api_Record_opens a4 hel16 fun t38 => ?_
      refine c_s (r_eA a1 hq36 Tryd.underlying72 rfl ti72 rfl rfl) rfl ?_
      obtain ⟨y39, hy39, h⟩ := bs h
      refine nx (t_ca (C65 _ _ _ _ _ _ hy39) Tryd.func65 nm65 rfl rfl rfl .nil (fun w Z hA => (V1 a0 hA (V1 a7 hA (V1 a8 hA V0)))) rfl fun t40 => ?_)
      refine c_p (r_mv rfl) rfl ?_
      refine c_p (r_ex rfl rfl) rfl ?_
      refine c_p (r_ex rfl rfl) rfl ?_
      refine c_p (r_as rfl) rfl ?_
      refine c_p (r_as rfl) rfl ?_
      refine t_nil ?_
      refine t_then hK34 ?_
      refine t_seq fun K41 hK42 => ?_
      refine t_draw mixed (fun w_ => Bk g6 [.int .i64 z0.Boot, .int .i64 z0.Serial, .int .i64 z0.Time, .slice p1 m2 c3, .bool z0.Complete] w_ ∧ True) [19] [22] rfl ?_
      refine q_p 0 (panic_then panic_body) rfl (by kernel_rfl) W0 (r_mv rfl) rfl ?_
      refine q_p 1 (panic_then panic_body) rfl (by kernel_rfl) W0 (r_mv rfl) rfl ?_
      refine q_p 2 (panic_then panic_body) rfl (by kernel_rfl) W0 (r_bu (ps := [(0, .int .i64 y31.1), (1, .int .i64 y39.1)]) (cs := [.int .i64 y31.1, .int .i64 y39.1, .int .i64 0]) rfl (by kernel_rfl)) rfl ?_
      refine q_p 3 (panic_then panic_body) rfl (by kernel_rfl) W0 (r_mv rfl) rfl ?_
      refine q_p 4 (panic_then panic_body) rfl (by kernel_rfl) W0 (r_mv rfl) rfl ?_
      rcases Bool.eq_false_or_eq_true y31.2 with hb45 | hb45
      · replace h := itT hb45 h
        refine q_p 5 (panic_then panic_body) rfl (by kernel_rfl) (WG rfl rfl hb45) (r_mv rfl) rfl ?_
        refine q_p 6 (panic_then panic_body) rfl (by kernel_rfl) W0 (r_pT rfl hb45 rfl) rfl ?_
        refine q_p 7 (panic_then panic_body) rfl (by kernel_rfl) W0 (r_mv rfl) rfl ?_
        rcases Bool.eq_false_or_eq_true y39.2 with hb46 | hb46
        · replace h := itT hb46 h
          refine q_p 8 (panic_then panic_body) rfl (by kernel_rfl) (WG rfl rfl hb46) (r_mv rfl) rfl ?_
          refine q_p 9 (panic_then panic_body) rfl (by kernel_rfl) (WG rfl rfl hb46) (r_i rfl rfl rfl) rfl ?_
          refine q_p 10 (panic_then panic_body) rfl (by kernel_rfl) W0 (r_pT rfl hb46 rfl) rfl ?_
          refine q_p 11 (panic_then panic_body) rfl (by kernel_rfl) W0 (r_mv rfl) rfl ?_
          rcases Bool.eq_false_or_eq_true (decide (y31.1 ≥ 1)) with hb47 | hb47
          · replace h := itT hb47 h
            refine q_p 12 (panic_then panic_body) rfl (by kernel_rfl) (WG rfl rfl hb47) (r_mv rfl) rfl ?_
            refine q_p 13 (panic_then panic_body) rfl (by kernel_rfl) (WG rfl rfl hb47) (r_mv rfl) rfl ?_
            refine q_p 14 (panic_then panic_body) rfl (by kernel_rfl) (WG rfl rfl hb47) (r_i rfl rfl rfl) rfl ?_
            refine q_p 15 (panic_then panic_body) rfl (by kernel_rfl) W0 (r_pT rfl hb47 rfl) rfl ?_
            refine q_p 16 (panic_then panic_body) rfl (by kernel_rfl) W0 (r_mv rfl) rfl ?_
            rcases Bool.eq_false_or_eq_true (decide (y31.1 ≤ y39.1)) with hb48 | hb48
            · replace h := itT hb48 h
              refine q_p 17 (panic_then panic_body) rfl (by kernel_rfl) (WG rfl rfl hb48) (r_mv rfl) rfl ?_
              refine q_p 18 (panic_then panic_body) rfl (by kernel_rfl) (WG rfl rfl hb48) (r_fa (off' := 1) Tryd.underlying58 rfl ti3 rfl rfl) rfl ?_
              refine q_s 19 (panic_then panic_body) rfl (by kernel_rfl) (WG rfl rfl hb48) (by kernel_rfl) (fun w H => ⟨bk a1 H, trivial⟩) (b_ld (fun _ h => h.1) Tryd.underlying3 rfl rfl rfl) rfl ?_
              refine q_p 20 (panic_then panic_body) rfl (by kernel_rfl) (WG rfl rfl hb48) (r_i rfl rfl rfl) rfl ?_
              refine q_p 21 (panic_then panic_body) rfl (by kernel_rfl) W0 (r_pT rfl hb48 rfl) rfl ?_
              refine d1 22 rfl (by kernel_rfl) (by kernel_rfl) ?_
              refine t_st u0 ti46 rfl rfl rfl rfl rfl (.t (.s (.s (.s .z)))) ?_
              refine dk (fun w H => ⟨bk a1 H, trivial⟩) ?_
              refine q_p 23 (panic_then panic_body) rfl (by kernel_rfl) W0 (r_as rfl) rfl ?_
              refine dz (by kernel_rfl) ?_
              refine t_then hK42 ?_
              refine t_ret ?_
              exact ret2 rfl (v_N rfl a0 Tryd.underlying46 rfl ti46 rfl) (v_t rfl) (t_leave (hQ _ (Option.some.inj h)) () rfl (fun w Z hA => V0) .nil)
            · replace h := itF hb48 h
              refine q_x 17 (panic_then panic_body) rfl (by kernel_rfl) rfl rfl hb48 rfl ?_
              refine q_x 18 (panic_then panic_body) rfl (by kernel_rfl) rfl rfl hb48 rfl ?_
              refine q_x 19 (panic_then panic_body) rfl (by kernel_rfl) rfl rfl hb48 rfl ?_
              refine q_x 20 (panic_then panic_body) rfl (by kernel_rfl) rfl rfl hb48 rfl ?_
              refine q_p 21 (panic_then panic_body) rfl (by kernel_rfl) W0 (r_pF rfl hb48 rfl) rfl ?_
              refine d1 22 rfl (by kernel_rfl) (by kernel_rfl) ?_
              refine t_st u0 ti46 rfl rfl rfl rfl rfl (.t (.s (.s (.s .z)))) ?_
              refine dk (fun w H => ⟨bk a1 H, trivial⟩) ?_
              refine q_p 23 (panic_then panic_body) rfl (by kernel_rfl) W0 (r_as rfl) rfl ?_
              refine dz (by kernel_rfl) ?_
              refine t_then hK42 ?_
              refine t_ret ?_
              exact ret2 rfl (v_N rfl a0 Tryd.underlying46 rfl ti46 rfl) (v_t rfl) (t_leave (hQ _ (Option.some.inj h)) () rfl (fun w Z hA => V0) .nil)
          · replace h := itF hb47 h
            refine q_x 12 (panic_then panic_body) rfl (by kernel_rfl) rfl rfl hb47 rfl ?_
            refine q_x 13 (panic_then panic_body) rfl (by kernel_rfl) rfl rfl hb47 rfl ?_
            refine q_x 14 (panic_then panic_body) rfl (by kernel_rfl) rfl rfl hb47 rfl ?_
            refine q_p 15 (panic_then panic_body) rfl (by kernel_rfl) W0 (r_pF rfl hb47 rfl) rfl ?_
            refine q_p 16 (panic_then panic_body) rfl (by kernel_rfl) W0 (r_mv rfl) rfl ?_
            refine q_x 17 (panic_then panic_body) rfl (by kernel_rfl) rfl rfl rfl rfl ?_
            refine q_x 18 (panic_then panic_body) rfl (by kernel_rfl) rfl rfl rfl rfl ?_
            refine q_x 19 (panic_then panic_body) rfl (by kernel_rfl) rfl rfl rfl rfl ?_
            refine q_x 20 (panic_then panic_body) rfl (by kernel_rfl) rfl rfl rfl rfl ?_
            refine q_p 21 (panic_then panic_body) rfl (by kernel_rfl) W0 (r_pF rfl rfl rfl) rfl ?_
            refine d1 22 rfl (by kernel_rfl) (by kernel_rfl) ?_
            refine t_st u0 ti46 rfl rfl rfl rfl rfl (.t (.s (.s (.s .z)))) ?_
            refine dk (fun w H => ⟨bk a1 H, trivial⟩) ?_
            refine q_p 23 (panic_then panic_body) rfl (by kernel_rfl) W0 (r_as rfl) rfl ?_
            refine dz (by kernel_rfl) ?_
            refine t_then hK42 ?_
            refine t_ret ?_
            exact ret2 rfl (v_N rfl a0 Tryd.underlying46 rfl ti46 rfl) (v_t rfl) (t_leave (hQ _ (Option.some.inj h)) () rfl (fun w Z hA => V0) .nil)
        · replace h := itF hb46 h
          refine q_x 8 (panic_then panic_body) rfl (by kernel_rfl) rfl rfl hb46 rfl ?_
          refine q_x 9 (panic_then panic_body) rfl (by kernel_rfl) rfl rfl hb46 rfl ?_
          refine q_p 10 (panic_then panic_body) rfl (by kernel_rfl) W0 (r_pF rfl hb46 rfl) rfl ?_
          refine q_p 11 (panic_then panic_body) rfl (by kernel_rfl) W0 (r_mv rfl) rfl ?_
          refine q_x 12 (panic_then panic_body) rfl (by kernel_rfl) rfl rfl rfl rfl ?_
          refine q_x 13 (panic_then panic_body) rfl (by kernel_rfl) rfl rfl rfl rfl ?_
          refine q_x 14 (panic_then panic_body) rfl (by kernel_rfl) rfl rfl rfl rfl ?_
          refine q_p 15 (panic_then panic_body) rfl (by kernel_rfl) W0 (r_pF rfl rfl rfl) rfl ?_
          refine q_p 16 (panic_then panic_body) rfl (by kernel_rfl) W0 (r_mv rfl) rfl ?_
          refine q_x 17 (panic_then panic_body) rfl (by kernel_rfl) rfl rfl rfl rfl ?_
          refine q_x 18 (panic_then panic_body) rfl (by kernel_rfl) rfl rfl rfl rfl ?_
          refine q_x 19 (panic_then panic_body) rfl (by kernel_rfl) rfl rfl rfl rfl ?_
          refine q_x 20 (panic_then panic_body) rfl (by kernel_rfl) rfl rfl rfl rfl ?_
          refine q_p 21 (panic_then panic_body) rfl (by kernel_rfl) W0 (r_pF rfl rfl rfl) rfl ?_
          refine d1 22 rfl (by kernel_rfl) (by kernel_rfl) ?_
          refine t_st u0 ti46 rfl rfl rfl rfl rfl (.t (.s (.s (.s .z)))) ?_
          refine dk (fun w H => ⟨bk a1 H, trivial⟩) ?_
          refine q_p 23 (panic_then panic_body) rfl (by kernel_rfl) W0 (r_as rfl) rfl ?_
          refine dz (by kernel_rfl) ?_
          refine t_then hK42 ?_
          refine t_ret ?_
          exact ret2 rfl (v_N rfl a0 Tryd.underlying46 rfl ti46 rfl) (v_t rfl) (t_leave (hQ _ (Option.some.inj h)) () rfl (fun w Z hA => V0) .nil)
      · replace h := itF hb45 h
        refine q_x 5 (panic_then panic_body) rfl (by kernel_rfl) rfl rfl hb45 rfl ?_
        refine q_p 6 (panic_then panic_body) rfl (by kernel_rfl) W0 (r_pF rfl hb45 rfl) rfl ?_
        refine q_p 7 (panic_then panic_body) rfl (by kernel_rfl) W0 (r_mv rfl) rfl ?_
        refine q_x 8 (panic_then panic_body) rfl (by kernel_rfl) rfl rfl rfl rfl ?_
        refine q_x 9 (panic_then panic_body) rfl (by kernel_rfl) rfl rfl rfl rfl ?_
        refine q_p 10 (panic_then panic_body) rfl (by kernel_rfl) W0 (r_pF rfl rfl rfl) rfl ?_
        refine q_p 11 (panic_then panic_body) rfl (by kernel_rfl) W0 (r_mv rfl) rfl ?_
        refine q_x 12 (panic_then panic_body) rfl (by kernel_rfl) rfl rfl rfl rfl ?_
        refine q_x 13 (panic_then panic_body) rfl (by kernel_rfl) rfl rfl rfl rfl ?_
        refine q_x 14 (panic_then panic_body) rfl (by kernel_rfl) rfl rfl rfl rfl ?_
        refine q_p 15 (panic_then panic_body) rfl (by kernel_rfl) W0 (r_pF rfl rfl rfl) rfl ?_
        refine q_p 16 (panic_then panic_body) rfl (by kernel_rfl) W0 (r_mv rfl) rfl ?_
        refine q_x 17 (panic_then panic_body) rfl (by kernel_rfl) rfl rfl rfl rfl ?_
        refine q_x 18 (panic_then panic_body) rfl (by kernel_rfl) rfl rfl rfl rfl ?_
        refine q_x 19 (panic_then panic_body) rfl (by kernel_rfl) rfl rfl rfl rfl ?_
        refine q_x 20 (panic_then panic_body) rfl (by kernel_rfl) rfl rfl rfl rfl ?_
        refine q_p 21 (panic_then panic_body) rfl (by kernel_rfl) W0 (r_pF rfl rfl rfl) rfl ?_
        refine d1 22 rfl (by kernel_rfl) (by kernel_rfl) ?_
        refine t_st u0 ti46 rfl rfl rfl rfl rfl (.t (.s (.s (.s .z)))) ?_
        refine dk (fun w H => ⟨bk a1 H, trivial⟩) ?_
        refine q_p 23 (panic_then panic_body) rfl (by kernel_rfl) W0 (r_as rfl) rfl ?_
        refine dz (by kernel_rfl) ?_
        refine t_then hK42 ?_
        refine t_ret ?_
        exact ret2 rfl (v_N rfl a0 Tryd.underlying46 rfl ti46 rfl) (v_t rfl) (t_leave (hQ _ (Option.some.inj h)) () rfl (fun w Z hA => V0) .nil)
end
end Go.Proofs.YthmjklpmamfncaaDoor.Gx
