/- K6: the texts Y3, PSpanL, RSpans, joined. -/
import Derived.WideShapes4
import Derived.Deep.Slices
import Derived.Deep.Strs
import Derived.Test.YthmjklpmamfncaaDoorK2
import Derived.Test.YthmjklpmamfncaaDoorK3
import Derived.Test.YthmjklpmamfncaaDoorK4
import Derived.Test.YthmjklpmamfncaaDoorK5
/- Function 3, kaudit/kauditlaw40.CoverageSpans: what it answers as a plain function, and that the Go code comes to exactly that (where the plain function gives an answer). -/
set_option linter.unusedVariables false
set_option linter.unusedSimpArgs false
namespace Go.Proofs.YthmjklpmamfncaaDoor.Gx
open Go.Gx Go.RowKit
noncomputable section
/-! ### kaudit/kauditlaw40.CoverageSpans: function 3 -/
def f_kauditlaw40_CoverageSpans_j4 (y49 : (List api_Span) × Int) : Option (Bool) := (f_coverage_Proper y49.1).bind fun y712 => if y712 = true then ((f_kauditlaw40_begun).bind fun y715 => some y715) else (some false)
def f_kauditlaw40_CoverageSpans_l3 (z5 : Int) (z6 : Int) (x492 : Int) (el509 : St28) (y611 : Int × Int) (y613 : Int × Int) (rec_f_kauditlaw40_CoverageSpans_l1 : Int → Int → Option (Bool)) : Nat → Int → Option (Bool)
  | 0, _ => none
  | k678 + 1, x675 => if (decide (x675 < 3)) = true then ((at_ [(⟨z5, z6⟩ : St35), (⟨y611.1, y613.1⟩ : St35), (⟨1, z6⟩ : St35)] x675).bind fun el692 => (f_coverage_Within el509.c0 el692.c0 el692.c1).bind fun y699 => (f_kauditref40_Within el509.c0 el692.c0 el692.c1).bind fun y701 => (f_kauditref40_Same y699 y701).bind fun y703 => if y703 = true then (f_kauditlaw40_CoverageSpans_l3 z5 z6 x492 el509 y611 y613 rec_f_kauditlaw40_CoverageSpans_l1 k678 (IntKind.wrap .i64 (x675 + 1))) else (some false)) else (rec_f_kauditlaw40_CoverageSpans_l1 y613.2 (IntKind.wrap .i64 (x492 + 1)))
def f_kauditlaw40_CoverageSpans_j3 (z5 : Int) (z6 : Int) (x44 : List Int) (x491 : Int) (x492 : Int) (el509 : St28) (rec_f_kauditlaw40_CoverageSpans_l1 : Int → Int → Option (Bool)) : Option (Bool) := (f_kauditmill_Case_Int (⟨x44, x491⟩ : kauditmill_Case) 20).bind fun y611 => (f_kauditmill_Case_Int (⟨x44, y611.2⟩ : kauditmill_Case) 40).bind fun y613 => f_kauditlaw40_CoverageSpans_l3 z5 z6 x492 el509 y611 y613 rec_f_kauditlaw40_CoverageSpans_l1 (((3 : Int) - (0)).toNat + 1) 0
def f_kauditlaw40_CoverageSpans_l2 (z5 : Int) (z6 : Int) (x44 : List Int) (x491 : Int) (x492 : Int) (el509 : St28) (rec_f_kauditlaw40_CoverageSpans_l1 : Int → Int → Option (Bool)) : Nat → Int → Option (Bool)
  | 0, _ => none
  | k587 + 1, x584 => if (decide (x584 < 6)) = true then ((f_coverage_Count el509.c0 x584).bind fun y600 => (f_kauditref40_Count el509.c0 x584).bind fun y602 => if (y600 != y602) = true then (some false) else (f_kauditlaw40_CoverageSpans_l2 z5 z6 x44 x491 x492 el509 rec_f_kauditlaw40_CoverageSpans_l1 k587 (IntKind.wrap .i64 (x584 + 1)))) else (f_kauditlaw40_CoverageSpans_j3 z5 z6 x44 x491 x492 el509 rec_f_kauditlaw40_CoverageSpans_l1)
def f_kauditlaw40_CoverageSpans_l1 (z1 : (List api_Span)) (z2 : (List api_Span)) (z3 : ByteArray) (z4 : Int) (z5 : Int) (z6 : Int) (x44 : List Int) (y49 : (List api_Span) × Int) (y51 : (List api_Span) × Int) (y55 : (List api_Span) × Int) : Nat → Int → Int → Option (Bool)
  | 0, _, _ => none
  | k495 + 1, x491, x492 => if (decide (x492 < 6)) = true then ((at_ [(⟨y49.1, y51.1⟩ : St28), (⟨y49.1, y55.1⟩ : St28), (⟨y55.1, y51.1⟩ : St28), (⟨z1, z2⟩ : St28), (⟨z1, y49.1⟩ : St28), (⟨y51.1, z1⟩ : St28)] x492).bind fun el509 => (f_coverage_Proper el509.c0).bind fun y518 => (f_kauditref40_Proper el509.c0).bind fun y520 => if (y518 != y520) = true then (some false) else ((f_coverage_Merge el509.c0 el509.c1).bind fun y523 => (f_kauditref40_Merge el509.c0 el509.c1).bind fun y525 => (f_kauditref40_Same y523 y525).bind fun y527 => if y527 = true then ((f_coverage_Format z3 z4 el509.c0).bind fun y530 => (f_kauditref40_Format z3 z4 el509.c0).bind fun y532 => if (y530.toList == y532.toList) = true then (f_kauditlaw40_CoverageSpans_l2 z5 z6 x44 x491 x492 el509 (f_kauditlaw40_CoverageSpans_l1 z1 z2 z3 z4 z5 z6 x44 y49 y51 y55 k495) (((6 : Int) - ((-1))).toNat + 1) (-1)) else (some false)) else (some false))) else (f_kauditlaw40_CoverageSpans_j4 y49)
def f_kauditlaw40_CoverageSpans_j2 (z1 : (List api_Span)) (z2 : (List api_Span)) (z3 : ByteArray) (z4 : Int) (z5 : Int) (z6 : Int) (x44 : List Int) : Option (Bool) := (f_kauditlaw40_spans (⟨x44, 0⟩ : kauditmill_Case)).bind fun y49 => (f_kauditlaw40_spans (⟨x44, y49.2⟩ : kauditmill_Case)).bind fun y51 => (f_kauditlaw40_spoilt (⟨x44, y51.2⟩ : kauditmill_Case) y49.1).bind fun y55 => f_kauditlaw40_CoverageSpans_l1 z1 z2 z3 z4 z5 z6 x44 y49 y51 y55 (((6 : Int) - (0)).toNat + 1) y55.2 0
def f_kauditlaw40_CoverageSpans_j1 (z1 : (List api_Span)) (z2 : (List api_Span)) (z3 : ByteArray) (z4 : Int) (z5 : Int) (z6 : Int) (x37 : List Int) : Option (Bool) := f_kauditlaw40_CoverageSpans_j2 z1 z2 z3 z4 z5 z6 x37
def f_kauditlaw40_CoverageSpans (z0 : (List Int)) (z1 : (List api_Span)) (z2 : (List api_Span)) (z3 : ByteArray) (z4 : Int) (z5 : Int) (z6 : Int) : Option (Bool) := if (decide ((z0.length : Int) > 200)) = true then (ck (cutOk z0 0 200) <| f_kauditlaw40_CoverageSpans_j1 z1 z2 z3 z4 z5 z6 (cut z0 0 200)) else (f_kauditlaw40_CoverageSpans_j1 z1 z2 z3 z4 z5 z6 z0)
set_option maxHeartbeats 4000000 in
set_option maxRecDepth 100000 in
theorem C3 (z0 : (List Int)) (z1 : (List api_Span)) (z2 : (List api_Span)) (z3 : ByteArray) (z4 : Int) (z5 : Int) (z6 : Int) (p1 : Option Addr) (m2 : Nat) (c3 : Nat) (p4 : Option Addr) (m5 : Nat) (c6 : Nat) (p7 : Option Addr) (m8 : Nat) (c9 : Nat) (r : Bool) (h : f_kauditlaw40_CoverageSpans z0 z1 z2 z3 z4 z5 z6 = some r) : FunG Tryd.prog 3 #[.slice p1 m2 c3, .slice p4 m5 c6, .slice p7 m8 c9, .string z3, .int .i64 z4, .int .i64 z5, .int .i64 z6] [vw (kSlice 5 (kInt .u8)) z0 [.slice p1 m2 c3], vw (kSlice 46 k_api_Span) z1 [.slice p4 m5 c6], vw (kSlice 46 k_api_Span) z2 [.slice p7 m8 c9], g_pow10, g_kinds] [] (fun (_ : Unit) => .bool r) (fun _ => []) (fun _ => []) := by
  unfold f_kauditlaw40_CoverageSpans at h
  refine t_begin (args := [.slice p1 m2 c3, .slice p4 m5 c6, .slice p7 m8 c9, .string z3, .int .i64 z4, .int .i64 z5, .int .i64 z6]) Tryd.func3 rfl Tryd.ntmps3 rfl fun c R hR => ?_
  have hQ : ∀ X, X = r → ∀ w2 (_ : Unit), PostG c.w0 w2 c.M c.Y [] [] → R (.returned (.bool X)) w2 := fun X e => by subst e; exact hR
  refine t_seq fun K10 hK11 => ?_
  refine t_region ?_
  refine c_p (r_as rfl) rfl ?_
  refine t_nil ?_
  refine t_then hK11 ?_
  refine t_seq fun K12 hK13 => ?_
  have J45 : ∀ (g40 : Nat) (p41 : Option Addr) (m42 : Nat) (c43 : Nat) (x44 : List Int), f_kauditlaw40_CoverageSpans_j2 z1 z2 z3 z4 z5 z6 x44 = some r → T 143 c [vw (kSlice 46 k_api_Span) z1 [.slice p4 m5 c6], vw (kSlice 46 k_api_Span) z2 [.slice p7 m8 c9], vw (kSlice 5 (kInt .u8)) x44 [.slice p41 m42 c43], g_pow10, g_kinds] [[blk g40 [.slice p41 m42 c43, .int .i64 0] 43]] [(1, .slice p4 m5 c6), (2, .slice p7 m8 c9), (3, .string z3), (4, .int .i64 z4), (5, .int .i64 z5), (6, .int .i64 z6), (15, .pointer (some ⟨g40, 0, none⟩))] K12 := by
    intro g40 p41 m42 c43 x44 h46
    unfold f_kauditlaw40_CoverageSpans_j2 at h46
    refine ti hK13 ?_
    refine t_seq fun K47 hK48 => ?_
    refine t_region ?_
    refine c_p (r_mv rfl) rfl ?_
    obtain ⟨y49, hy49, h46⟩ := bs h46
    refine nx (t_ca (C6 _ _ _ _ _ _ hy49) Tryd.func6 nm6 rfl rfl rfl (.cons e0 .nil) (fun w Z hA => (V1 a2 hA (V1 a3 hA (V1 a4 hA V0)))) rfl fun t50 => ?_)
    refine c_p (r_mv rfl) rfl ?_
    obtain ⟨y51, hy51, h46⟩ := bs h46
    refine nx (t_ca (C6 _ _ _ _ _ _ hy51) Tryd.func6 nm6 rfl rfl rfl (.cons e0 .nil) (fun w Z hA => (V1 a2 hA (V1 a3 hA (V1 a4 hA V0)))) rfl fun t52 => ?_)
    refine c_p (r_as rfl) rfl ?_
    refine c_p (r_as rfl) rfl ?_
    refine t_nil ?_
    refine t_then hK48 ?_
    refine t_seq fun K53 hK54 => ?_
    refine t_region ?_
    refine c_p (r_mv rfl) rfl ?_
    refine c_p (r_mv rfl) rfl ?_
    obtain ⟨y55, hy55, h46⟩ := bs h46
    refine nx (t_cf (C7 _ _ _ _ _ _ _ _ _ _ hy55) (fun _ => (flat_blk (flat_cons (indK_slice 46 k_api_Span_indK) flat_nil))) Tryd.func7 nm7 rfl rfl rfl (.cons e0 .nil) (fun w Z S hA hL => (F1 a2 hA (FL a1 hL (F1 a3 hA (F1 a4 hA F0))))) rfl fun t56 => ?_)
    refine c_p (r_as rfl) rfl ?_
    refine t_nil ?_
    refine t_then hK54 ?_
    refine t_seq fun K57 hK58 => ?_
    have J708 : f_kauditlaw40_CoverageSpans_j4 y49 = some r → T 143 c [vw (kSlice 46 k_api_Span) y49.1 [.slice t50.1 t50.2.1 t50.2.2], g_pow10, g_kinds] [] [(16, .slice t50.1 t50.2.1 t50.2.2)] K57 := by
      intro h709
      unfold f_kauditlaw40_CoverageSpans_j4 at h709
      refine ti hK58 ?_
      refine t_seq fun K710 hK711 => ?_
      refine t_region ?_
      refine c_p (r_mv rfl) rfl ?_
      obtain ⟨y712, hy712, h709⟩ := bs h709
      refine nx (t_ca (C8 _ _ _ _ _ hy712) Tryd.func8 nm8 rfl rfl rfl .nil (fun w Z hA => (V1 a0 hA (V1 a1 hA (V1 a2 hA V0)))) rfl fun t713 => ?_)
      refine c_p (r_mv rfl) rfl ?_
      rcases Bool.eq_false_or_eq_true y712 with hb714 | hb714
      · replace h709 := itT hb714 h709
        obtain ⟨y715, hy715, h709⟩ := bs h709
        refine nx (gd rfl rfl hb714 (t_ca (C20 _ hy715) Tryd.func20 nm20 rfl rfl rfl .nil (fun w Z hA => (V1 a1 hA (V1 a2 hA V0))) rfl fun t716 => ?_))
        refine c_p (r_pT rfl hb714 rfl) rfl ?_
        refine c_p (r_as rfl) rfl ?_
        refine t_nil ?_
        refine t_then hK711 ?_
        refine t_ret ?_
        exact ret1 rfl (v_t rfl) (t_leave (hQ _ (Option.some.inj h709)) () rfl (fun w Z hA => V0) .nil)
      · replace h709 := itF hb714 h709
        refine nx (pass rfl rfl hb714 rfl ?_)
        refine c_p (r_pF rfl hb714 rfl) rfl ?_
        refine c_p (r_as rfl) rfl ?_
        refine t_nil ?_
        refine t_then hK711 ?_
        refine t_ret ?_
        exact ret1 rfl (v_t rfl) (t_leave (hQ _ (Option.some.inj h709)) () rfl (fun w Z hA => V0) .nil)
    refine t_seq fun K59 hK60 => ?_
    refine t_region ?_
    refine c_p (r_mv rfl) rfl ?_
    refine c_p (r_mv rfl) rfl ?_
    refine c_p (r_bu (ps := [(0, .slice t50.1 t50.2.1 t50.2.2), (1, .slice t52.1 t52.2.1 t52.2.2)]) (cs := [.slice t50.1 t50.2.1 t50.2.2, .slice t52.1 t52.2.1 t52.2.2]) rfl (by kernel_rfl)) rfl ?_
    refine c_p (r_mv rfl) rfl ?_
    refine c_p (r_mv rfl) rfl ?_
    refine c_p (r_bu (ps := [(0, .slice t50.1 t50.2.1 t50.2.2), (1, .slice t56.1 t56.2.1 t56.2.2)]) (cs := [.slice t50.1 t50.2.1 t50.2.2, .slice t56.1 t56.2.1 t56.2.2]) rfl (by kernel_rfl)) rfl ?_
    refine c_p (r_mv rfl) rfl ?_
    refine c_p (r_mv rfl) rfl ?_
    refine c_p (r_bu (ps := [(0, .slice t56.1 t56.2.1 t56.2.2), (1, .slice t52.1 t52.2.1 t52.2.2)]) (cs := [.slice t56.1 t56.2.1 t56.2.2, .slice t52.1 t52.2.1 t52.2.2]) rfl (by kernel_rfl)) rfl ?_
    refine c_p (r_mv rfl) rfl ?_
    refine c_p (r_mv rfl) rfl ?_
    refine c_p (r_bu (ps := [(0, .slice p4 m5 c6), (1, .slice p7 m8 c9)]) (cs := [.slice p4 m5 c6, .slice p7 m8 c9]) rfl (by kernel_rfl)) rfl ?_
    refine c_p (r_mv rfl) rfl ?_
    refine c_p (r_mv rfl) rfl ?_
    refine c_p (r_bu (ps := [(0, .slice p4 m5 c6), (1, .slice t50.1 t50.2.1 t50.2.2)]) (cs := [.slice p4 m5 c6, .slice t50.1 t50.2.1 t50.2.2]) rfl (by kernel_rfl)) rfl ?_
    refine c_p (r_mv rfl) rfl ?_
    refine c_p (r_mv rfl) rfl ?_
    refine c_p (r_bu (ps := [(0, .slice t52.1 t52.2.1 t52.2.2), (1, .slice p4 m5 c6)]) (cs := [.slice t52.1 t52.2.1 t52.2.2, .slice p4 m5 c6]) rfl (by kernel_rfl)) rfl ?_
    refine nx (t_bs (ps := [(0, .agg #[.slice t50.1 t50.2.1 t50.2.2, .slice t52.1 t52.2.1 t52.2.2]), (1, .agg #[.slice t50.1 t50.2.1 t50.2.2, .slice t56.1 t56.2.1 t56.2.2]), (2, .agg #[.slice t56.1 t56.2.1 t56.2.2, .slice t52.1 t52.2.1 t52.2.2]), (3, .agg #[.slice p4 m5 c6, .slice p7 m8 c9]), (4, .agg #[.slice p4 m5 c6, .slice t50.1 t50.2.1 t50.2.2]), (5, .agg #[.slice t52.1 t52.2.1 t52.2.2, .slice p4 m5 c6])]) (cs := [.slice t50.1 t50.2.1 t50.2.2, .slice t52.1 t52.2.1 t52.2.2, .slice t50.1 t50.2.1 t50.2.2, .slice t56.1 t56.2.1 t56.2.2, .slice t56.1 t56.2.1 t56.2.2, .slice t52.1 t52.2.1 t52.2.2, .slice p4 m5 c6, .slice p7 m8 c9, .slice p4 m5 c6, .slice t50.1 t50.2.1 t50.2.2, .slice t52.1 t52.2.1 t52.2.2, .slice p4 m5 c6]) Tryd.underlying29 ti28 rfl rfl (by kernel_rfl) rfl fun g61 => ?_)
    refine c_p (r_ln0 Tryd.underlying29 rfl) rfl ?_
    refine c_p (r_mv rfl) rfl ?_
    refine t_nil ?_
    refine t_then hK60 ?_
    refine t_block ?_
    refine t_sh e4 ?_
    refine t_sh e3 ?_
    refine t_sh e2 ?_
    refine t_tr (Kd := (kShare k_St28)) (xs := [(⟨y49.1, y51.1⟩ : St28), (⟨y49.1, y55.1⟩ : St28), (⟨y55.1, y51.1⟩ : St28), (⟨z1, z2⟩ : St28), (⟨z1, y49.1⟩ : St28), (⟨y51.1, z1⟩ : St28)]) (.cons e0 .nil) rfl (fun w Z S hA hN => ER_EO_share (er1 (c1 := [.slice t50.1 t50.2.1 t50.2.2, .slice t52.1 t52.2.1 t52.2.2]) (k_St28_shuts (x := (⟨y49.1, y51.1⟩ : St28)) (t := ((t50.1, t50.2.1, t50.2.2), (t52.1, t52.2.1, t52.2.2))) (V1 a2 hA (V1 a1 hA V0))) (er1 (c1 := [.slice t50.1 t50.2.1 t50.2.2, .slice t56.1 t56.2.1 t56.2.2]) (k_St28_shuts (x := (⟨y49.1, y55.1⟩ : St28)) (t := ((t50.1, t50.2.1, t50.2.2), (t56.1, t56.2.1, t56.2.2))) (V1 a2 hA (V1 a0 hA V0))) (er1 (c1 := [.slice t56.1 t56.2.1 t56.2.2, .slice t52.1 t52.2.1 t52.2.2]) (k_St28_shuts (x := (⟨y55.1, y51.1⟩ : St28)) (t := ((t56.1, t56.2.1, t56.2.2), (t52.1, t52.2.1, t52.2.2))) (V1 a0 hA (V1 a1 hA V0))) (er1 (c1 := [.slice p4 m5 c6, .slice p7 m8 c9]) (k_St28_shuts (x := (⟨z1, z2⟩ : St28)) (t := ((p4, m5, c6), (p7, m8, c9))) (V1 a3 hA (V1 a4 hA V0))) (er1 (c1 := [.slice p4 m5 c6, .slice t50.1 t50.2.1 t50.2.2]) (k_St28_shuts (x := (⟨z1, y49.1⟩ : St28)) (t := ((p4, m5, c6), (t50.1, t50.2.1, t50.2.2))) (V1 a3 hA (V1 a2 hA V0))) (er1 (c1 := [.slice t52.1 t52.2.1 t52.2.2, .slice p4 m5 c6]) (k_St28_shuts (x := (⟨y51.1, z1⟩ : St28)) (t := ((t52.1, t52.2.1, t52.2.2), (p4, m5, c6))) (V1 a1 hA (V1 a3 hA V0))) er0))))))) ?_
    refine t_lp fun k489 hk490 => ?_
    have LP493 : ∀ (k495 : Nat) (x491 : Int) (x492 : Int), f_kauditlaw40_CoverageSpans_l1 z1 z2 z3 z4 z5 z6 x44 y49 y51 y55 k495 x491 x492 = some r → T 143 c [vw (kSlice 5 (kInt .u8)) x44 [.slice p41 m42 c43], vw (kSlice 46 k_api_Span) y49.1 [.slice t50.1 t50.2.1 t50.2.2], g_pow10, g_kinds] [[blk g40 [.slice p41 m42 c43, .int .i64 x491] 43], [row 28 (kShare k_St28) [(⟨y49.1, y51.1⟩ : St28), (⟨y49.1, y55.1⟩ : St28), (⟨y55.1, y51.1⟩ : St28), (⟨z1, z2⟩ : St28), (⟨z1, y49.1⟩ : St28), (⟨y51.1, z1⟩ : St28)] (.slice (some ⟨g61, 0, none⟩) 6 6)]] [(3, .string z3), (4, .int .i64 z4), (5, .int .i64 z5), (6, .int .i64 z6), (15, .pointer (some ⟨g40, 0, none⟩)), (16, .slice t50.1 t50.2.1 t50.2.2), (51, .slice (some ⟨g61, 0, none⟩) 6 6), (52, .int .i64 6), (53, .int .i64 x492)] k489 := by
      intro k495
      induction k495 with
      | zero => intro x491 x492 h494; rewrite [f_kauditlaw40_CoverageSpans_l1] at h494; cases h494
      | succ k495 ih496 =>
        intro x491 x492 h494
        rewrite [f_kauditlaw40_CoverageSpans_l1] at h494
        refine ti hk490 ?_
        refine t_seq fun K497 hK498 => ?_
        refine t_region ?_
        refine c_p (r_i rfl rfl rfl) rfl ?_
        refine t_nil ?_
        refine t_then hK498 ?_
        refine t_seq fun K499 hK500 => ?_
        rcases Bool.eq_false_or_eq_true (decide (x492 < 6)) with hb501 | hb501
        · replace h494 := itT hb501 h494
          refine t_T rfl hb501 ?_
          refine t_skip ?_
          refine t_then hK500 ?_
          refine t_seq fun K502 hK503 => ?_
          refine t_block ?_
          refine t_seq fun K504 hK505 => ?_
          refine t_region ?_
          obtain ⟨el509, hel509, h494⟩ := bs h494
          refine t_qL a1 hel509 fun q506 hq507 hm508 => ?_
          refine c_p (r_idx hq507 hm508 hel509 Tryd.underlying29 ti28 rfl rfl) rfl ?_
          refine t_oI (opensO_share k_St28_opens) e1 hel509 fun t510 => ?_
          refine c_s (r_hA a0 hq507 Tryd.underlying28 rfl ti28 rfl rfl) rfl ?_
          refine nx (t_al (cs := [.slice none 0 0, .slice none 0 0]) ti28 rfl rfl fun g511 => ?_)
          refine nx (t_st u0 ti28 rfl rfl rfl rfl rfl (.t (.s (.s .z))) ?_)
          refine t_nil ?_
          refine t_then hK505 ?_
          refine t_seq fun K512 hK513 => ?_
          refine t_seq fun K514 hK515 => ?_
          refine t_draw mixed (fun w_ => Bk g511 [.slice t510.1.1 t510.1.2.1 t510.1.2.2, .slice t510.2.1 t510.2.2.1 t510.2.2.2] w_ ∧ True) [4, 9, 11, 14, 16, 25, 30] [2, 5, 12, 17, 18, 26, 31] rfl ?_
          refine q_p 0 (panic_then (panic_then (panic_block (panic_then (panic_then (panic_block (panic_then panic_body))))))) rfl (by kernel_rfl) W0 (r_ixP (i := 0) Tryd.underlying28 ti23 rfl rfl rfl rfl) rfl ?_
          refine q_u 1 (panic_then (panic_then (panic_block (panic_then (panic_then (panic_block (panic_then panic_body))))))) rfl (by kernel_rfl) W0 (by kernel_rfl) (r_ld a0 Tryd.underlying23 rfl rfl rfl) rfl ?_
          refine q_p 3 (panic_then (panic_then (panic_block (panic_then (panic_then (panic_block (panic_then panic_body))))))) rfl (by kernel_rfl) W0 (r_ixP (i := 0) Tryd.underlying28 ti23 rfl rfl rfl rfl) rfl ?_
          refine q_s 4 (panic_then (panic_then (panic_block (panic_then (panic_then (panic_block (panic_then panic_body))))))) rfl (by kernel_rfl) W0 (by kernel_rfl) (fun w H => ⟨bk a0 H, trivial⟩) (b_ld (fun _ h => h.1) Tryd.underlying23 rfl rfl rfl) rfl ?_
          refine d1 2 rfl (by kernel_rfl) (by kernel_rfl) ?_
          obtain ⟨y518, hy518, h494⟩ := bs h494
          refine t_ca (C8 _ _ _ _ _ hy518) Tryd.func8 nm8 rfl rfl rfl .nil (fun w Z hA => (V1 a0 hA (V1 a4 hA (V1 a5 hA V0)))) rfl fun t519 => ?_
          refine dk (fun w H => ⟨bk a0 H, trivial⟩) ?_
          refine d1 5 rfl (by kernel_rfl) (by kernel_rfl) ?_
          obtain ⟨y520, hy520, h494⟩ := bs h494
          refine t_ca (C9 _ _ _ _ _ hy520) Tryd.func9 nm9 rfl rfl rfl .nil (fun w Z hA => (V1 a0 hA (V1 a4 hA (V1 a5 hA V0)))) rfl fun t521 => ?_
          refine dk (fun w H => ⟨bk a0 H, trivial⟩) ?_
          refine q_p 6 (panic_then (panic_then (panic_block (panic_then (panic_then (panic_block (panic_then panic_body))))))) rfl (by kernel_rfl) W0 (r_bne Tryd.underlying4 rfl rfl) rfl ?_
          refine q_p 7 (panic_then (panic_then (panic_block (panic_then (panic_then (panic_block (panic_then panic_body))))))) rfl (by kernel_rfl) W0 (r_mv rfl) rfl ?_
          rcases Bool.eq_false_or_eq_true (y518 != y520) with hb522 | hb522
          · replace h494 := itT hb522 h494
            refine q_x 8 (panic_then (panic_then (panic_block (panic_then (panic_then (panic_block (panic_then panic_body))))))) rfl (by kernel_rfl) rfl rfl hb522 rfl ?_
            refine q_x 9 (panic_then (panic_then (panic_block (panic_then (panic_then (panic_block (panic_then panic_body))))))) rfl (by kernel_rfl) rfl rfl hb522 rfl ?_
            refine q_x 10 (panic_then (panic_then (panic_block (panic_then (panic_then (panic_block (panic_then panic_body))))))) rfl (by kernel_rfl) rfl rfl hb522 rfl ?_
            refine q_x 11 (panic_then (panic_then (panic_block (panic_then (panic_then (panic_block (panic_then panic_body))))))) rfl (by kernel_rfl) rfl rfl hb522 rfl ?_
            refine q_x 13 (panic_then (panic_then (panic_block (panic_then (panic_then (panic_block (panic_then panic_body))))))) rfl (by kernel_rfl) rfl rfl hb522 rfl ?_
            refine q_x 14 (panic_then (panic_then (panic_block (panic_then (panic_then (panic_block (panic_then panic_body))))))) rfl (by kernel_rfl) rfl rfl hb522 rfl ?_
            refine q_x 15 (panic_then (panic_then (panic_block (panic_then (panic_then (panic_block (panic_then panic_body))))))) rfl (by kernel_rfl) rfl rfl hb522 rfl ?_
            refine q_x 16 (panic_then (panic_then (panic_block (panic_then (panic_then (panic_block (panic_then panic_body))))))) rfl (by kernel_rfl) rfl rfl hb522 rfl ?_
            refine d1 12 rfl (by kernel_rfl) (by kernel_rfl) ?_
            refine pass rfl rfl hb522 rfl ?_
            refine dk (fun w H => ⟨bk a0 H, trivial⟩) ?_
            refine d1 17 rfl (by kernel_rfl) (by kernel_rfl) ?_
            refine pass rfl rfl hb522 rfl ?_
            refine dk (fun w H => ⟨bk a0 H, trivial⟩) ?_
            refine d1 18 rfl (by kernel_rfl) (by kernel_rfl) ?_
            refine pass rfl rfl hb522 rfl ?_
            refine dk (fun w H => ⟨bk a0 H, trivial⟩) ?_
            refine q_x 19 (panic_then (panic_then (panic_block (panic_then (panic_then (panic_block (panic_then panic_body))))))) rfl (by kernel_rfl) rfl rfl hb522 rfl ?_
            refine q_p 20 (panic_then (panic_then (panic_block (panic_then (panic_then (panic_block (panic_then panic_body))))))) rfl (by kernel_rfl) W0 (r_pT rfl hb522 rfl) rfl ?_
            refine q_p 21 (panic_then (panic_then (panic_block (panic_then (panic_then (panic_block (panic_then panic_body))))))) rfl (by kernel_rfl) W0 (r_mv rfl) rfl ?_
            refine q_x 22 (panic_then (panic_then (panic_block (panic_then (panic_then (panic_block (panic_then panic_body))))))) rfl (by kernel_rfl) rfl rfl rfl rfl ?_
            refine q_x 23 (panic_then (panic_then (panic_block (panic_then (panic_then (panic_block (panic_then panic_body))))))) rfl (by kernel_rfl) rfl rfl rfl rfl ?_
            refine q_x 24 (panic_then (panic_then (panic_block (panic_then (panic_then (panic_block (panic_then panic_body))))))) rfl (by kernel_rfl) rfl rfl rfl rfl ?_
            refine q_x 25 (panic_then (panic_then (panic_block (panic_then (panic_then (panic_block (panic_then panic_body))))))) rfl (by kernel_rfl) rfl rfl rfl rfl ?_
            refine q_x 27 (panic_then (panic_then (panic_block (panic_then (panic_then (panic_block (panic_then panic_body))))))) rfl (by kernel_rfl) rfl rfl rfl rfl ?_
            refine q_x 28 (panic_then (panic_then (panic_block (panic_then (panic_then (panic_block (panic_then panic_body))))))) rfl (by kernel_rfl) rfl rfl rfl rfl ?_
            refine q_x 29 (panic_then (panic_then (panic_block (panic_then (panic_then (panic_block (panic_then panic_body))))))) rfl (by kernel_rfl) rfl rfl rfl rfl ?_
            refine q_x 30 (panic_then (panic_then (panic_block (panic_then (panic_then (panic_block (panic_then panic_body))))))) rfl (by kernel_rfl) rfl rfl rfl rfl ?_
            refine d1 26 rfl (by kernel_rfl) (by kernel_rfl) ?_
            refine pass rfl rfl rfl rfl ?_
            refine dk (fun w H => ⟨bk a0 H, trivial⟩) ?_
            refine d1 31 rfl (by kernel_rfl) (by kernel_rfl) ?_
            refine pass rfl rfl rfl rfl ?_
            refine dn (by kernel_rfl) ?_
            refine q_x 32 (panic_then (panic_then (panic_block (panic_then (panic_then (panic_block (panic_then panic_body))))))) rfl (by kernel_rfl) rfl rfl rfl rfl ?_
            refine q_p 33 (panic_then (panic_then (panic_block (panic_then (panic_then (panic_block (panic_then panic_body))))))) rfl (by kernel_rfl) W0 (r_pT rfl rfl rfl) rfl ?_
            refine dz (by kernel_rfl) ?_
            refine t_then hK515 ?_
            refine t_T rfl rfl ?_
            refine t_seq fun K534 hK535 => ?_
            refine t_region ?_
            refine c_p (r_as rfl) rfl ?_
            refine t_nil ?_
            refine t_then hK535 ?_
            refine t_ret ?_
            refine t_cS (u := el509) (t := ((t510.1.1, t510.1.2.1, t510.1.2.2), (t510.2.1, t510.2.2.1, t510.2.2.2))) (shutsO_share k_St28_shuts) hel509 (.cons e1 .nil) rfl (fun w Z hA => (V1 a0 hA (V1 a1 hA V0))) ?_
            exact tr (br (tr (tr (br (tr (ret1 rfl (v_t rfl) (t_leave (hQ _ (Option.some.inj h494)) () rfl (fun w Z hA => V0) .nil)))))))
          · replace h494 := itF hb522 h494
            refine q_p 8 (panic_then (panic_then (panic_block (panic_then (panic_then (panic_block (panic_then panic_body))))))) rfl (by kernel_rfl) (WG rfl rfl hb522) (r_ixP (i := 0) Tryd.underlying28 ti23 rfl rfl rfl rfl) rfl ?_
            refine q_s 9 (panic_then (panic_then (panic_block (panic_then (panic_then (panic_block (panic_then panic_body))))))) rfl (by kernel_rfl) (WG rfl rfl hb522) (by kernel_rfl) (fun w H => ⟨bk a0 H, trivial⟩) (b_ld (fun _ h => h.1) Tryd.underlying23 rfl rfl rfl) rfl ?_
            refine q_p 10 (panic_then (panic_then (panic_block (panic_then (panic_then (panic_block (panic_then panic_body))))))) rfl (by kernel_rfl) (WG rfl rfl hb522) (r_ixP (i := 1) Tryd.underlying28 ti23 rfl rfl rfl rfl) rfl ?_
            refine q_s 11 (panic_then (panic_then (panic_block (panic_then (panic_then (panic_block (panic_then panic_body))))))) rfl (by kernel_rfl) (WG rfl rfl hb522) (by kernel_rfl) (fun w H => ⟨bk a0 H, trivial⟩) (b_ld (fun _ h => h.1) Tryd.underlying23 rfl rfl rfl) rfl ?_
            refine q_p 13 (panic_then (panic_then (panic_block (panic_then (panic_then (panic_block (panic_then panic_body))))))) rfl (by kernel_rfl) (WG rfl rfl hb522) (r_ixP (i := 0) Tryd.underlying28 ti23 rfl rfl rfl rfl) rfl ?_
            refine q_s 14 (panic_then (panic_then (panic_block (panic_then (panic_then (panic_block (panic_then panic_body))))))) rfl (by kernel_rfl) (WG rfl rfl hb522) (by kernel_rfl) (fun w H => ⟨bk a0 H, trivial⟩) (b_ld (fun _ h => h.1) Tryd.underlying23 rfl rfl rfl) rfl ?_
            refine q_p 15 (panic_then (panic_then (panic_block (panic_then (panic_then (panic_block (panic_then panic_body))))))) rfl (by kernel_rfl) (WG rfl rfl hb522) (r_ixP (i := 1) Tryd.underlying28 ti23 rfl rfl rfl rfl) rfl ?_
            refine q_s 16 (panic_then (panic_then (panic_block (panic_then (panic_then (panic_block (panic_then panic_body))))))) rfl (by kernel_rfl) (WG rfl rfl hb522) (by kernel_rfl) (fun w H => ⟨bk a0 H, trivial⟩) (b_ld (fun _ h => h.1) Tryd.underlying23 rfl rfl rfl) rfl ?_
            refine d1 12 rfl (by kernel_rfl) (by kernel_rfl) ?_
            obtain ⟨y523, hy523, h494⟩ := bs h494
            refine gd rfl rfl hb522 (t_ca (C11 _ _ _ _ _ _ _ _ _ hy523) Tryd.func11 nm11 rfl rfl rfl .nil (fun w Z hA => (V1 a0 hA (V1 a1 hA (V1 a4 hA (V1 a5 hA V0))))) rfl fun t524 => ?_)
            refine dk (fun w H => ⟨bk a1 H, trivial⟩) ?_
            refine d1 17 rfl (by kernel_rfl) (by kernel_rfl) ?_
            obtain ⟨y525, hy525, h494⟩ := bs h494
            refine gd rfl rfl hb522 (t_ca (C12 _ _ _ _ _ _ _ _ _ hy525) Tryd.func12 nm12 rfl rfl rfl .nil (fun w Z hA => (V1 a0 hA (V1 a1 hA (V1 a4 hA (V1 a5 hA V0))))) rfl fun t526 => ?_)
            refine dk (fun w H => ⟨bk a2 H, trivial⟩) ?_
            refine d1 18 rfl (by kernel_rfl) (by kernel_rfl) ?_
            obtain ⟨y527, hy527, h494⟩ := bs h494
            refine gd rfl rfl hb522 (t_cf (C10 _ _ _ _ _ _ _ _ _ hy527) (fun _ => flat_nil) Tryd.func10 nm10 rfl rfl rfl .nil (fun w Z S hA hL => (FL a1 hL (FL a0 hL (F1 a4 hA (F1 a5 hA F0))))) rfl fun t528 => ?_)
            refine dk (fun w H => ⟨bk a2 H, trivial⟩) ?_
            refine q_p 19 (panic_then (panic_then (panic_block (panic_then (panic_then (panic_block (panic_then panic_body))))))) rfl (by kernel_rfl) (WG rfl rfl hb522) (r_not rfl) rfl ?_
            refine q_p 20 (panic_then (panic_then (panic_block (panic_then (panic_then (panic_block (panic_then panic_body))))))) rfl (by kernel_rfl) W0 (r_pF rfl hb522 rfl) rfl ?_
            refine q_p 21 (panic_then (panic_then (panic_block (panic_then (panic_then (panic_block (panic_then panic_body))))))) rfl (by kernel_rfl) W0 (r_mv rfl) rfl ?_
            rcases Bool.eq_false_or_eq_true y527 with hb529 | hb529
            · replace h494 := itT hb529 h494
              refine q_p 22 (panic_then (panic_then (panic_block (panic_then (panic_then (panic_block (panic_then panic_body))))))) rfl (by kernel_rfl) (WG rfl rfl (congrArg Bool.not hb529)) (r_mv rfl) rfl ?_
              refine q_p 23 (panic_then (panic_then (panic_block (panic_then (panic_then (panic_block (panic_then panic_body))))))) rfl (by kernel_rfl) (WG rfl rfl (congrArg Bool.not hb529)) (r_mv rfl) rfl ?_
              refine q_p 24 (panic_then (panic_then (panic_block (panic_then (panic_then (panic_block (panic_then panic_body))))))) rfl (by kernel_rfl) (WG rfl rfl (congrArg Bool.not hb529)) (r_ixP (i := 0) Tryd.underlying28 ti23 rfl rfl rfl rfl) rfl ?_
              refine q_s 25 (panic_then (panic_then (panic_block (panic_then (panic_then (panic_block (panic_then panic_body))))))) rfl (by kernel_rfl) (WG rfl rfl (congrArg Bool.not hb529)) (by kernel_rfl) (fun w H => ⟨bk a2 H, trivial⟩) (b_ld (fun _ h => h.1) Tryd.underlying23 rfl rfl rfl) rfl ?_
              refine q_p 27 (panic_then (panic_then (panic_block (panic_then (panic_then (panic_block (panic_then panic_body))))))) rfl (by kernel_rfl) (WG rfl rfl (congrArg Bool.not hb529)) (r_mv rfl) rfl ?_
              refine q_p 28 (panic_then (panic_then (panic_block (panic_then (panic_then (panic_block (panic_then panic_body))))))) rfl (by kernel_rfl) (WG rfl rfl (congrArg Bool.not hb529)) (r_mv rfl) rfl ?_
              refine q_p 29 (panic_then (panic_then (panic_block (panic_then (panic_then (panic_block (panic_then panic_body))))))) rfl (by kernel_rfl) (WG rfl rfl (congrArg Bool.not hb529)) (r_ixP (i := 0) Tryd.underlying28 ti23 rfl rfl rfl rfl) rfl ?_
              refine q_s 30 (panic_then (panic_then (panic_block (panic_then (panic_then (panic_block (panic_then panic_body))))))) rfl (by kernel_rfl) (WG rfl rfl (congrArg Bool.not hb529)) (by kernel_rfl) (fun w H => ⟨bk a2 H, trivial⟩) (b_ld (fun _ h => h.1) Tryd.underlying23 rfl rfl rfl) rfl ?_
              refine d1 26 rfl (by kernel_rfl) (by kernel_rfl) ?_
              obtain ⟨y530, hy530, h494⟩ := bs h494
              refine gd rfl rfl (congrArg Bool.not hb529) (t_ca (C13 _ _ _ _ _ _ _ hy530) Tryd.func13 nm13 rfl rfl rfl .nil (fun w Z hA => (V1 a0 hA (V1 a4 hA (V1 a5 hA V0)))) rfl fun t531 => ?_)
              refine dk (fun w H => ⟨bk a2 H, trivial⟩) ?_
              refine d1 31 rfl (by kernel_rfl) (by kernel_rfl) ?_
              obtain ⟨y532, hy532, h494⟩ := bs h494
              refine gd rfl rfl (congrArg Bool.not hb529) (t_ca (C14 _ _ _ _ _ _ _ hy532) Tryd.func14 nm14 rfl rfl rfl .nil (fun w Z hA => (V1 a0 hA (V1 a4 hA (V1 a5 hA V0)))) rfl fun t533 => ?_)
              refine dn (by kernel_rfl) ?_
              refine q_p 32 (panic_then (panic_then (panic_block (panic_then (panic_then (panic_block (panic_then panic_body))))))) rfl (by kernel_rfl) (WG rfl rfl (congrArg Bool.not hb529)) (r_s rfl rfl rfl) rfl ?_
              refine q_p 33 (panic_then (panic_then (panic_block (panic_then (panic_then (panic_block (panic_then panic_body))))))) rfl (by kernel_rfl) W0 (r_pF rfl (congrArg Bool.not hb529) rfl) rfl ?_
              refine dz (by kernel_rfl) ?_
              refine t_then hK515 ?_
              rcases Bool.eq_false_or_eq_true (y530.toList == y532.toList) with hb538 | hb538
              · replace h494 := itT hb538 h494
                refine t_F rfl (congrArg Bool.not hb538) ?_
                refine t_skip ?_
                refine t_then hK513 ?_
                refine t_seq fun K541 hK542 => ?_
                have J607 : f_kauditlaw40_CoverageSpans_j3 z5 z6 x44 x491 x492 el509 (f_kauditlaw40_CoverageSpans_l1 z1 z2 z3 z4 z5 z6 x44 y49 y51 y55 k495) = some r → T 143 c [vw (kSlice 5 (kInt .u8)) x44 [.slice p41 m42 c43], vw (kSlice 46 k_api_Span) y49.1 [.slice t50.1 t50.2.1 t50.2.2], vw (kSlice 46 k_api_Span) el509.c0 [.slice t510.1.1 t510.1.2.1 t510.1.2.2], vw (kSlice 46 k_api_Span) el509.c1 [.slice t510.2.1 t510.2.2.1 t510.2.2.2], g_pow10, g_kinds] [[blk g40 [.slice p41 m42 c43, .int .i64 x491] 43], [blk g511 [.slice t510.1.1 t510.1.2.1 t510.1.2.2, .slice t510.2.1 t510.2.2.1 t510.2.2.2] 28], [hole 28 (kShare k_St28) [(⟨y49.1, y51.1⟩ : St28), (⟨y49.1, y55.1⟩ : St28), (⟨y55.1, y51.1⟩ : St28), (⟨z1, z2⟩ : St28), (⟨z1, y49.1⟩ : St28), (⟨y51.1, z1⟩ : St28)] x492.toNat [.slice t510.1.1 t510.1.2.1 t510.1.2.2, .slice t510.2.1 t510.2.2.1 t510.2.2.2] (.slice (some ⟨g61, 0, none⟩) 6 6)], [row 46 k_api_Span y523 (.slice t524.1 t524.2.1 t524.2.2)], [row 46 k_api_Span y525 (.slice t526.1 t526.2.1 t526.2.2)]] [(3, .string z3), (4, .int .i64 z4), (5, .int .i64 z5), (6, .int .i64 z6), (15, .pointer (some ⟨g40, 0, none⟩)), (16, .slice t50.1 t50.2.1 t50.2.2), (20, .pointer (some ⟨g511, 0, none⟩)), (51, .slice (some ⟨g61, 0, none⟩) 6 6), (52, .int .i64 6), (53, .int .i64 x492), (65, .pointer (some ⟨g511, 0, none⟩)), (66, .slice t510.1.1 t510.1.2.1 t510.1.2.2), (67, .pointer (some ⟨g511, 1, none⟩)), (68, .slice t510.2.1 t510.2.2.1 t510.2.2.2), (69, .slice t524.1 t524.2.1 t524.2.2), (70, .pointer (some ⟨g511, 0, none⟩)), (71, .slice t510.1.1 t510.1.2.1 t510.1.2.2), (72, .pointer (some ⟨g511, 1, none⟩)), (73, .slice t510.2.1 t510.2.2.1 t510.2.2.2), (74, .slice t526.1 t526.2.1 t526.2.2), (75, .bool y527), (76, .bool (!y527)), (79, .string z3), (80, .int .i64 z4), (81, .pointer (some ⟨g511, 0, none⟩)), (82, .slice t510.1.1 t510.1.2.1 t510.1.2.2), (83, .string y530), (84, .string z3), (85, .int .i64 z4), (86, .pointer (some ⟨g511, 0, none⟩)), (87, .slice t510.1.1 t510.1.2.1 t510.1.2.2), (88, .string y532), (89, .bool (!(y530.toList == y532.toList)))] K541 := by
                  intro h608
                  unfold f_kauditlaw40_CoverageSpans_j3 at h608
                  refine ti hK542 ?_
                  refine t_seq fun K609 hK610 => ?_
                  refine t_region ?_
                  refine c_p (r_mv rfl) rfl ?_
                  refine c_p (r_mv rfl) rfl ?_
                  refine c_p (r_bu (ps := [(0, .int .i64 z5), (1, .int .i64 z6)]) (cs := [.int .i64 z5, .int .i64 z6]) rfl (by kernel_rfl)) rfl ?_
                  refine c_p (r_mv rfl) rfl ?_
                  obtain ⟨y611, hy611, h608⟩ := bs h608
                  refine nx (t_ca (C17 _ _ _ _ _ _ _ hy611) Tryd.func17 nm17 rfl rfl rfl (.cons e0 .nil) (fun w Z hA => (V1 a0 hA (V1 a4 hA (V1 a5 hA V0)))) rfl fun t612 => ?_)
                  refine c_p (r_mv rfl) rfl ?_
                  obtain ⟨y613, hy613, h608⟩ := bs h608
                  refine nx (t_ca (C17 _ _ _ _ _ _ _ hy613) Tryd.func17 nm17 rfl rfl rfl (.cons e0 .nil) (fun w Z hA => (V1 a0 hA (V1 a4 hA (V1 a5 hA V0)))) rfl fun t614 => ?_)
                  refine c_p (r_bu (ps := [(0, .int .i64 y611.1), (1, .int .i64 y613.1)]) (cs := [.int .i64 y611.1, .int .i64 y613.1]) rfl (by kernel_rfl)) rfl ?_
                  refine c_p (r_mv rfl) rfl ?_
                  refine c_p (r_bu (ps := [(0, .int .i64 1), (1, .int .i64 z6)]) (cs := [.int .i64 1, .int .i64 z6]) rfl (by kernel_rfl)) rfl ?_
                  refine nx (t_bs (ps := [(0, .agg #[.int .i64 z5, .int .i64 z6]), (1, .agg #[.int .i64 y611.1, .int .i64 y613.1]), (2, .agg #[.int .i64 1, .int .i64 z6])]) (cs := [.int .i64 z5, .int .i64 z6, .int .i64 y611.1, .int .i64 y613.1, .int .i64 1, .int .i64 z6]) Tryd.underlying37 ti35 rfl rfl (by kernel_rfl) rfl fun g615 => ?_)
                  refine c_p (r_ln0 Tryd.underlying37 rfl) rfl ?_
                  refine c_p (r_mv rfl) rfl ?_
                  refine t_nil ?_
                  refine t_then hK610 ?_
                  refine t_block ?_
                  refine t_tr (Kd := k_St35) (xs := [(⟨z5, z6⟩ : St35), (⟨y611.1, y613.1⟩ : St35), (⟨1, z6⟩ : St35)]) (.cons e0 .nil) rfl (fun w Z S hA hN => flat_EO (S := Nil) k_St35_flatK (er1 (c1 := [.int .i64 z5, .int .i64 z6]) (k_St35_shuts (x := (⟨z5, z6⟩ : St35)) (t := ()) trivial) (er1 (c1 := [.int .i64 y611.1, .int .i64 y613.1]) (k_St35_shuts (x := (⟨y611.1, y613.1⟩ : St35)) (t := ()) trivial) (er1 (c1 := [.int .i64 1, .int .i64 z6]) (k_St35_shuts (x := (⟨1, z6⟩ : St35)) (t := ()) trivial) er0)))) ?_
                  refine t_lp fun k673 hk674 => ?_
                  have LP676 : ∀ (k678 : Nat) (x675 : Int), f_kauditlaw40_CoverageSpans_l3 z5 z6 x492 el509 y611 y613 (f_kauditlaw40_CoverageSpans_l1 z1 z2 z3 z4 z5 z6 x44 y49 y51 y55 k495) k678 x675 = some r → T 143 c [vw (kSlice 5 (kInt .u8)) x44 [.slice p41 m42 c43], vw (kSlice 46 k_api_Span) y49.1 [.slice t50.1 t50.2.1 t50.2.2], vw (kSlice 46 k_api_Span) el509.c0 [.slice t510.1.1 t510.1.2.1 t510.1.2.2], vw (kSlice 46 k_api_Span) el509.c1 [.slice t510.2.1 t510.2.2.1 t510.2.2.2], g_pow10, g_kinds] [[blk g40 [.slice p41 m42 c43, .int .i64 y613.2] 43], [blk g511 [.slice t510.1.1 t510.1.2.1 t510.1.2.2, .slice t510.2.1 t510.2.2.1 t510.2.2.2] 28], [hole 28 (kShare k_St28) [(⟨y49.1, y51.1⟩ : St28), (⟨y49.1, y55.1⟩ : St28), (⟨y55.1, y51.1⟩ : St28), (⟨z1, z2⟩ : St28), (⟨z1, y49.1⟩ : St28), (⟨y51.1, z1⟩ : St28)] x492.toNat [.slice t510.1.1 t510.1.2.1 t510.1.2.2, .slice t510.2.1 t510.2.2.1 t510.2.2.2] (.slice (some ⟨g61, 0, none⟩) 6 6)], [row 46 k_api_Span y523 (.slice t524.1 t524.2.1 t524.2.2)], [row 46 k_api_Span y525 (.slice t526.1 t526.2.1 t526.2.2)], [row 35 k_St35 [(⟨z5, z6⟩ : St35), (⟨y611.1, y613.1⟩ : St35), (⟨1, z6⟩ : St35)] (.slice (some ⟨g615, 0, none⟩) 3 3)]] [(3, .string z3), (4, .int .i64 z4), (5, .int .i64 z5), (6, .int .i64 z6), (15, .pointer (some ⟨g40, 0, none⟩)), (16, .slice t50.1 t50.2.1 t50.2.2), (20, .pointer (some ⟨g511, 0, none⟩)), (51, .slice (some ⟨g61, 0, none⟩) 6 6), (52, .int .i64 6), (53, .int .i64 x492), (65, .pointer (some ⟨g511, 0, none⟩)), (66, .slice t510.1.1 t510.1.2.1 t510.1.2.2), (67, .pointer (some ⟨g511, 1, none⟩)), (68, .slice t510.2.1 t510.2.2.1 t510.2.2.2), (69, .slice t524.1 t524.2.1 t524.2.2), (70, .pointer (some ⟨g511, 0, none⟩)), (71, .slice t510.1.1 t510.1.2.1 t510.1.2.2), (72, .pointer (some ⟨g511, 1, none⟩)), (73, .slice t510.2.1 t510.2.2.1 t510.2.2.2), (74, .slice t526.1 t526.2.1 t526.2.2), (75, .bool y527), (76, .bool (!y527)), (79, .string z3), (80, .int .i64 z4), (81, .pointer (some ⟨g511, 0, none⟩)), (82, .slice t510.1.1 t510.1.2.1 t510.1.2.2), (83, .string y530), (84, .string z3), (85, .int .i64 z4), (86, .pointer (some ⟨g511, 0, none⟩)), (87, .slice t510.1.1 t510.1.2.1 t510.1.2.2), (88, .string y532), (89, .bool (!(y530.toList == y532.toList))), (114, .slice (some ⟨g615, 0, none⟩) 3 3), (115, .int .i64 3), (116, .int .i64 x675)] k673 := by
                    intro k678
                    induction k678 with
                    | zero => intro x675 h677; rewrite [f_kauditlaw40_CoverageSpans_l3] at h677; cases h677
                    | succ k678 ih679 =>
                      intro x675 h677
                      rewrite [f_kauditlaw40_CoverageSpans_l3] at h677
                      refine ti hk674 ?_
                      refine t_seq fun K680 hK681 => ?_
                      refine t_region ?_
                      refine c_p (r_i rfl rfl rfl) rfl ?_
                      refine t_nil ?_
                      refine t_then hK681 ?_
                      refine t_seq fun K682 hK683 => ?_
                      rcases Bool.eq_false_or_eq_true (decide (x675 < 3)) with hb684 | hb684
                      · replace h677 := itT hb684 h677
                        refine t_T rfl hb684 ?_
                        refine t_skip ?_
                        refine t_then hK683 ?_
                        refine t_seq fun K685 hK686 => ?_
                        refine t_block ?_
                        refine t_seq fun K687 hK688 => ?_
                        refine t_region ?_
                        obtain ⟨el692, hel692, h677⟩ := bs h677
                        refine t_qL a5 hel692 fun q689 hq690 hm691 => ?_
                        refine c_p (r_idx hq690 hm691 hel692 Tryd.underlying37 ti35 rfl rfl) rfl ?_
                        refine t_oI k_St35_opensO e5 hel692 fun t693 => ?_
                        refine c_s (r_hA a0 hq690 Tryd.underlying35 rfl ti35 rfl rfl) rfl ?_
                        refine nx (t_al (cs := [.int .i64 0, .int .i64 0]) ti35 rfl rfl fun g694 => ?_)
                        refine nx (t_st u0 ti35 rfl rfl rfl rfl rfl (.t (.s (.s .z))) ?_)
                        refine t_nil ?_
                        refine t_then hK688 ?_
                        refine t_seq fun K695 hK696 => ?_
                        refine t_draw mixed (fun w_ => Bk g511 [.slice t510.1.1 t510.1.2.1 t510.1.2.2, .slice t510.2.1 t510.2.2.1 t510.2.2.2] w_ ∧ Bk g694 [.int .i64 el692.c0, .int .i64 el692.c1] w_ ∧ True) [8, 10, 12] [6, 13, 14] rfl ?_
                        refine q_p 0 (panic_then (panic_block (panic_then (panic_then (panic_block (panic_block (panic_then (panic_then (panic_block (panic_then panic_body)))))))))) rfl (by kernel_rfl) W0 (r_ixP (i := 0) Tryd.underlying28 ti23 rfl rfl rfl rfl) rfl ?_
                        refine q_u 1 (panic_then (panic_block (panic_then (panic_then (panic_block (panic_block (panic_then (panic_then (panic_block (panic_then panic_body)))))))))) rfl (by kernel_rfl) W0 (by kernel_rfl) (r_ld a3 Tryd.underlying23 rfl rfl rfl) rfl ?_
                        refine q_p 2 (panic_then (panic_block (panic_then (panic_then (panic_block (panic_block (panic_then (panic_then (panic_block (panic_then panic_body)))))))))) rfl (by kernel_rfl) W0 (r_ixP (i := 0) Tryd.underlying35 ti3 rfl rfl rfl rfl) rfl ?_
                        refine q_u 3 (panic_then (panic_block (panic_then (panic_then (panic_block (panic_block (panic_then (panic_then (panic_block (panic_then panic_body)))))))))) rfl (by kernel_rfl) W0 (by kernel_rfl) (r_ld a0 Tryd.underlying3 rfl rfl rfl) rfl ?_
                        refine q_p 4 (panic_then (panic_block (panic_then (panic_then (panic_block (panic_block (panic_then (panic_then (panic_block (panic_then panic_body)))))))))) rfl (by kernel_rfl) W0 (r_ixP (i := 1) Tryd.underlying35 ti3 rfl rfl rfl rfl) rfl ?_
                        refine q_u 5 (panic_then (panic_block (panic_then (panic_then (panic_block (panic_block (panic_then (panic_then (panic_block (panic_then panic_body)))))))))) rfl (by kernel_rfl) W0 (by kernel_rfl) (r_ld a0 Tryd.underlying3 rfl rfl rfl) rfl ?_
                        refine q_p 7 (panic_then (panic_block (panic_then (panic_then (panic_block (panic_block (panic_then (panic_then (panic_block (panic_then panic_body)))))))))) rfl (by kernel_rfl) W0 (r_ixP (i := 0) Tryd.underlying28 ti23 rfl rfl rfl rfl) rfl ?_
                        refine q_s 8 (panic_then (panic_block (panic_then (panic_then (panic_block (panic_block (panic_then (panic_then (panic_block (panic_then panic_body)))))))))) rfl (by kernel_rfl) W0 (by kernel_rfl) (fun w H => ⟨bk a3 H, bk a0 H, trivial⟩) (b_ld (fun _ h => h.1) Tryd.underlying23 rfl rfl rfl) rfl ?_
                        refine q_p 9 (panic_then (panic_block (panic_then (panic_then (panic_block (panic_block (panic_then (panic_then (panic_block (panic_then panic_body)))))))))) rfl (by kernel_rfl) W0 (r_ixP (i := 0) Tryd.underlying35 ti3 rfl rfl rfl rfl) rfl ?_
                        refine q_s 10 (panic_then (panic_block (panic_then (panic_then (panic_block (panic_block (panic_then (panic_then (panic_block (panic_then panic_body)))))))))) rfl (by kernel_rfl) W0 (by kernel_rfl) (fun w H => ⟨bk a3 H, bk a0 H, trivial⟩) (b_ld (fun _ h => h.2.1) Tryd.underlying3 rfl rfl rfl) rfl ?_
                        refine q_p 11 (panic_then (panic_block (panic_then (panic_then (panic_block (panic_block (panic_then (panic_then (panic_block (panic_then panic_body)))))))))) rfl (by kernel_rfl) W0 (r_ixP (i := 1) Tryd.underlying35 ti3 rfl rfl rfl rfl) rfl ?_
                        refine q_s 12 (panic_then (panic_block (panic_then (panic_then (panic_block (panic_block (panic_then (panic_then (panic_block (panic_then panic_body)))))))))) rfl (by kernel_rfl) W0 (by kernel_rfl) (fun w H => ⟨bk a3 H, bk a0 H, trivial⟩) (b_ld (fun _ h => h.2.1) Tryd.underlying3 rfl rfl rfl) rfl ?_
                        refine d1 6 rfl (by kernel_rfl) (by kernel_rfl) ?_
                        obtain ⟨y699, hy699, h677⟩ := bs h677
                        refine t_ca (C18 _ _ _ _ _ _ _ hy699) Tryd.func18 nm18 rfl rfl rfl .nil (fun w Z hA => (V1 a2 hA (V1 a4 hA (V1 a5 hA V0)))) rfl fun t700 => ?_
                        refine dk (fun w H => ⟨bk a4 H, bk a1 H, trivial⟩) ?_
                        refine d1 13 rfl (by kernel_rfl) (by kernel_rfl) ?_
                        obtain ⟨y701, hy701, h677⟩ := bs h677
                        refine t_ca (C19 _ _ _ _ _ _ _ hy701) Tryd.func19 nm19 rfl rfl rfl .nil (fun w Z hA => (V1 a2 hA (V1 a4 hA (V1 a5 hA V0)))) rfl fun t702 => ?_
                        refine dn (by kernel_rfl) ?_
                        refine d1 14 rfl (by kernel_rfl) (by kernel_rfl) ?_
                        obtain ⟨y703, hy703, h677⟩ := bs h677
                        refine t_cf (C10 _ _ _ _ _ _ _ _ _ hy703) (fun _ => flat_nil) Tryd.func10 nm10 rfl rfl rfl .nil (fun w Z S hA hL => (FL a1 hL (FL a0 hL (F1 a4 hA (F1 a5 hA F0))))) rfl fun t704 => ?_
                        refine dn (by kernel_rfl) ?_
                        refine q_p 15 (panic_then (panic_block (panic_then (panic_then (panic_block (panic_block (panic_then (panic_then (panic_block (panic_then panic_body)))))))))) rfl (by kernel_rfl) W0 (r_not rfl) rfl ?_
                        refine dz (by kernel_rfl) ?_
                        refine t_then hK696 ?_
                        rcases Bool.eq_false_or_eq_true y703 with hb705 | hb705
                        · replace h677 := itT hb705 h677
                          refine t_F rfl (congrArg Bool.not hb705) ?_
                          refine t_skip ?_
                          refine t_blockN ?_
                          refine t_then hK686 ?_
                          refine t_region ?_
                          refine c_p (r_i rfl rfl rfl) rfl ?_
                          refine c_p (r_mv rfl) rfl ?_
                          refine t_nil ?_
                          refine t_cS (u := el692) (t := ()) k_St35_shutsO hel692 (.cons e3 .nil) rfl (fun w Z hA => trivial) ?_
                          exact t_norm (t_go (ih679 (IntKind.wrap .i64 (x675 + 1)) h677) ⟨rfl, rfl, rfl, rfl, rfl, rfl, rfl, rfl, rfl, rfl, rfl, rfl, rfl, rfl, rfl, rfl, rfl, rfl, rfl, rfl, rfl, rfl, rfl, rfl, rfl, rfl, rfl, rfl, rfl, rfl, rfl, rfl, rfl, rfl, rfl, rfl, trivial⟩ (.cons e4 (.cons e4 (.cons e4 (.cons e4 (.cons e4 (.cons e0 .nil)))))) (fun w Z hA => V1 a0 hA (V1 a1 hA (V1 a2 hA (V1 a3 hA (V1 a4 hA (V1 a5 hA (V0))))))))
                        · replace h677 := itF hb705 h677
                          refine t_T rfl (congrArg Bool.not hb705) ?_
                          refine t_seq fun K706 hK707 => ?_
                          refine t_region ?_
                          refine c_p (r_as rfl) rfl ?_
                          refine t_nil ?_
                          refine t_then hK707 ?_
                          refine t_ret ?_
                          refine t_cS (u := el692) (t := ()) k_St35_shutsO hel692 (.cons e3 .nil) rfl (fun w Z hA => trivial) ?_
                          refine t_cS (u := el509) (t := ((t510.1.1, t510.1.2.1, t510.1.2.2), (t510.2.1, t510.2.2.1, t510.2.2.2))) (shutsO_share k_St28_shuts) hel509 (.cons e6 .nil) rfl (fun w Z hA => (V1 a2 hA (V1 a3 hA V0))) ?_
                          exact br (tr (tr (br (br (tr (tr (br (tr (ret1 rfl (v_t rfl) (t_leave (hQ _ (Option.some.inj h677)) () rfl (fun w Z hA => V0) .nil))))))))))
                      · replace h677 := itF hb684 h677
                        refine t_F rfl hb684 ?_
                        refine t_exit ?_
                        refine te (te (bx ?_))
                        refine t_blockN ?_
                        refine t_then hK503 ?_
                        refine t_region ?_
                        refine c_p (r_i rfl rfl rfl) rfl ?_
                        refine c_p (r_mv rfl) rfl ?_
                        refine t_nil ?_
                        refine t_cS (u := el509) (t := ((t510.1.1, t510.1.2.1, t510.1.2.2), (t510.2.1, t510.2.2.1, t510.2.2.2))) (shutsO_share k_St28_shuts) hel509 (.cons e2 .nil) rfl (fun w Z hA => (V1 a2 hA (V1 a3 hA V0))) ?_
                        exact t_norm (t_go (ih496 y613.2 (IntKind.wrap .i64 (x492 + 1)) h677) ⟨rfl, rfl, rfl, rfl, rfl, rfl, rfl, rfl, rfl, trivial⟩ (.cons e1 (.cons e0 .nil)) (fun w Z hA => V1 a0 hA (V1 a1 hA (V1 a4 hA (V1 a5 hA (V0))))))
                  exact t_go (LP676 (((3 : Int) - (0)).toNat + 1) 0 h608) ⟨rfl, rfl, rfl, rfl, rfl, rfl, rfl, rfl, rfl, rfl, rfl, rfl, rfl, rfl, rfl, rfl, rfl, rfl, rfl, rfl, rfl, rfl, rfl, rfl, rfl, rfl, rfl, rfl, rfl, rfl, rfl, rfl, rfl, rfl, rfl, rfl, trivial⟩ (.cons e1 (.cons e1 (.cons e1 (.cons e1 (.cons e1 (.cons e0 .nil)))))) (fun w Z hA => V1 a0 hA (V1 a1 hA (V1 a2 hA (V1 a3 hA (V1 a4 hA (V1 a5 hA (V0)))))))
                refine t_seq fun K543 hK544 => ?_
                refine t_region ?_
                refine c_p (r_as rfl) rfl ?_
                refine t_nil ?_
                refine t_then hK544 ?_
                refine t_block ?_
                refine t_lp fun k582 hk583 => ?_
                have LP585 : ∀ (k587 : Nat) (x584 : Int), f_kauditlaw40_CoverageSpans_l2 z5 z6 x44 x491 x492 el509 (f_kauditlaw40_CoverageSpans_l1 z1 z2 z3 z4 z5 z6 x44 y49 y51 y55 k495) k587 x584 = some r → T 143 c [vw (kSlice 5 (kInt .u8)) x44 [.slice p41 m42 c43], vw (kSlice 46 k_api_Span) y49.1 [.slice t50.1 t50.2.1 t50.2.2], vw (kSlice 46 k_api_Span) el509.c0 [.slice t510.1.1 t510.1.2.1 t510.1.2.2], vw (kSlice 46 k_api_Span) el509.c1 [.slice t510.2.1 t510.2.2.1 t510.2.2.2], g_pow10, g_kinds] [[blk g40 [.slice p41 m42 c43, .int .i64 x491] 43], [blk g511 [.slice t510.1.1 t510.1.2.1 t510.1.2.2, .slice t510.2.1 t510.2.2.1 t510.2.2.2] 28], [hole 28 (kShare k_St28) [(⟨y49.1, y51.1⟩ : St28), (⟨y49.1, y55.1⟩ : St28), (⟨y55.1, y51.1⟩ : St28), (⟨z1, z2⟩ : St28), (⟨z1, y49.1⟩ : St28), (⟨y51.1, z1⟩ : St28)] x492.toNat [.slice t510.1.1 t510.1.2.1 t510.1.2.2, .slice t510.2.1 t510.2.2.1 t510.2.2.2] (.slice (some ⟨g61, 0, none⟩) 6 6)], [row 46 k_api_Span y523 (.slice t524.1 t524.2.1 t524.2.2)], [row 46 k_api_Span y525 (.slice t526.1 t526.2.1 t526.2.2)]] [(3, .string z3), (4, .int .i64 z4), (5, .int .i64 z5), (6, .int .i64 z6), (15, .pointer (some ⟨g40, 0, none⟩)), (16, .slice t50.1 t50.2.1 t50.2.2), (20, .pointer (some ⟨g511, 0, none⟩)), (21, .int .i64 x584), (51, .slice (some ⟨g61, 0, none⟩) 6 6), (52, .int .i64 6), (53, .int .i64 x492), (65, .pointer (some ⟨g511, 0, none⟩)), (66, .slice t510.1.1 t510.1.2.1 t510.1.2.2), (67, .pointer (some ⟨g511, 1, none⟩)), (68, .slice t510.2.1 t510.2.2.1 t510.2.2.2), (69, .slice t524.1 t524.2.1 t524.2.2), (70, .pointer (some ⟨g511, 0, none⟩)), (71, .slice t510.1.1 t510.1.2.1 t510.1.2.2), (72, .pointer (some ⟨g511, 1, none⟩)), (73, .slice t510.2.1 t510.2.2.1 t510.2.2.2), (74, .slice t526.1 t526.2.1 t526.2.2), (75, .bool y527), (76, .bool (!y527)), (79, .string z3), (80, .int .i64 z4), (81, .pointer (some ⟨g511, 0, none⟩)), (82, .slice t510.1.1 t510.1.2.1 t510.1.2.2), (83, .string y530), (84, .string z3), (85, .int .i64 z4), (86, .pointer (some ⟨g511, 0, none⟩)), (87, .slice t510.1.1 t510.1.2.1 t510.1.2.2), (88, .string y532), (89, .bool (!(y530.toList == y532.toList)))] k582 := by
                  intro k587
                  induction k587 with
                  | zero => intro x584 h586; rewrite [f_kauditlaw40_CoverageSpans_l2] at h586; cases h586
                  | succ k587 ih588 =>
                    intro x584 h586
                    rewrite [f_kauditlaw40_CoverageSpans_l2] at h586
                    refine ti hk583 ?_
                    refine t_seq fun K589 hK590 => ?_
                    refine t_seq fun K591 hK592 => ?_
                    refine t_region ?_
                    refine c_p (r_mv rfl) rfl ?_
                    refine c_p (r_i rfl rfl rfl) rfl ?_
                    refine t_nil ?_
                    refine t_then hK592 ?_
                    rcases Bool.eq_false_or_eq_true (decide (x584 < 6)) with hb593 | hb593
                    · replace h586 := itT hb593 h586
                      refine t_T rfl hb593 ?_
                      refine t_skip ?_
                      refine t_then hK590 ?_
                      refine t_seq fun K594 hK595 => ?_
                      refine t_block ?_
                      refine t_seq fun K596 hK597 => ?_
                      refine t_draw mixed (fun w_ => Bk g511 [.slice t510.1.1 t510.1.2.1 t510.1.2.2, .slice t510.2.1 t510.2.2.1 t510.2.2.2] w_ ∧ True) [5] [3, 7] rfl ?_
                      refine q_p 0 (panic_then (panic_block (panic_then (panic_then (panic_block (panic_then (panic_block (panic_then (panic_then (panic_block (panic_then panic_body))))))))))) rfl (by kernel_rfl) W0 (r_ixP (i := 0) Tryd.underlying28 ti23 rfl rfl rfl rfl) rfl ?_
                      refine q_u 1 (panic_then (panic_block (panic_then (panic_then (panic_block (panic_then (panic_block (panic_then (panic_then (panic_block (panic_then panic_body))))))))))) rfl (by kernel_rfl) W0 (by kernel_rfl) (r_ld a1 Tryd.underlying23 rfl rfl rfl) rfl ?_
                      refine q_p 2 (panic_then (panic_block (panic_then (panic_then (panic_block (panic_then (panic_block (panic_then (panic_then (panic_block (panic_then panic_body))))))))))) rfl (by kernel_rfl) W0 (r_mv rfl) rfl ?_
                      refine q_p 4 (panic_then (panic_block (panic_then (panic_then (panic_block (panic_then (panic_block (panic_then (panic_then (panic_block (panic_then panic_body))))))))))) rfl (by kernel_rfl) W0 (r_ixP (i := 0) Tryd.underlying28 ti23 rfl rfl rfl rfl) rfl ?_
                      refine q_s 5 (panic_then (panic_block (panic_then (panic_then (panic_block (panic_then (panic_block (panic_then (panic_then (panic_block (panic_then panic_body))))))))))) rfl (by kernel_rfl) W0 (by kernel_rfl) (fun w H => ⟨bk a1 H, trivial⟩) (b_ld (fun _ h => h.1) Tryd.underlying23 rfl rfl rfl) rfl ?_
                      refine q_p 6 (panic_then (panic_block (panic_then (panic_then (panic_block (panic_then (panic_block (panic_then (panic_then (panic_block (panic_then panic_body))))))))))) rfl (by kernel_rfl) W0 (r_mv rfl) rfl ?_
                      refine d1 3 rfl (by kernel_rfl) (by kernel_rfl) ?_
                      obtain ⟨y600, hy600, h586⟩ := bs h586
                      refine t_ca (C15 _ _ _ _ _ _ hy600) Tryd.func15 nm15 rfl rfl rfl .nil (fun w Z hA => (V1 a2 hA (V1 a4 hA (V1 a5 hA V0)))) rfl fun t601 => ?_
                      refine dk (fun w H => ⟨bk a1 H, trivial⟩) ?_
                      refine d1 7 rfl (by kernel_rfl) (by kernel_rfl) ?_
                      obtain ⟨y602, hy602, h586⟩ := bs h586
                      refine t_ca (C16 _ _ _ _ _ _ hy602) Tryd.func16 nm16 rfl rfl rfl .nil (fun w Z hA => (V1 a2 hA (V1 a4 hA (V1 a5 hA V0)))) rfl fun t603 => ?_
                      refine dn (by kernel_rfl) ?_
                      refine q_p 8 (panic_then (panic_block (panic_then (panic_then (panic_block (panic_then (panic_block (panic_then (panic_then (panic_block (panic_then panic_body))))))))))) rfl (by kernel_rfl) W0 (r_i rfl rfl rfl) rfl ?_
                      refine dz (by kernel_rfl) ?_
                      refine t_then hK597 ?_
                      rcases Bool.eq_false_or_eq_true (y600 != y602) with hb604 | hb604
                      · replace h586 := itT hb604 h586
                        refine t_T rfl hb604 ?_
                        refine t_seq fun K605 hK606 => ?_
                        refine t_region ?_
                        refine c_p (r_as rfl) rfl ?_
                        refine t_nil ?_
                        refine t_then hK606 ?_
                        refine t_ret ?_
                        refine t_cS (u := el509) (t := ((t510.1.1, t510.1.2.1, t510.1.2.2), (t510.2.1, t510.2.2.1, t510.2.2.2))) (shutsO_share k_St28_shuts) hel509 (.cons e2 .nil) rfl (fun w Z hA => (V1 a2 hA (V1 a3 hA V0))) ?_
                        exact br (tr (tr (br (tr (br (tr (tr (br (tr (ret1 rfl (v_t rfl) (t_leave (hQ _ (Option.some.inj h586)) () rfl (fun w Z hA => V0) .nil)))))))))))
                      · replace h586 := itF hb604 h586
                        refine t_F rfl hb604 ?_
                        refine t_skip ?_
                        refine t_blockN ?_
                        refine t_then hK595 ?_
                        refine t_region ?_
                        refine c_p (r_mv rfl) rfl ?_
                        refine c_p (r_i rfl rfl rfl) rfl ?_
                        refine c_p (r_as rfl) rfl ?_
                        refine t_nil ?_
                        exact t_norm (t_go (ih588 (IntKind.wrap .i64 (x584 + 1)) h586) ⟨rfl, rfl, rfl, rfl, rfl, rfl, rfl, rfl, rfl, rfl, rfl, rfl, rfl, rfl, rfl, rfl, rfl, rfl, rfl, rfl, rfl, rfl, rfl, rfl, rfl, rfl, rfl, rfl, rfl, rfl, rfl, rfl, rfl, rfl, trivial⟩ (.cons e0 (.cons e0 (.cons e0 (.cons e0 (.cons e0 .nil))))) (fun w Z hA => V1 a0 hA (V1 a1 hA (V1 a2 hA (V1 a3 hA (V1 a4 hA (V1 a5 hA (V0))))))))
                    · replace h586 := itF hb593 h586
                      refine t_F rfl hb593 ?_
                      refine t_exit ?_
                      refine te (te (bx ?_))
                      exact t_norm (t_go (J607 h586) ⟨rfl, rfl, rfl, rfl, rfl, rfl, rfl, rfl, rfl, rfl, rfl, rfl, rfl, rfl, rfl, rfl, rfl, rfl, rfl, rfl, rfl, rfl, rfl, rfl, rfl, rfl, rfl, rfl, rfl, rfl, rfl, rfl, rfl, trivial⟩ (.cons e0 (.cons e0 (.cons e0 (.cons e0 (.cons e0 .nil))))) (fun w Z hA => V1 a0 hA (V1 a1 hA (V1 a2 hA (V1 a3 hA (V1 a4 hA (V1 a5 hA (V0))))))))
                exact t_go (LP585 (((6 : Int) - ((-1))).toNat + 1) (-1) h494) ⟨rfl, rfl, rfl, rfl, rfl, rfl, rfl, rfl, rfl, rfl, rfl, rfl, rfl, rfl, rfl, rfl, rfl, rfl, rfl, rfl, rfl, rfl, rfl, rfl, rfl, rfl, rfl, rfl, rfl, rfl, rfl, rfl, rfl, rfl, trivial⟩ (.cons e4 (.cons e2 (.cons e2 (.cons e1 (.cons e0 .nil))))) (fun w Z hA => V1 a2 hA (V1 a3 hA (V1 a0 hA (V1 a1 hA (V1 a4 hA (V1 a5 hA (V0)))))))
              · replace h494 := itF hb538 h494
                refine t_T rfl (congrArg Bool.not hb538) ?_
                refine t_seq fun K539 hK540 => ?_
                refine t_region ?_
                refine c_p (r_as rfl) rfl ?_
                refine t_nil ?_
                refine t_then hK540 ?_
                refine t_ret ?_
                refine t_cS (u := el509) (t := ((t510.1.1, t510.1.2.1, t510.1.2.2), (t510.2.1, t510.2.2.1, t510.2.2.2))) (shutsO_share k_St28_shuts) hel509 (.cons e3 .nil) rfl (fun w Z hA => (V1 a0 hA (V1 a1 hA V0))) ?_
                exact tr (br (tr (tr (br (tr (ret1 rfl (v_t rfl) (t_leave (hQ _ (Option.some.inj h494)) () rfl (fun w Z hA => V0) .nil)))))))
            · replace h494 := itF hb529 h494
              refine q_x 22 (panic_then (panic_then (panic_block (panic_then (panic_then (panic_block (panic_then panic_body))))))) rfl (by kernel_rfl) rfl rfl (congrArg Bool.not hb529) rfl ?_
              refine q_x 23 (panic_then (panic_then (panic_block (panic_then (panic_then (panic_block (panic_then panic_body))))))) rfl (by kernel_rfl) rfl rfl (congrArg Bool.not hb529) rfl ?_
              refine q_x 24 (panic_then (panic_then (panic_block (panic_then (panic_then (panic_block (panic_then panic_body))))))) rfl (by kernel_rfl) rfl rfl (congrArg Bool.not hb529) rfl ?_
              refine q_x 25 (panic_then (panic_then (panic_block (panic_then (panic_then (panic_block (panic_then panic_body))))))) rfl (by kernel_rfl) rfl rfl (congrArg Bool.not hb529) rfl ?_
              refine q_x 27 (panic_then (panic_then (panic_block (panic_then (panic_then (panic_block (panic_then panic_body))))))) rfl (by kernel_rfl) rfl rfl (congrArg Bool.not hb529) rfl ?_
              refine q_x 28 (panic_then (panic_then (panic_block (panic_then (panic_then (panic_block (panic_then panic_body))))))) rfl (by kernel_rfl) rfl rfl (congrArg Bool.not hb529) rfl ?_
              refine q_x 29 (panic_then (panic_then (panic_block (panic_then (panic_then (panic_block (panic_then panic_body))))))) rfl (by kernel_rfl) rfl rfl (congrArg Bool.not hb529) rfl ?_
              refine q_x 30 (panic_then (panic_then (panic_block (panic_then (panic_then (panic_block (panic_then panic_body))))))) rfl (by kernel_rfl) rfl rfl (congrArg Bool.not hb529) rfl ?_
              refine d1 26 rfl (by kernel_rfl) (by kernel_rfl) ?_
              refine pass rfl rfl (congrArg Bool.not hb529) rfl ?_
              refine dk (fun w H => ⟨bk a2 H, trivial⟩) ?_
              refine d1 31 rfl (by kernel_rfl) (by kernel_rfl) ?_
              refine pass rfl rfl (congrArg Bool.not hb529) rfl ?_
              refine dn (by kernel_rfl) ?_
              refine q_x 32 (panic_then (panic_then (panic_block (panic_then (panic_then (panic_block (panic_then panic_body))))))) rfl (by kernel_rfl) rfl rfl (congrArg Bool.not hb529) rfl ?_
              refine q_p 33 (panic_then (panic_then (panic_block (panic_then (panic_then (panic_block (panic_then panic_body))))))) rfl (by kernel_rfl) W0 (r_pT rfl (congrArg Bool.not hb529) rfl) rfl ?_
              refine dz (by kernel_rfl) ?_
              refine t_then hK515 ?_
              refine t_T rfl rfl ?_
              refine t_seq fun K536 hK537 => ?_
              refine t_region ?_
              refine c_p (r_as rfl) rfl ?_
              refine t_nil ?_
              refine t_then hK537 ?_
              refine t_ret ?_
              refine t_cS (u := el509) (t := ((t510.1.1, t510.1.2.1, t510.1.2.2), (t510.2.1, t510.2.2.1, t510.2.2.2))) (shutsO_share k_St28_shuts) hel509 (.cons e3 .nil) rfl (fun w Z hA => (V1 a0 hA (V1 a1 hA V0))) ?_
              exact tr (br (tr (tr (br (tr (ret1 rfl (v_t rfl) (t_leave (hQ _ (Option.some.inj h494)) () rfl (fun w Z hA => V0) .nil)))))))
        · replace h494 := itF hb501 h494
          refine t_F rfl hb501 ?_
          refine t_exit ?_
          refine te (te (bx ?_))
          exact t_norm (t_go (J708 h494) ⟨rfl, trivial⟩ .nil (fun w Z hA => V1 a1 hA (V1 a2 hA (V1 a3 hA (V0)))))
    exact t_go (LP493 (((6 : Int) - (0)).toNat + 1) y55.2 0 h46) ⟨rfl, rfl, rfl, rfl, rfl, rfl, rfl, rfl, rfl, trivial⟩ (.cons e1 (.cons e0 .nil)) (fun w Z hA => V1 a5 hA (V1 a2 hA (V1 a6 hA (V1 a7 hA (V0)))))
  refine t_region ?_
  refine c_p (r_mv rfl) rfl ?_
  refine nx (t_in (args := [.slice p1 m2 c3, .int .i64 200]) (cap := []) (all := [.slice p1 m2 c3, .int .i64 200]) rfl rfl Tryd.func5 nm5 rfl rfl rfl Tryd.ntmps5 rfl fun R14 k15 hk16 hR17 => ?_)
  have J38 : ∀ (g33 : Nat) (p34 : Option Addr) (m35 : Nat) (c36 : Nat) (x37 : List Int), f_kauditlaw40_CoverageSpans_j1 z1 z2 z3 z4 z5 z6 x37 = some r → T 143 c [vw (kSlice 46 k_api_Span) z1 [.slice p4 m5 c6], vw (kSlice 46 k_api_Span) z2 [.slice p7 m8 c9], vw (kSlice 5 (kInt .u8)) x37 [.slice p34 m35 c36], g_pow10, g_kinds] [[blk g33 [.slice p34 m35 c36, .int .i64 0] 43]] [(1, .slice p4 m5 c6), (2, .slice p7 m8 c9), (3, .string z3), (4, .int .i64 z4), (5, .int .i64 z5), (6, .int .i64 z6), (25, .pointer (some ⟨g33, 0, none⟩))] k15 := by
    intro g33 p34 m35 c36 x37 h39
    unfold f_kauditlaw40_CoverageSpans_j1 at h39
    refine ti hk16 ?_
    refine c_p (r_as rfl) rfl ?_
    refine t_nil ?_
    exact t_norm (t_go (J45 g33 p34 m35 c36 x37 h39) ⟨rfl, rfl, rfl, rfl, rfl, rfl, rfl, trivial⟩ (.cons e0 .nil) (fun w Z hA => V1 a0 hA (V1 a1 hA (V1 a2 hA (V1 a3 hA (V1 a4 hA (V0)))))))
  refine t_seq fun K18 hK19 => ?_
  refine t_region ?_
  refine c_p (r_as rfl) rfl ?_
  refine t_nil ?_
  refine t_then hK19 ?_
  refine t_seq fun K20 hK21 => ?_
  refine t_seq fun K22 hK23 => ?_
  refine t_region ?_
  refine c_p (r_mv rfl) rfl ?_
  refine c_s (r_lnA a0 Tryd.underlying22 rfl) rfl ?_
  refine c_p (r_mv rfl) rfl ?_
  refine c_p (r_i rfl rfl rfl) rfl ?_
  refine t_nil ?_
  refine t_then hK23 ?_
  rcases Bool.eq_false_or_eq_true (decide ((z0.length : Int) > 200)) with hb24 | hb24
  · replace h := itT hb24 h
    refine t_T rfl hb24 ?_
    refine t_region ?_
    refine c_p (r_mv rfl) rfl ?_
    refine c_p (r_mv rfl) rfl ?_
    obtain ⟨hc25, h⟩ := ck_out h
    refine nx (t_cutA (i := 0) (j := 200) a0 Tryd.underlying22 ti5 rfl (.inl ⟨rfl, rfl⟩) (.inr ⟨_, _, rfl, rfl⟩) hc25 rfl fun t26 => ?_)
    refine c_p (r_as rfl) rfl ?_
    refine t_nil ?_
    refine t_then hK21 ?_
    refine t_seq fun K27 hK28 => ?_
    refine t_region ?_
    refine c_p (r_mv rfl) rfl ?_
    refine c_p (r_bu (ps := [(0, .slice t26.1 t26.2.1 t26.2.2)]) (cs := [.slice t26.1 t26.2.1 t26.2.2, .int .i64 0]) rfl (by kernel_rfl)) rfl ?_
    refine nx (t_bx (cs := [.slice t26.1 t26.2.1 t26.2.2, .int .i64 0]) rfl rfl rfl fun g29 => ?_)
    refine c_p (r_as rfl) rfl ?_
    refine t_nil ?_
    refine t_then hK28 ?_
    refine t_ret ?_
    refine ret1 rfl (v_t rfl) (t_bk hR17 ?_)
    exact t_go (J38 g29 t26.1 t26.2.1 t26.2.2 (cut z0 0 200) h) ⟨rfl, rfl, rfl, rfl, rfl, rfl, rfl, trivial⟩ (.cons e0 .nil) (fun w Z hA => V1 a2 hA (V1 a3 hA (V1 a0 hA (V1 a4 hA (V1 a5 hA (V0))))))
  · replace h := itF hb24 h
    refine t_F rfl hb24 ?_
    refine t_skip ?_
    refine t_then hK21 ?_
    refine t_seq fun K30 hK31 => ?_
    refine t_region ?_
    refine c_p (r_mv rfl) rfl ?_
    refine c_p (r_bu (ps := [(0, .slice p1 m2 c3)]) (cs := [.slice p1 m2 c3, .int .i64 0]) rfl (by kernel_rfl)) rfl ?_
    refine nx (t_bx (cs := [.slice p1 m2 c3, .int .i64 0]) rfl rfl rfl fun g32 => ?_)
    refine c_p (r_as rfl) rfl ?_
    refine t_nil ?_
    refine t_then hK31 ?_
    refine t_ret ?_
    refine ret1 rfl (v_t rfl) (t_bk hR17 ?_)
    exact t_go (J38 g32 p1 m2 c3 z0 h) ⟨rfl, rfl, rfl, rfl, rfl, rfl, rfl, trivial⟩ (.cons e0 .nil) (fun w Z hA => V1 a1 hA (V1 a2 hA (V1 a0 hA (V1 a3 hA (V1 a4 hA (V0))))))
end
end Go.Proofs.YthmjklpmamfncaaDoor.Gx

/- CoverageSpans, as a plain law. -/
set_option linter.unusedVariables false
set_option maxRecDepth 100000
namespace Go.Proofs.YthmjklpmamfncaaDoor.Gx
open Go.Gx Go.RowKit
structure Fine (l : List api_Span) : Prop where
  fit : Fit l
  len : l.length ≤ 2000000
theorem Sm.fine {l : List api_Span} (S : Sm l) (h : l.length ≤ 10) : Fine l := ⟨S.fit, by omega⟩
theorem fit_set {l : List api_Span} (F : Fit l) {i : Nat} {s : api_Span} (h : is64 s.From ∧ is64 s.To ∧ is64 s.Kind) : Fit (l.set i s) := fun t ht => by
  rcases List.mem_or_eq_of_mem_set ht with h' | rfl
  · exact F t h'
  · exact h
theorem spoilt_ok {cs : List Int} {a : Int} (C : COk cs a) {l : List api_Span} (S : Sm l) (hl : l.length ≤ 10) : ∃ l' a', f_kauditlaw40_spoilt ⟨cs, a⟩ l = some (l', a') ∧ Fine l' ∧ COk cs a' := by
  unfold f_kauditlaw40_spoilt
  have e : ([] : List api_Span) ++ l = l := rfl
  rw [e]
  cases hc : l with
  | nil =>
    obtain ⟨u, a1, h1, u0, u1, _, C1, _, ub⟩ := Int_ok (n := 3) C (by omega)
    obtain ⟨v, a2, h2, v0, v1, _, C2, _, vb⟩ := Int_ok (n := 3) C1 (by omega)
    obtain ⟨w, a3, h3, w0, w1, _, C3, _, wb⟩ := Int_ok (n := 6) C2 (by omega)
    exact ⟨_, _, ck_of rfl (ite_t rfl (bind_of h1 (bind_of h2 (bind_of h3 rfl)))), ⟨fun s h => by
      obtain rfl : s = ⟨u, v, w⟩ := by simpa using h
      exact ⟨⟨by show -9223372036854775808 ≤ u; omega, by show u < 9223372036854775808; omega⟩, ⟨by show -9223372036854775808 ≤ v; omega, by show v < 9223372036854775808; omega⟩, ⟨by show -9223372036854775808 ≤ w; omega, by show w < 9223372036854775808; omega⟩⟩, by simp⟩, C3⟩
  | cons s0 l0 =>
    rw [← hc]
    have hpos : 0 < l.length := by rw [hc]; simp
    obtain ⟨j, a1, h1, j0, j1, j2, C1, _, _⟩ := Int_ok (n := (l.length : Int)) C (by omega)
    have hj : j < l.length := by
      by_cases h : (2 : Int) ≤ l.length
      · exact j1 h
      · have := j2 (by omega); omega
    obtain ⟨s, hs, hm⟩ := at_lt (xs := l) j0 hj
    obtain ⟨m1, m2, m3, m4⟩ := S.mem hm
    have hk := m3.1; have hk' := m3.2
    obtain ⟨v, a2, h2, v0, v1, _, C2, _, _⟩ := Int_ok (n := 4) C1 (by omega)
    have bF : is64 s.From := ⟨by omega, by omega⟩
    have bT : is64 s.To := ⟨by omega, by omega⟩
    have bK : is64 s.Kind := ⟨by omega, by omega⟩
    have fine : ∀ t : api_Span, is64 t.From ∧ is64 t.To ∧ is64 t.Kind → Fine (l.set j.toNat t) := fun t h => ⟨fit_set S.fit h, by rw [List.length_set]; omega⟩
    have wb : ∀ n : Int, is64 (IntKind.wrap .i64 n) := fun n => by
      have := wrap_within .i64 n
      have j1 : IntKind.i64.min = -9223372036854775808 := rfl
      have j2 : IntKind.i64.max = 9223372036854775807 := rfl
      rw [j1, j2] at this
      exact ⟨this.1, by omega⟩
    have h0 : ((l.length : Int) == 0) = false := by rw [beq_eq_false_iff_ne]; omega
    by_cases c0 : v = 0
    · obtain ⟨u, a3, h3, _, C3, _⟩ := Pick_ok C2 (l := [1, -1]) (by simp) (by simp)
      exact ⟨_, _, ck_of (fits_of (by simp; omega)) (ite_f h0 (bind_of h1 (bind_of hs (bind_of h2 (ite_t (by simpa using c0) (bind_of h3 rfl)))))), fine _ ⟨wb _, bT, bK⟩, C3⟩
    by_cases c1 : v = 1
    · obtain ⟨u, a3, h3, _, C3, _⟩ := Pick_ok C2 (l := [1, -1, 4611686018427387904]) (by simp) (by simp)
      exact ⟨_, _, ck_of (fits_of (by simp; omega)) (ite_f h0 (bind_of h1 (bind_of hs (bind_of h2 (ite_f (by simpa using c0) (ite_t (by simpa using c1) (bind_of h3 rfl))))))), fine _ ⟨bF, wb _, bK⟩, C3⟩
    by_cases c2 : v = 2
    · obtain ⟨u, a3, h3, u0, u1, _, C3, _, ub⟩ := Int_ok (n := 6) C2 (by omega)
      exact ⟨_, _, ck_of (fits_of (by simp; omega)) (ite_f h0 (bind_of h1 (bind_of hs (bind_of h2 (ite_f (by simpa using c0) (ite_f (by simpa using c1) (ite_t (by simpa using c2) (bind_of h3 rfl)))))))), fine _ ⟨bF, bT, ⟨by show -9223372036854775808 ≤ u; omega, by show u < 9223372036854775808; omega⟩⟩, C3⟩
    · exact ⟨_, _, ck_of (fits_of (by simp; omega)) (ite_f h0 (bind_of h1 (bind_of hs (bind_of h2 (ite_f (by simpa using c0) (ite_f (by simpa using c1) (ite_f (by simpa using c2) rfl))))))), fine _ ⟨bT, bF, bK⟩, C2⟩
section
variable {z1 z2 : List api_Span} {z3 : ByteArray} {z4 z5 z6 : Int} {cs : List Int}
theorem spans_l3 {x492 : Int} {el : St28} (F : Fine el.c0) {y611 y613 : Int × Int} {rec : Int → Int → Option Bool} (hr : rec y613.2 (IntKind.wrap .i64 (x492 + 1)) = some true) : ∀ (k n : Nat), n ≤ 3 → 3 < k + n → f_kauditlaw40_CoverageSpans_l3 z5 z6 x492 el y611 y613 rec k n = some true := by
  intro k
  induction k with
  | zero => intro n h1 h2; omega
  | succ k ih =>
    intro n h1 h2
    rw [f_kauditlaw40_CoverageSpans_l3]
    by_cases h : n < 3
    · obtain ⟨p, hp, _⟩ := at_lt (xs := [(⟨z5, z6⟩ : St35), (⟨y611.1, y613.1⟩ : St35), (⟨1, z6⟩ : St35)]) (i := (n : Int)) (by omega) (by simp; omega)
      obtain ⟨r, q1, q2, q3⟩ := Within_eq (by have := F.len; omega) F.fit p.c0 p.c1
      have := F.len
      refine ite_t (dec_t (by omega)) (bind_of hp (bind_of q1 (bind_of q2 (bind_of (Same_refl (by omega)) (ite_t rfl ?_)))))
      rw [wrap_up (by omega)]
      exact ih (n + 1) (by omega) (by omega)
    · exact ite_f (dec_f (by omega)) hr
theorem spans_j3 {x491 x492 : Int} (C : COk cs x491) {el : St28} (F : Fine el.c0) {rec : Int → Int → Option Bool} (hr : ∀ a, COk cs a → rec a (IntKind.wrap .i64 (x492 + 1)) = some true) : f_kauditlaw40_CoverageSpans_j3 z5 z6 cs x491 x492 el rec = some true := by
  unfold f_kauditlaw40_CoverageSpans_j3
  obtain ⟨u, a1, h1, _, _, _, C1, _, _⟩ := Int_ok (n := 20) C (by omega)
  obtain ⟨v, a2, h2, _, _, _, C2, _, _⟩ := Int_ok (n := 40) C1 (by omega)
  refine bind_of h1 (bind_of h2 ?_)
  exact spans_l3 F (hr _ C2) _ 0 (by omega) (by omega)
theorem spans_l2 {x491 x492 : Int} (C : COk cs x491) {el : St28} (F : Fine el.c0) {rec : Int → Int → Option Bool} (hr : ∀ a, COk cs a → rec a (IntKind.wrap .i64 (x492 + 1)) = some true) : ∀ (k : Nat) (n : Int), -1 ≤ n → n ≤ 6 → 6 < k + n → f_kauditlaw40_CoverageSpans_l2 z5 z6 cs x491 x492 el rec k n = some true := by
  intro k
  induction k with
  | zero => intro n h1 h2 h3; omega
  | succ k ih =>
    intro n h1 h2 h3
    rw [f_kauditlaw40_CoverageSpans_l2]
    by_cases h : n < 6
    · obtain ⟨r, q1, q2⟩ := Count_eq (by have := F.len; omega) F.fit n
      refine ite_t (dec_t h) (bind_of q1 (bind_of q2 (ite_f (by simp) ?_)))
      rw [wrap_id (by omega) (by omega)]
      exact ih (n + 1) (by omega) (by omega) (by omega)
    · exact ite_f (dec_f h) (spans_j3 C F hr)
theorem spans_l1 (h3 : z3.size ≤ 2000000) (h4 : is64 z4) {y49 y51 y55 : List api_Span × Int} (F1 : Fine z1) (F2 : Fine z2) (F3 : Fine y49.1) (F4 : Fine y51.1) (F5 : Fine y55.1) (S : f_coverage_Proper y49.1 = some true) : ∀ (k n : Nat) (a : Int), n ≤ 6 → 6 < k + n → COk cs a → f_kauditlaw40_CoverageSpans_l1 z1 z2 z3 z4 z5 z6 cs y49 y51 y55 k a n = some true := by
  intro k
  induction k with
  | zero => intro n _ h1 h2; omega
  | succ k ih =>
    intro n a h1 h2 C
    rw [f_kauditlaw40_CoverageSpans_l1]
    by_cases h : n < 6
    · obtain ⟨p, hp, hm⟩ := at_lt (xs := [(⟨y49.1, y51.1⟩ : St28), (⟨y49.1, y55.1⟩ : St28), (⟨y55.1, y51.1⟩ : St28), (⟨z1, z2⟩ : St28), (⟨z1, y49.1⟩ : St28), (⟨y51.1, z1⟩ : St28)]) (i := (n : Int)) (by omega) (by simp; omega)
      obtain ⟨A, B⟩ : Fine p.c0 ∧ Fine p.c1 := by
        simp only [List.mem_cons, List.not_mem_nil, or_false] at hm
        rcases hm with rfl | rfl | rfl | rfl | rfl | rfl <;> exact ⟨by assumption, by assumption⟩
      obtain ⟨r, q1, q2, q3⟩ := Merge_eq A.len B.len A.fit B.fit
      obtain ⟨t, t1, t2⟩ := Format_eq (z0 := z3) (z1 := z4) h3 A.len h4 A.fit
      have := A.len
      refine ite_t (dec_t (by omega)) (bind_of hp (bind_of (Proper_ok (by omega) A.fit) (bind_of (RProper_ok (by omega) A.fit) (ite_f (by simp) (bind_of q1 (bind_of q2 (bind_of (Same_refl (by omega)) (ite_t rfl (bind_of t1 (bind_of t2 (ite_t (by simp) ?_)))))))))))
      exact spans_l2 C A (fun a C => by rw [wrap_up (by omega)]; exact ih (n + 1) a (by omega) (by omega) C) _ (-1) (by omega) (by omega) (by omega)
    · refine ite_f (dec_f (by omega)) ?_
      unfold f_kauditlaw40_CoverageSpans_j4
      exact bind_of S (ite_t rfl (bind_of begun_ok rfl))
theorem spans_j2 (h3 : z3.size ≤ 2000000) (h4 : is64 z4) (F1 : Fine z1) (F2 : Fine z2) (C : COk cs 0) : f_kauditlaw40_CoverageSpans_j2 z1 z2 z3 z4 z5 z6 cs = some true := by
  unfold f_kauditlaw40_CoverageSpans_j2
  obtain ⟨a, c1, ha, A, la, C1⟩ := spans_ok C
  obtain ⟨b, c2, hb, B, lb, C2⟩ := spans_ok C1
  obtain ⟨d, c3, hd, D, C3⟩ := spoilt_ok C2 A la
  refine bind_of ha (bind_of hb (bind_of hd ?_))
  exact spans_l1 h3 h4 F1 F2 (A.fine la) (B.fine lb) D A.proper _ 0 _ (by omega) (by omega) C3
theorem spans_law {z0 : List Int} (hb : ∀ x ∈ z0, 0 ≤ x ∧ x < 256) (h3 : z3.size ≤ 2000000) (h4 : is64 z4) (F1 : Fine z1) (F2 : Fine z2) : f_kauditlaw40_CoverageSpans z0 z1 z2 z3 z4 z5 z6 = some true := by
  unfold f_kauditlaw40_CoverageSpans f_kauditlaw40_CoverageSpans_j1
  by_cases h : (z0.length : Int) > 200
  · refine ite_t (dec_t h) (ck_of ⟨by omega, by omega, by omega⟩ (spans_j2 h3 h4 F1 F2 (COk.zero ?_ ?_)))
    · unfold cut; simp; omega
    · intro x hx; unfold cut at hx; exact hb x (List.mem_of_mem_take (List.mem_of_mem_drop hx))
  · exact ite_f (dec_f h) (spans_j2 h3 h4 F1 F2 (COk.zero (by omega) hb))
end
end Go.Proofs.YthmjklpmamfncaaDoor.Gx

/- A list of spans that came in: what its reading says of the cells, and how many it can be where the reading is small. -/
set_option linter.unusedVariables false
namespace Go.Proofs.YthmjklpmamfncaaDoor.Gx
open Go.Gx Go.RowKit Go.Deep
set_option maxRecDepth 100000
def scells (s : api_Span) : List Value := [.int .i64 s.From, .int .i64 s.To, .int .i64 s.Kind]
def IsSpans (w : World) (a : Option Addr) (len cap : Nat) (zs : List api_Span) : Prop :=
  (a = none ∧ len = 0 ∧ cap = 0 ∧ zs = []) ∨
  ∃ x, a = some x ∧ len ≤ cap ∧ cap ≤ maxLen ∧ zs.length = len ∧ (∀ (i : Nat) (s : api_Span), zs[i]? = some s → w.cells? 0 (x.add (i * 3)) 3 = some (scells s))
theorem isSpans_len {w : World} {a : Option Addr} {len cap : Nat} {zs : List api_Span} (h : IsSpans w a len cap zs) : zs.length = len := by
  rcases h with ⟨_, rfl, _, rfl⟩ | ⟨_, _, _, _, hz, _⟩
  · rfl
  · exact hz
theorem cells23 : Tryd.prog.cellsOf 46 = 3 := by kernel_rfl
theorem span_cells {H : Type} {enc : TypeId × Value → H} {w : World} {base : Nat} {sp : Nat → Bool} {held : Bool} {fuel : Nat} {cs : List Value} {d : DataW H} {p : List MemPlace}
    (h : DataW.trod enc Tryd.prog w base sp held fuel 46 cs = some (d, p)) : ∃ s : api_Span, cs = scells s ∧ is64 s.From ∧ is64 s.To ∧ is64 s.Kind := by
  obtain ⟨y0, y1, y2, n, hx, hl, h0, h1, h2⟩ := trod_struct3 Tryd.underlying46 h
  rw [cells23] at hl
  match cs, hl with
  | [c0, c1, c2], _ =>
    have h0 : DataW.trod enc Tryd.prog w base sp held n 3 (([c0, c1, c2].drop 0).take (Tryd.prog.cellsOf 3)) = some y0 := h0
    have h1 : DataW.trod enc Tryd.prog w base sp held n 3 (([c0, c1, c2].drop 1).take (Tryd.prog.cellsOf 3)) = some y1 := h1
    have h2 : DataW.trod enc Tryd.prog w base sp held n 3 (([c0, c1, c2].drop 2).take (Tryd.prog.cellsOf 3)) = some y2 := h2
    rw [cells3] at h0 h1 h2
    obtain ⟨a, ha, _, wa⟩ := DataW.trod_int Tryd.underlying3 h0
    obtain ⟨b, hb, _, wb⟩ := DataW.trod_int Tryd.underlying3 h1
    obtain ⟨c, hc, _, wc⟩ := DataW.trod_int Tryd.underlying3 h2
    simp at ha hb hc
    subst ha hb hc
    have j1 : IntKind.i64.min = -9223372036854775808 := rfl
    have j2 : IntKind.i64.max = 9223372036854775807 := rfl
    simp [Lit.wf, j1, j2] at wa wb wc
    exact ⟨⟨a, b, c⟩, rfl, ⟨by show -9223372036854775808 ≤ a; omega, by show a < 9223372036854775808; omega⟩, ⟨by show -9223372036854775808 ≤ b; omega, by show b < 9223372036854775808; omega⟩, ⟨by show -9223372036854775808 ≤ c; omega, by show c < 9223372036854775808; omega⟩⟩
theorem bulk_len {H : Type} : ∀ l : List (DataW H), l.length ≤ Rows.uptoBulkAll l
  | [] => Nat.zero_le _
  | d :: l => by
    have h1 : 1 ≤ Rows.uptoBulk d := by
      cases d with
      | lit l => cases l <;> simp [Rows.uptoBulk]
      | nil => simp [Rows.uptoBulk]
      | ptr d => simp [Rows.uptoBulk]
      | slice elems spare => simp [Rows.uptoBulk]
      | agg parts => simp [Rows.uptoBulk]
      | iface t d => simp [Rows.uptoBulk]
      | map entries => simp [Rows.uptoBulk]
      | held h => simp [Rows.uptoBulk]
    have h2 := bulk_len l
    simp only [Rows.uptoBulkAll, List.length_cons]
    omega
theorem open_spans {H : Type} {enc : TypeId × Value → H} {w : World} {base : Nat} {sp : Nat → Bool} {held : Bool} {fuel : Nat} {a : Option Addr} {len cap : Nat} {x : DataW H × List MemPlace}
    (h : DataW.trod enc Tryd.prog w base sp held fuel 23 [.slice a len cap] = some x) (hsp : ∀ b, sp b = true) : ∃ zs, IsSpans w a len cap zs ∧ Fit zs ∧ len ≤ Rows.uptoBulk x.1 := by
  rcases open_slice Tryd.underlying23 h with ⟨hcs, hx⟩ | ⟨b, l, c, m, n, D, Pl, hcs, _, hl, hm, hmm, hx, hel⟩
  · simp at hcs
    obtain ⟨rfl, rfl, rfl⟩ := hcs
    exact ⟨[], .inl ⟨rfl, rfl, rfl, rfl⟩, nofun, Nat.zero_le _⟩
  · simp at hcs
    obtain ⟨rfl, rfl, rfl⟩ := hcs
    have key : ∀ k, k ≤ len → ∃ zs : List api_Span, zs.length = k ∧ (∀ (i : Nat) (s : api_Span), zs[i]? = some s → w.cells? 0 (b.add (i * 3)) 3 = some (scells s)) ∧ Fit zs := by
      intro k
      induction k with
      | zero => intro _; exact ⟨[], rfl, fun i s h => by simp at h, nofun⟩
      | succ k ih =>
        intro hk
        obtain ⟨zs, h1, h2, h3⟩ := ih (by omega)
        obtain ⟨cs', e1, e2⟩ := hel k (by rw [hmm, hsp]; simp; omega)
        obtain ⟨s, rfl, f1, f2, f3⟩ := span_cells e2
        rw [cells23] at e1
        obtain ⟨_, e3, e4⟩ := World.cells?_some e1
        have e5 := World.cells?_of_each (base := 0) (Nat.zero_le _) e3 e4
        refine ⟨zs ++ [s], by simp [h1], fun i t ht => ?_, fun t ht => ?_⟩
        · rcases Nat.lt_or_ge i zs.length with hi | hi
          · rw [List.getElem?_append_left hi] at ht; exact h2 i t ht
          · rw [List.getElem?_append_right hi] at ht
            have h0 : i - zs.length = 0 := by
              rcases Nat.eq_zero_or_pos (i - zs.length) with h | h
              · exact h
              · rw [List.getElem?_eq_none (by simp; omega)] at ht; cases ht
            rw [h0] at ht
            obtain rfl : s = t := by simpa using ht
            obtain rfl : i = k := by omega
            exact e5
        · rcases List.mem_append.1 ht with ht | ht
          · exact h3 t ht
          · obtain rfl : t = s := by simpa using ht
            exact ⟨f1, f2, f3⟩
    obtain ⟨zs, h1, h2, h3⟩ := key len (Nat.le_refl _)
    refine ⟨zs, .inr ⟨b, rfl, hl, hm, h1, h2⟩, h3, ?_⟩
    rw [hx]
    have := bulk_len ((List.range len).map D)
    rw [List.length_map, List.length_range] at this
    simp only [Rows.uptoBulk]
    omega
theorem chunks3 {α : Type} {f : α → List Value} (hf : ∀ x, (f x).length = 3) : ∀ {l : List α} {cs : List Value}, cs.length = l.length * 3 → (∀ (i : Nat) (x : α), l[i]? = some x → (cs.drop (i * 3)).take 3 = f x) → cs = l.flatMap f
  | [], cs, h, _ => List.eq_nil_of_length_eq_zero (by simpa using h)
  | x :: l, cs, h, hi => by
    have h0 := hi 0 x rfl
    simp only [Nat.zero_mul, List.drop_zero] at h0
    have hr : cs.drop 3 = l.flatMap f := chunks3 hf (by simp at h ⊢; omega) (fun i y hy => by
      have := hi (i + 1) y (by simpa using hy)
      rw [List.drop_drop]
      have e : 3 + i * 3 = (i + 1) * 3 := by omega
      rw [e]; exact this)
    rw [List.flatMap_cons, ← h0, ← hr, List.take_append_drop]
theorem ER_spans {w : World} {S : FP} : ∀ zs : List api_Span, ER k_api_Span w zs S (zs.flatMap scells)
  | [] => rfl
  | x :: xs => ⟨scells x, xs.flatMap scells, by rw [List.flatMap_cons], ⟨[.int .i64 x.From], [.int .i64 x.To, .int .i64 x.Kind], rfl, rfl, [.int .i64 x.To], [.int .i64 x.Kind], rfl, rfl, rfl⟩, ER_spans xs⟩
theorem isSpans_slice {w : World} {a : Option Addr} {len cap : Nat} {zs : List api_Span} (h : IsSpans w a len cap zs) :
    ∃ Z : FP, (∀ b, Z b → b < w.heap.size) ∧ sliceR k_api_Span w Z zs [.slice a zs.length cap] := by
  have hlen := isSpans_len h
  rcases h with ⟨rfl, rfl, rfl, rfl⟩ | ⟨x, rfl, hl, hm, hz, hcell⟩
  · exact ⟨Nil, fun _ h => h.elim, none, 0, rfl, Nat.le_refl _, Nat.zero_le _, fun _ => rfl, fun h => absurd rfl h⟩
  · by_cases h0 : len = 0
    · subst h0
      obtain rfl := List.eq_nil_of_length_eq_zero hz
      exact ⟨Nil, fun _ h => h.elim, some x, cap, rfl, by simp, hm, nofun, fun h => absurd rfl h⟩
    · obtain ⟨b, off, spot⟩ := x
      have hc0 := (World.cells?_some (hcell 0 zs[0] (List.getElem?_eq_getElem (by omega)))).2.2 0 (by omega)
      obtain rfl : spot = none := by simpa [Addr.add, scells] using World.cell?_spot hc0
      have hcell' : ∀ (i : Nat) (s : api_Span), zs[i]? = some s → ∀ j, j < 3 → w.cell? ⟨b, off + (i * 3 + j), none⟩ = (scells s)[j]? := by
        intro i s hs j hj
        have := (World.cells?_some (hcell i s hs)).2.2 j hj
        rw [← this]
        congr 1
        unfold Addr.add
        by_cases c1 : i * 3 = 0
        · by_cases c2 : j = 0
          · simp [c1, c2]
          · simp [c1, c2]
        · by_cases c2 : j = 0
          · simp [c1, c2]
          · simp [c1, c2, Nat.add_assoc]
      have hb : ∃ arr T fr, w.heap[b]? = some (.cells arr T fr) := by
        have h1 := hc0
        unfold World.cell? at h1
        split at h1
        · rename_i c T fr heq; exact ⟨c, T, fr, heq⟩
        · simp [scells] at h1
      obtain ⟨arr, T, fr, hb⟩ := hb
      have hlt : b < w.heap.size := by
        rcases Nat.lt_or_ge b w.heap.size with h | h
        · exact h
        · rw [Array.getElem?_eq_none h] at hb; cases hb
      have hget : ∀ (i : Nat) (s : api_Span), zs[i]? = some s → ∀ j, j < 3 → arr[off + (i * 3 + j)]? = (scells s)[j]? := by
        intro i s hs j hj
        have := hcell' i s hs j hj
        simpa [World.cell?, hb] using this
      have hsz : off + len * 3 ≤ arr.size := by
        have hs : zs[len - 1]? = some zs[len - 1] := List.getElem?_eq_getElem (by omega)
        have := hget (len - 1) _ hs 2 (by omega)
        rcases Nat.lt_or_ge (off + ((len - 1) * 3 + 2)) arr.size with h | h
        · omega
        · rw [Array.getElem?_eq_none h] at this; simp [scells] at this
      refine ⟨fun c => c = b, fun c hc => hc ▸ hlt, some ⟨b, off, none⟩, cap, rfl, by omega, hm, nofun, fun _ => ?_⟩
      have hel : (arr.toList.drop off).take (len * 3) = zs.flatMap scells := by
        refine chunks3 (fun _ => rfl) (by rw [List.length_take, List.length_drop, Array.length_toList]; omega) fun i s hs => ?_
        have hi : i < zs.length := (List.getElem?_eq_some_iff.1 hs).1
        apply List.ext_getElem?
        intro j
        by_cases hj : j < 3
        · rw [List.getElem?_take_of_lt hj, List.getElem?_drop, List.getElem?_take_of_lt (by omega), List.getElem?_drop, Array.getElem?_toList, hget i s hs j hj]
        · rw [List.getElem?_eq_none (by simp; omega), List.getElem?_eq_none (by simp [scells]; omega)]
      refine ⟨b, off, arr.toList.take off, zs.flatMap scells, arr.toList.drop (off + len * 3), T, fr, rfl, rfl, ?_, by simp; omega, ER_spans _⟩
      rw [hb, ← hel, ← List.drop_drop, List.append_assoc, List.take_append_drop, List.take_append_drop]
end Go.Proofs.YthmjklpmamfncaaDoor.Gx
