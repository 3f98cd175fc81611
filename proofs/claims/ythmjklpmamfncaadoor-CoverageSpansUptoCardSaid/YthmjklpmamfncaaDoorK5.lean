/- K5: the texts Y29, Y39, Y40, Y43, Y44, Y45, Y46, Y47, Y54, Y41, Y77, Y55, Y56, Y57, Y58, Y42, Y30, Y31, Y20, PCovD, Y7, joined. -/
import Derived.KernelRfl
import Derived.Test.YthmjklpmamfncaaDoorK2
import Derived.Test.YthmjklpmamfncaaDoorK3
import Derived.Test.YthmjklpmamfncaaDoorK4
/- Function 29, kaudit/coverage.Of: what it answers as a plain function, and that the Go code comes to exactly that (where the plain function gives an answer). -/
set_option linter.unusedVariables false
set_option linter.unusedSimpArgs false
namespace Go.Proofs.YthmjklpmamfncaaDoor.Gx
open Go.Gx Go.RowKit
noncomputable section
/-! ### kaudit/coverage.Of: function 29 -/
def f_coverage_Of_j1 (x144 : List api_Span) (x145 : Int) (x146 : Int) (el163 : api_Event) (rec_f_coverage_Of_l1 : List (Int × Int) → List api_Span → Int → Int → Option ((List api_Span))) (x185 : List (Int × Int)) : Option ((List api_Span)) := (f_coverage_loss el163).bind fun y190 => if y190.2 = true then (ck (fits (x144.length + [y190.1].length) 24 = true) <| rec_f_coverage_Of_l1 x185 (x144 ++ [y190.1]) (max x145 el163.Serial) (IntKind.wrap .i64 (x146 + 1))) else (rec_f_coverage_Of_l1 x185 x144 (max x145 el163.Serial) (IntKind.wrap .i64 (x146 + 1)))
def f_coverage_Of_j12 (x1000 : List api_Span) : Option ((List api_Span)) := (f_coverage_join_api_Span x1000).bind fun y1005 => some y1005
def f_coverage_Of_j11 (x806 : List api_Span) (x807 : Int) (el824 : Int) (x839 : Int) (rec_f_coverage_Of_l4 : List api_Span → Int → Option ((List api_Span))) (x991 : Int) : Option ((List api_Span)) := ck (fits (x806.length + [(⟨el824, x839, x991⟩ : api_Span)].length) 24 = true) <| rec_f_coverage_Of_l4 (x806 ++ [(⟨el824, x839, x991⟩ : api_Span)]) (IntKind.wrap .i64 (x807 + 1))
def f_coverage_Of_j10 (x806 : List api_Span) (x807 : Int) (el824 : Int) (x839 : Int) (rec_f_coverage_Of_l4 : List api_Span → Int → Option ((List api_Span))) (x987 : Bool) : Option ((List api_Span)) := if x987 = true then (f_coverage_Of_j11 x806 x807 el824 x839 rec_f_coverage_Of_l4 3) else (f_coverage_Of_j11 x806 x807 el824 x839 rec_f_coverage_Of_l4 4)
def f_coverage_Of_j9 (x806 : List api_Span) (x807 : Int) (el824 : Int) (x839 : Int) (rec_f_coverage_Of_l4 : List api_Span → Int → Option ((List api_Span))) (x984 : Int) : Option ((List api_Span)) := f_coverage_Of_j10 x806 x807 el824 x839 rec_f_coverage_Of_l4 (decide (x984 ≥ 0))
def f_coverage_Of_j8 (x806 : List api_Span) (x807 : Int) (el824 : Int) (x839 : Int) (x944 : Int) (rec_f_coverage_Of_l4 : List api_Span → Int → Option ((List api_Span))) (rec_f_coverage_Of_l5 : Int → Option ((List api_Span))) (x975 : Bool) : Option ((List api_Span)) := if x975 = true then (f_coverage_Of_j9 x806 x807 el824 x839 rec_f_coverage_Of_l4 x944) else (rec_f_coverage_Of_l5 (IntKind.wrap .i64 (x944 + 1)))
def f_coverage_Of_l5 (x232 : List api_Span) (x806 : List api_Span) (x807 : Int) (el824 : Int) (x839 : Int) (rec_f_coverage_Of_l4 : List api_Span → Int → Option ((List api_Span))) : Nat → Int → Option ((List api_Span))
  | 0, _ => none
  | k947 + 1, x944 => if (decide (x944 < (x232.length : Int))) = true then ((at_ x232 x944).bind fun el963 => if (decide (el963.From ≤ el824)) = true then (f_coverage_Of_j8 x806 x807 el824 x839 x944 rec_f_coverage_Of_l4 (f_coverage_Of_l5 x232 x806 x807 el824 x839 rec_f_coverage_Of_l4 k947) (decide (el824 ≤ el963.To))) else (f_coverage_Of_j8 x806 x807 el824 x839 x944 rec_f_coverage_Of_l4 (f_coverage_Of_l5 x232 x806 x807 el824 x839 rec_f_coverage_Of_l4 k947) false)) else (f_coverage_Of_j9 x806 x807 el824 x839 rec_f_coverage_Of_l4 (-1))
def f_coverage_Of_j7 (x228 : List (Int × Int)) (x232 : List api_Span) (x806 : List api_Span) (x807 : Int) (el824 : Int) (rec_f_coverage_Of_l4 : List api_Span → Int → Option ((List api_Span))) (x839 : Int) : Option ((List api_Span)) := if (decide (el824 > x839)) = true then (f_coverage_Of_j12 x806) else (if (((mget x228 el824).getD 0) == 0) = true then (f_coverage_Of_l5 x232 x806 x807 el824 x839 rec_f_coverage_Of_l4 ((((x232.length : Int) : Int) - (0)).toNat + 1) 0) else (f_coverage_Of_j11 x806 x807 el824 x839 rec_f_coverage_Of_l4 ((mget x228 el824).getD 0)))
def f_coverage_Of_l4 (x228 : List (Int × Int)) (x232 : List api_Span) (x233 : Int) (y413 : List Int) : Nat → List api_Span → Int → Option ((List api_Span))
  | 0, _, _ => none
  | k810 + 1, x806, x807 => if (decide (x807 < (y413.length : Int))) = true then ((at_ y413 x807).bind fun el824 => if (decide ((IntKind.wrap .i64 (x807 + 1)) < (y413.length : Int))) = true then ((at_ y413 (IntKind.wrap .i64 (x807 + 1))).bind fun el837 => f_coverage_Of_j7 x228 x232 x806 x807 el824 (f_coverage_Of_l4 x228 x232 x233 y413 k810) (min x233 (IntKind.wrap .i64 (el837 - 1)))) else (f_coverage_Of_j7 x228 x232 x806 x807 el824 (f_coverage_Of_l4 x228 x232 x233 y413 k810) x233)) else (f_coverage_Of_j12 x806)
def f_coverage_Of_j6 (x228 : List (Int × Int)) (x232 : List api_Span) (x233 : Int) (x404 : List Int) : Option ((List api_Span)) := (f_slices_Sort_int_int x404).bind fun y409 => (f_slices_Compact_int_int y409).bind fun y413 => f_coverage_Of_l4 x228 x232 x233 y413 ((((y413.length : Int) : Int) - (0)).toNat + 1) ([] : List api_Span) 0
def f_coverage_Of_l3 (x228 : List (Int × Int)) (x232 : List api_Span) (x233 : Int) : Nat → List Int → Int → Option ((List api_Span))
  | 0, _, _ => none
  | k381 + 1, x377, x378 => if (decide (x378 < (x232.length : Int))) = true then ((at_ x232 x378).bind fun el395 => ck (fits (x377.length + [el395.From, (IntKind.wrap .i64 (el395.To + 1))].length) 8 = true) <| f_coverage_Of_l3 x228 x232 x233 k381 (x377 ++ [el395.From, (IntKind.wrap .i64 (el395.To + 1))]) (IntKind.wrap .i64 (x378 + 1))) else (f_coverage_Of_j6 x228 x232 x233 x377)
def f_coverage_Of_j5 (x228 : List (Int × Int)) (x232 : List api_Span) (x233 : Int) (x314 : List Int) (x319 : List Int) : Option ((List api_Span)) := f_coverage_Of_l3 x228 x232 x233 ((((x232.length : Int) : Int) - (0)).toNat + 1) x319 0
def f_coverage_Of_l2 (x228 : List (Int × Int)) (x232 : List api_Span) (x233 : Int) : Nat → List Int → List Int → Option ((List api_Span))
  | 0, _, _ => none
  | k296 + 1, x288, x293 => if (List.isEmpty x288) = true then (f_coverage_Of_j5 x228 x232 x233 x288 x293) else (anyOf x288 fun k301 => ck (fits (x293.length + [k301, (IntKind.wrap .i64 (k301 + 1))].length) 8 = true) <| f_coverage_Of_l2 x228 x232 x233 k296 (without x288 k301) (x293 ++ [k301, (IntKind.wrap .i64 (k301 + 1))]))
def f_coverage_Of_j4 (x228 : List (Int × Int)) (x232 : List api_Span) (x233 : Int) : Option ((List api_Span)) := f_coverage_Of_l2 x228 x232 x233 ((x228.map (·.1)).length + 1) (x228.map (·.1)) [1]
def f_coverage_Of_j3 (x217 : List (Int × Int)) (x221 : List api_Span) (x222 : Int) : Option ((List api_Span)) := f_coverage_Of_j4 x217 x221 x222
def f_coverage_Of_j2 (z2 : Int) (x199 : List (Int × Int)) (x203 : List api_Span) (x204 : Int) : Option ((List api_Span)) := if (decide (z2 ≤ 1073741824)) = true then (f_coverage_Of_j3 x199 x203 (max x204 z2)) else (f_coverage_Of_j3 x199 x203 x204)
def f_coverage_Of_l1 (z0 : (List api_Event)) (z1 : Int) (z2 : Int) : Nat → List (Int × Int) → List api_Span → Int → Int → Option ((List api_Span))
  | 0, _, _, _, _ => none
  | k149 + 1, x140, x144, x145, x146 => if (decide (x146 < (z0.length : Int))) = true then ((at_ z0 x146).bind fun el163 => if (el163.Boot != z1) = true then (f_coverage_Of_l1 z0 z1 z2 k149 x140 x144 x145 (IntKind.wrap .i64 (x146 + 1))) else (if (decide (el163.Serial < 1)) = true then (f_coverage_Of_l1 z0 z1 z2 k149 x140 x144 x145 (IntKind.wrap .i64 (x146 + 1))) else (if (decide (el163.Serial > 1073741824)) = true then (f_coverage_Of_l1 z0 z1 z2 k149 x140 x144 x145 (IntKind.wrap .i64 (x146 + 1))) else ((f_assemble_Complete el163).bind fun y179 => if y179 = true then (f_coverage_Of_j1 x144 x145 x146 el163 (f_coverage_Of_l1 z0 z1 z2 k149) (mset x140 el163.Serial 1)) else (if (((mget x140 el163.Serial).getD 0) == 0) = true then (f_coverage_Of_j1 x144 x145 x146 el163 (f_coverage_Of_l1 z0 z1 z2 k149) (mset x140 el163.Serial 2)) else (f_coverage_Of_j1 x144 x145 x146 el163 (f_coverage_Of_l1 z0 z1 z2 k149) x140)))))) else (f_coverage_Of_j2 z2 x140 x144 x145)
def f_coverage_Of (z0 : (List api_Event)) (z1 : Int) (z2 : Int) : Option ((List api_Span)) := f_coverage_Of_l1 z0 z1 z2 ((((z0.length : Int) : Int) - (0)).toNat + 1) ([] : List (Int × Int)) ([] : List api_Span) 0 0
set_option maxHeartbeats 4000000 in
set_option maxRecDepth 100000 in
theorem C29 (z0 : (List api_Event)) (z1 : Int) (z2 : Int) (p1 : Option Addr) (m2 : Nat) (c3 : Nat) (r : (List api_Span)) (h : f_coverage_Of z0 z1 z2 = some r) : FunG Tryd.prog 29 #[.slice p1 m2 c3, .int .i64 z1, .int .i64 z2] [vw (kSlice 58 k_api_Event) z0 [.slice p1 m2 c3], g_pow10, g_kinds] [] (fun t : (Option Addr × Nat × Nat) => .slice t.1 t.2.1 t.2.2) (fun t => []) (fun t => [[row 46 k_api_Span r (.slice t.1 t.2.1 t.2.2)]]) := by
  unfold f_coverage_Of at h
  refine t_begin (args := [.slice p1 m2 c3, .int .i64 z1, .int .i64 z2]) Tryd.func29 rfl Tryd.ntmps29 rfl fun c R hR => ?_
  have hQ : ∀ X, X = r → ∀ w2 (t : (Option Addr × Nat × Nat)), PostG c.w0 w2 c.M c.Y [] [[row 46 k_api_Span X (.slice t.1 t.2.1 t.2.2)]] → R (.returned (.slice t.1 t.2.1 t.2.2)) w2 := fun X e => by subst e; exact hR
  refine t_seq fun K4 hK5 => ?_
  refine t_region ?_
  refine c_p (r_as rfl) rfl ?_
  refine t_nil ?_
  refine t_then hK5 ?_
  refine t_seq fun K6 hK7 => ?_
  have J234 : ∀ (g226 : Nat) (g227 : Nat) (x228 : List (Int × Int)) (p229 : Option Addr) (m230 : Nat) (c231 : Nat) (x232 : List api_Span) (x233 : Int), f_coverage_Of_j4 x228 x232 x233 = some r → T 100 c [g_pow10, g_kinds] [[mp (kInt .i64) g227 x228], [row 46 k_api_Span x232 (.slice p229 m230 c231)], [blk g226 [.map (some g227), .slice p229 m230 c231, .int .i64 x233] 63]] [(7, .pointer (some ⟨g226, 0, none⟩))] K6 := by
    intro g226 g227 x228 p229 m230 c231 x232 x233 h235
    unfold f_coverage_Of_j4 at h235
    refine ti hK7 ?_
    refine t_seq fun K236 hK237 => ?_
    refine t_region ?_
    refine nx (t_bs (ps := [(0, .int .i64 1)]) (cs := [.int .i64 1]) Tryd.underlying49 ti3 rfl rfl (by kernel_rfl) rfl fun g238 => ?_)
    refine c_p (r_as rfl) rfl ?_
    refine t_nil ?_
    refine t_then hK237 ?_
    refine t_seq fun K239 hK240 => ?_
    have J320 : ∀ (g313 : Nat) (x314 : List Int) (o315 : Option Int) (p316 : Option Addr) (m317 : Nat) (c318 : Nat) (x319 : List Int), f_coverage_Of_j5 x228 x232 x233 x314 x319 = some r → T 100 c [g_pow10, g_kinds] [[mpi (kInt .i64) g227 g313 x228 x314 o315], [row 46 k_api_Span x232 (.slice p229 m230 c231)], [blk g226 [.map (some g227), .slice p229 m230 c231, .int .i64 x233] 63], [row 3 (kInt .i64) x319 (.slice p316 m317 c318)]] [(7, .pointer (some ⟨g226, 0, none⟩)), (8, .slice p316 m317 c318)] K239 := by
      intro g313 x314 o315 p316 m317 c318 x319 h321
      unfold f_coverage_Of_j5 at h321
      refine ti hK240 ?_
      refine t_seq fun K322 hK323 => ?_
      have J405 : ∀ (p401 : Option Addr) (m402 : Nat) (c403 : Nat) (x404 : List Int), f_coverage_Of_j6 x228 x232 x233 x404 = some r → T 100 c [g_pow10, g_kinds] [[mpi (kInt .i64) g227 g313 x228 x314 o315], [row 46 k_api_Span x232 (.slice p229 m230 c231)], [blk g226 [.map (some g227), .slice p229 m230 c231, .int .i64 x233] 63], [row 3 (kInt .i64) x404 (.slice p401 m402 c403)]] [(7, .pointer (some ⟨g226, 0, none⟩)), (8, .slice p401 m402 c403)] K322 := by
        intro p401 m402 c403 x404 h406
        unfold f_coverage_Of_j6 at h406
        refine ti hK323 ?_
        refine t_seq fun K407 hK408 => ?_
        refine t_region ?_
        refine c_p (r_mv rfl) rfl ?_
        obtain ⟨y409, hy409, h406⟩ := bs h406
        refine nx (t_ca (C35 _ _ _ _ _ hy409) Tryd.func35 nm35 rfl rfl rfl (.cons e3 .nil) (fun w Z hA => V0) rfl fun t410 => ?_)
        refine t_nil ?_
        refine t_then hK408 ?_
        refine t_seq fun K411 hK412 => ?_
        refine t_region ?_
        refine c_p (r_mv rfl) rfl ?_
        obtain ⟨y413, hy413, h406⟩ := bs h406
        refine nx (t_ca (C36 _ _ _ _ _ hy413) Tryd.func36 nm36 rfl rfl rfl (.cons e0 .nil) (fun w Z hA => V0) rfl fun t414 => ?_)
        refine c_p (r_as rfl) rfl ?_
        refine t_nil ?_
        refine t_then hK412 ?_
        refine t_seq fun K415 hK416 => ?_
        refine t_region ?_
        refine c_p (r_as rfl) rfl ?_
        refine t_nil ?_
        refine t_then hK416 ?_
        refine t_seq fun K417 hK418 => ?_
        have J1001 : ∀ (p997 : Option Addr) (m998 : Nat) (c999 : Nat) (x1000 : List api_Span), f_coverage_Of_j12 x1000 = some r → T 100 c [g_pow10, g_kinds] [[row 46 k_api_Span x1000 (.slice p997 m998 c999)]] [(12, .slice p997 m998 c999)] K417 := by
          intro p997 m998 c999 x1000 h1002
          unfold f_coverage_Of_j12 at h1002
          refine ti hK418 ?_
          refine t_seq fun K1003 hK1004 => ?_
          refine t_region ?_
          refine c_p (r_mv rfl) rfl ?_
          obtain ⟨y1005, hy1005, h1002⟩ := bs h1002
          refine nx (t_cf (C23 _ _ _ _ _ hy1005) (fun _ => (flat_cons (indK_slice 46 k_api_Span_indK) flat_nil)) Tryd.func23 nm23 rfl rfl rfl .nil (fun w Z S hA hL => (FL a0 hL (F1 a0 hA (F1 a1 hA F0)))) rfl fun t1006 => ?_)
          refine c_p (r_as rfl) rfl ?_
          refine t_nil ?_
          refine t_then hK1004 ?_
          refine t_ret ?_
          exact ret1 rfl (v_t rfl) (t_leave (hQ _ (Option.some.inj h1002)) (t1006.1, t1006.2.1, t1006.2.2) rfl (fun w Z hA => V0) (.cons e0 .nil))
        refine t_seq fun K419 hK420 => ?_
        refine t_region ?_
        refine c_p (r_mv rfl) rfl ?_
        refine c_s (r_lnL a0 Tryd.underlying49 rfl) rfl ?_
        refine c_p (r_mv rfl) rfl ?_
        refine t_nil ?_
        refine t_then hK420 ?_
        refine t_block ?_
        refine t_me e1 ?_
        refine t_nr 46 k_api_Span ?_
        refine t_lp fun k801 hk802 => ?_
        have LP808 : ∀ (k810 : Nat) (p803 : Option Addr) (m804 : Nat) (c805 : Nat) (x806 : List api_Span) (x807 : Int), f_coverage_Of_l4 x228 x232 x233 y413 k810 x806 x807 = some r → T 100 c [g_pow10, g_kinds] [[mp (kInt .i64) g227 x228], [row 46 k_api_Span x232 (.slice p229 m230 c231)], [blk g226 [.map (some g227), .slice p229 m230 c231, .int .i64 x233] 63], [row 3 (kInt .i64) y413 (.slice t414.1 t414.2.1 t414.2.2)], [row 46 k_api_Span x806 (.slice p803 m804 c805)]] [(7, .pointer (some ⟨g226, 0, none⟩)), (8, .slice t414.1 t414.2.1 t414.2.2), (12, .slice p803 m804 c805), (55, .slice t414.1 t414.2.1 t414.2.2), (56, .int .i64 (y413.length : Int)), (57, .int .i64 x807)] k801 := by
          intro k810
          induction k810 with
          | zero => intro p803 m804 c805 x806 x807 h809; rewrite [f_coverage_Of_l4] at h809; cases h809
          | succ k810 ih811 =>
            intro p803 m804 c805 x806 x807 h809
            rewrite [f_coverage_Of_l4] at h809
            refine ti hk802 ?_
            refine t_seq fun K812 hK813 => ?_
            refine t_region ?_
            refine c_p (r_i rfl rfl rfl) rfl ?_
            refine t_nil ?_
            refine t_then hK813 ?_
            refine t_seq fun K814 hK815 => ?_
            rcases Bool.eq_false_or_eq_true (decide (x807 < (y413.length : Int))) with hb816 | hb816
            · replace h809 := itT hb816 h809
              refine t_T rfl hb816 ?_
              refine t_skip ?_
              refine t_then hK815 ?_
              refine t_seq fun K817 hK818 => ?_
              refine t_block ?_
              refine t_seq fun K819 hK820 => ?_
              refine t_region ?_
              refine c_p (r_mv rfl) rfl ?_
              obtain ⟨el824, hel824, h809⟩ := bs h809
              refine t_qL a3 hel824 fun q821 hq822 hm823 => ?_
              refine c_p (r_idx hq822 hm823 hel824 Tryd.underlying49 ti3 rfl rfl) rfl ?_
              refine t_oI (opensO_int .i64) e3 hel824 fun t825 => ?_
              refine c_s (r_h1 a0 hq822 Tryd.underlying3 rfl rfl rfl) rfl ?_
              refine nx (t_al (cs := [.int .i64 0]) ti3 rfl rfl fun g826 => ?_)
              refine c_p (r_as rfl) rfl ?_
              refine nx (t_st u0 ti3 rfl rfl rfl rfl rfl (.t (.s .z)) ?_)
              refine t_nil ?_
              refine t_then hK820 ?_
              refine t_seq fun K827 hK828 => ?_
              refine t_region ?_
              refine c_p (r_fa (off' := 2) Tryd.underlying63 rfl ti3 rfl rfl) rfl ?_
              refine c_s (r_ld a4 Tryd.underlying3 rfl rfl rfl) rfl ?_
              refine c_p (r_as rfl) rfl ?_
              refine t_nil ?_
              refine t_then hK828 ?_
              refine t_seq fun K829 hK830 => ?_
              have J840 : ∀ (x839 : Int), f_coverage_Of_j7 x228 x232 x806 x807 el824 (f_coverage_Of_l4 x228 x232 x233 y413 k810) x839 = some r → T 100 c [g_pow10, g_kinds] [[mp (kInt .i64) g227 x228], [row 46 k_api_Span x232 (.slice p229 m230 c231)], [blk g226 [.map (some g227), .slice p229 m230 c231, .int .i64 x233] 63], [row 3 (kInt .i64) y413 (.slice t414.1 t414.2.1 t414.2.2)], [row 46 k_api_Span x806 (.slice p803 m804 c805)], [blk g826 [.int .i64 el824] 3]] [(7, .pointer (some ⟨g226, 0, none⟩)), (8, .slice t414.1 t414.2.1 t414.2.2), (12, .slice p803 m804 c805), (14, .pointer (some ⟨g826, 0, none⟩)), (15, .int .i64 x839), (55, .slice t414.1 t414.2.1 t414.2.2), (56, .int .i64 (y413.length : Int)), (57, .int .i64 x807)] K829 := by
                intro x839 h841
                unfold f_coverage_Of_j7 at h841
                refine ti hK830 ?_
                refine t_seq fun K842 hK843 => ?_
                refine t_seq fun K844 hK845 => ?_
                refine t_region ?_
                refine c_s (r_ld a5 Tryd.underlying3 rfl rfl rfl) rfl ?_
                refine c_p (r_mv rfl) rfl ?_
                refine c_p (r_i rfl rfl rfl) rfl ?_
                refine t_nil ?_
                refine t_then hK845 ?_
                rcases Bool.eq_false_or_eq_true (decide (el824 > x839)) with hb846 | hb846
                · replace h841 := itT hb846 h841
                  refine t_T rfl hb846 ?_
                  refine t_exit ?_
                  refine te (be rfl (te (te (bx ?_))))
                  exact t_norm (t_go (J1001 p803 m804 c805 x806 h841) ⟨rfl, trivial⟩ (.cons e4 .nil) (fun w Z hA => V1 a0 hA (V1 a1 hA (V0))))
                · replace h841 := itF hb846 h841
                  refine t_F rfl hb846 ?_
                  refine t_skip ?_
                  refine t_then hK843 ?_
                  refine t_seq fun K847 hK848 => ?_
                  refine t_region ?_
                  refine c_p (r_fa (off' := 0) Tryd.underlying63 rfl ti61 rfl rfl) rfl ?_
                  refine c_s (r_ld a2 Tryd.underlying61 rfl rfl rfl) rfl ?_
                  refine c_s (r_ld a5 Tryd.underlying3 rfl rfl rfl) rfl ?_
                  refine c_s (r_ml (Value.int .i64) 0 a0 Tryd.underlying61 Tryd.underlying3 ti3 vf_int rfl rfl) rfl ?_
                  refine c_p (r_as rfl) rfl ?_
                  refine t_nil ?_
                  refine t_then hK848 ?_
                  refine t_seq fun K849 hK850 => ?_
                  have J992 : ∀ (x991 : Int), f_coverage_Of_j11 x806 x807 el824 x839 (f_coverage_Of_l4 x228 x232 x233 y413 k810) x991 = some r → T 100 c [g_pow10, g_kinds] [[mp (kInt .i64) g227 x228], [row 46 k_api_Span x232 (.slice p229 m230 c231)], [blk g226 [.map (some g227), .slice p229 m230 c231, .int .i64 x233] 63], [row 3 (kInt .i64) y413 (.slice t414.1 t414.2.1 t414.2.2)], [row 46 k_api_Span x806 (.slice p803 m804 c805)], [blk g826 [.int .i64 el824] 3]] [(7, .pointer (some ⟨g226, 0, none⟩)), (8, .slice t414.1 t414.2.1 t414.2.2), (12, .slice p803 m804 c805), (14, .pointer (some ⟨g826, 0, none⟩)), (15, .int .i64 x839), (16, .int .i64 x991), (55, .slice t414.1 t414.2.1 t414.2.2), (56, .int .i64 (y413.length : Int)), (57, .int .i64 x807)] K849 := by
                    intro x991 h993
                    unfold f_coverage_Of_j11 at h993
                    refine ti hK850 ?_
                    refine t_region ?_
                    refine c_p (r_mv rfl) rfl ?_
                    refine c_s (r_ld a5 Tryd.underlying3 rfl rfl rfl) rfl ?_
                    refine c_p (r_mv rfl) rfl ?_
                    refine c_p (r_mv rfl) rfl ?_
                    refine c_p (r_bu (ps := [(0, .int .i64 el824), (1, .int .i64 x839), (2, .int .i64 x991)]) (cs := [.int .i64 el824, .int .i64 x839, .int .i64 x991]) rfl (by kernel_rfl)) rfl ?_
                    refine nx (t_bs (ps := [(0, .agg #[.int .i64 el824, .int .i64 x839, .int .i64 x991])]) (cs := [.int .i64 el824, .int .i64 x839, .int .i64 x991]) Tryd.underlying23 ti46 rfl rfl (by kernel_rfl) rfl fun g994 => ?_)
                    obtain ⟨hc995, h993⟩ := ck_out h993
                    refine nx (t_app (Kd := k_api_Span) (xs := x806) (ys := [(⟨el824, x839, x991⟩ : api_Span)]) (.cons e5 .nil) rfl rfl Tryd.underlying23 Tryd.underlying23 ti46 rfl rfl hc995 (srcB a0 (fun w Z S hA hN => flat_EO (S := Nil) k_api_Span_flatK (er1 (c1 := [.int .i64 el824, .int .i64 x839, .int .i64 x991]) (k_api_Span_shuts (x := (⟨el824, x839, x991⟩ : api_Span)) (t := ()) trivial) er0))) rfl fun t996 => ?_)
                    refine c_p (r_as rfl) rfl ?_
                    refine t_nil ?_
                    refine t_blockN ?_
                    refine t_then hK818 ?_
                    refine t_region ?_
                    refine c_p (r_i rfl rfl rfl) rfl ?_
                    refine c_p (r_mv rfl) rfl ?_
                    refine t_nil ?_
                    exact t_norm (t_go (ih811 t996.1 t996.2.1 t996.2.2 (x806 ++ [(⟨el824, x839, x991⟩ : api_Span)]) (IntKind.wrap .i64 (x807 + 1)) h993) ⟨rfl, rfl, rfl, rfl, rfl, rfl, trivial⟩ (.cons e2 (.cons e2 (.cons e2 (.cons e2 (.cons e0 .nil))))) (fun w Z hA => V1 a0 hA (V1 a1 hA (V0))))
                  refine t_seq fun K851 hK852 => ?_
                  refine t_region ?_
                  refine c_p (r_mv rfl) rfl ?_
                  refine c_p (r_i rfl rfl rfl) rfl ?_
                  refine t_nil ?_
                  refine t_then hK852 ?_
                  rcases Bool.eq_false_or_eq_true (((mget x228 el824).getD 0) == 0) with hb853 | hb853
                  · replace h841 := itT hb853 h841
                    refine t_T rfl hb853 ?_
                    refine t_seq fun K854 hK855 => ?_
                    refine t_region ?_
                    refine c_p (r_as rfl) rfl ?_
                    refine t_nil ?_
                    refine t_then hK855 ?_
                    refine t_seq fun K856 hK857 => ?_
                    refine t_region ?_
                    refine c_p (r_fa (off' := 1) Tryd.underlying63 rfl ti23 rfl rfl) rfl ?_
                    refine c_s (r_ld a2 Tryd.underlying23 rfl rfl rfl) rfl ?_
                    refine c_p (r_mf (vs := [.pointer (some ⟨g826, 0, none⟩)]) rfl) rfl ?_
                    refine nx (t_in (args := [.slice p229 m230 c231, .func (.func 38) #[] #[.pointer (some ⟨g826, 0, none⟩)]]) (cap := []) (all := [.slice p229 m230 c231, .func (.func 38) #[] #[.pointer (some ⟨g826, 0, none⟩)]]) rfl rfl Tryd.func37 nm37 rfl rfl rfl Tryd.ntmps37 rfl fun R858 k859 hk860 hR861 => ?_)
                    have J988 : ∀ (x987 : Bool), f_coverage_Of_j10 x806 x807 el824 x839 (f_coverage_Of_l4 x228 x232 x233 y413 k810) x987 = some r → T 100 c [g_pow10, g_kinds] [[mp (kInt .i64) g227 x228], [row 46 k_api_Span x232 (.slice p229 m230 c231)], [blk g226 [.map (some g227), .slice p229 m230 c231, .int .i64 x233] 63], [row 3 (kInt .i64) y413 (.slice t414.1 t414.2.1 t414.2.2)], [row 46 k_api_Span x806 (.slice p803 m804 c805)], [blk g826 [.int .i64 el824] 3]] [(7, .pointer (some ⟨g226, 0, none⟩)), (8, .slice t414.1 t414.2.1 t414.2.2), (12, .slice p803 m804 c805), (14, .pointer (some ⟨g826, 0, none⟩)), (15, .int .i64 x839), (16, .int .i64 4), (55, .slice t414.1 t414.2.1 t414.2.2), (56, .int .i64 (y413.length : Int)), (57, .int .i64 x807), (89, .bool x987)] k859 := by
                      intro x987 h989
                      unfold f_coverage_Of_j10 at h989
                      refine ti hk860 ?_
                      refine t_nil ?_
                      refine t_then hK857 ?_
                      rcases Bool.eq_false_or_eq_true x987 with hb990 | hb990
                      · replace h989 := itT hb990 h989
                        refine t_T rfl hb990 ?_
                        refine t_region ?_
                        refine c_p (r_as rfl) rfl ?_
                        refine t_nil ?_
                        exact t_norm (t_go (J992 3 h989) ⟨rfl, rfl, rfl, rfl, rfl, rfl, rfl, rfl, rfl, trivial⟩ (.cons e0 (.cons e0 (.cons e0 (.cons e0 (.cons e0 (.cons e0 .nil)))))) (fun w Z hA => V1 a0 hA (V1 a1 hA (V0))))
                      · replace h989 := itF hb990 h989
                        refine t_F rfl hb990 ?_
                        refine t_skip ?_
                        exact t_norm (t_go (J992 4 h989) ⟨rfl, rfl, rfl, rfl, rfl, rfl, rfl, rfl, rfl, trivial⟩ (.cons e0 (.cons e0 (.cons e0 (.cons e0 (.cons e0 (.cons e0 .nil)))))) (fun w Z hA => V1 a0 hA (V1 a1 hA (V0))))
                    refine t_seq fun K862 hK863 => ?_
                    refine t_region ?_
                    refine c_p (r_as rfl) rfl ?_
                    refine t_nil ?_
                    refine t_then hK863 ?_
                    refine t_seq fun K864 hK865 => ?_
                    refine t_region ?_
                    refine c_p (r_mv rfl) rfl ?_
                    refine c_p (r_mv rfl) rfl ?_
                    refine nx (t_in (args := [.slice p229 m230 c231, .func (.func 38) #[] #[.pointer (some ⟨g826, 0, none⟩)]]) (cap := []) (all := [.slice p229 m230 c231, .func (.func 38) #[] #[.pointer (some ⟨g826, 0, none⟩)]]) rfl rfl Tryd.func53 nm53 rfl rfl rfl Tryd.ntmps53 rfl fun R866 k867 hk868 hR869 => ?_)
                    have J985 : ∀ (x984 : Int), f_coverage_Of_j9 x806 x807 el824 x839 (f_coverage_Of_l4 x228 x232 x233 y413 k810) x984 = some r → T 9 c [g_pow10, g_kinds] [[mp (kInt .i64) g227 x228], [row 46 k_api_Span x232 (.slice p229 m230 c231)], [blk g226 [.map (some g227), .slice p229 m230 c231, .int .i64 x233] 63], [row 3 (kInt .i64) y413 (.slice t414.1 t414.2.1 t414.2.2)], [row 46 k_api_Span x806 (.slice p803 m804 c805)], [blk g826 [.int .i64 el824] 3]] [(4, .bool false), (7, .int .i64 x984)] k867 := by
                      intro x984 h986
                      unfold f_coverage_Of_j9 at h986
                      refine ti hk868 ?_
                      refine c_p (r_i rfl rfl rfl) rfl ?_
                      refine c_p (r_as rfl) rfl ?_
                      refine t_nil ?_
                      refine t_then hK865 ?_
                      refine t_ret ?_
                      refine ret1 rfl (v_t rfl) (t_bk hR861 ?_)
                      exact t_go (J988 (decide (x984 ≥ 0)) h986) ⟨rfl, rfl, rfl, rfl, rfl, rfl, rfl, rfl, rfl, rfl, trivial⟩ (.cons e0 (.cons e0 (.cons e0 (.cons e0 (.cons e0 (.cons e0 .nil)))))) (fun w Z hA => V1 a0 hA (V1 a1 hA (V0)))
                    refine t_seq fun K870 hK871 => ?_
                    refine t_region ?_
                    refine c_p (r_as rfl) rfl ?_
                    refine t_nil ?_
                    refine t_then hK871 ?_
                    refine t_seq fun K872 hK873 => ?_
                    refine t_seq fun K874 hK875 => ?_
                    refine t_region ?_
                    refine c_p (r_mv rfl) rfl ?_
                    refine c_s (r_lnL a1 Tryd.underlying23 rfl) rfl ?_
                    refine c_p (r_mv rfl) rfl ?_
                    refine t_nil ?_
                    refine t_then hK875 ?_
                    refine t_block ?_
                    refine t_lp fun k942 hk943 => ?_
                    have LP945 : ∀ (k947 : Nat) (x944 : Int), f_coverage_Of_l5 x232 x806 x807 el824 x839 (f_coverage_Of_l4 x228 x232 x233 y413 k810) k947 x944 = some r → T 19 c [g_pow10, g_kinds] [[row 46 k_api_Span x232 (.slice p229 m230 c231)], [blk g826 [.int .i64 el824] 3], [mp (kInt .i64) g227 x228], [blk g226 [.map (some g227), .slice p229 m230 c231, .int .i64 x233] 63], [row 3 (kInt .i64) y413 (.slice t414.1 t414.2.1 t414.2.2)], [row 46 k_api_Span x806 (.slice p803 m804 c805)]] [(0, .slice p229 m230 c231), (1, .func (.func 38) #[] #[.pointer (some ⟨g826, 0, none⟩)]), (7, .int .i64 (x232.length : Int)), (8, .int .i64 x944)] k942 := by
                      intro k947
                      induction k947 with
                      | zero => intro x944 h946; rewrite [f_coverage_Of_l5] at h946; cases h946
                      | succ k947 ih948 =>
                        intro x944 h946
                        rewrite [f_coverage_Of_l5] at h946
                        refine ti hk943 ?_
                        refine t_seq fun K949 hK950 => ?_
                        refine t_region ?_
                        refine c_p (r_i rfl rfl rfl) rfl ?_
                        refine t_nil ?_
                        refine t_then hK950 ?_
                        refine t_seq fun K951 hK952 => ?_
                        rcases Bool.eq_false_or_eq_true (decide (x944 < (x232.length : Int))) with hb953 | hb953
                        · replace h946 := itT hb953 h946
                          refine t_T rfl hb953 ?_
                          refine t_skip ?_
                          refine t_then hK952 ?_
                          refine t_seq fun K954 hK955 => ?_
                          refine t_block ?_
                          refine t_seq fun K956 hK957 => ?_
                          refine t_region ?_
                          refine c_p (r_mv rfl) rfl ?_
                          refine c_p (r_as rfl) rfl ?_
                          refine t_nil ?_
                          refine t_then hK957 ?_
                          refine t_seq fun K958 hK959 => ?_
                          refine t_region ?_
                          refine c_p (r_mv rfl) rfl ?_
                          refine c_p (r_mv rfl) rfl ?_
                          refine c_p (r_mv rfl) rfl ?_
                          obtain ⟨el963, hel963, h946⟩ := bs h946
                          refine t_qL a0 hel963 fun q960 hq961 hm962 => ?_
                          refine c_p (r_idx hq961 hm962 hel963 Tryd.underlying23 ti46 rfl rfl) rfl ?_
                          refine t_oI k_api_Span_opensO e0 hel963 fun t964 => ?_
                          refine c_s (r_hA a0 hq961 Tryd.underlying46 rfl ti46 rfl rfl) rfl ?_
                          refine nx (t_in (args := [.agg #[.int .i64 el963.From, .int .i64 el963.To, .int .i64 el963.Kind]]) (cap := [.pointer (some ⟨g826, 0, none⟩)]) (all := [.agg #[.int .i64 el963.From, .int .i64 el963.To, .int .i64 el963.Kind], .pointer (some ⟨g826, 0, none⟩)]) rfl rfl Tryd.func38 nm38 rfl rfl rfl Tryd.ntmps38 rfl fun R965 k966 hk967 hR968 => ?_)
                          have J976 : ∀ (x975 : Bool), f_coverage_Of_j8 x806 x807 el824 x839 x944 (f_coverage_Of_l4 x228 x232 x233 y413 k810) (f_coverage_Of_l5 x232 x806 x807 el824 x839 (f_coverage_Of_l4 x228 x232 x233 y413 k810) k947) x975 = some r → T 19 c [g_pow10, g_kinds] [[hole 46 k_api_Span x232 x944.toNat [.int .i64 el963.From, .int .i64 el963.To, .int .i64 el963.Kind] (.slice p229 m230 c231)], [blk g826 [.int .i64 el824] 3], [mp (kInt .i64) g227 x228], [blk g226 [.map (some g227), .slice p229 m230 c231, .int .i64 x233] 63], [row 3 (kInt .i64) y413 (.slice t414.1 t414.2.1 t414.2.2)], [row 46 k_api_Span x806 (.slice p803 m804 c805)]] [(0, .slice p229 m230 c231), (1, .func (.func 38) #[] #[.pointer (some ⟨g826, 0, none⟩)]), (5, .int .i64 x944), (7, .int .i64 (x232.length : Int)), (8, .int .i64 x944), (16, .bool x975)] k966 := by
                            intro x975 h977
                            unfold f_coverage_Of_j8 at h977
                            refine ti hk967 ?_
                            refine t_nil ?_
                            refine t_then hK959 ?_
                            rcases Bool.eq_false_or_eq_true x975 with hb978 | hb978
                            · replace h977 := itT hb978 h977
                              refine t_T rfl hb978 ?_
                              refine t_seq fun K979 hK980 => ?_
                              refine t_region ?_
                              refine c_p (r_mv rfl) rfl ?_
                              refine c_p (r_as rfl) rfl ?_
                              refine t_nil ?_
                              refine t_then hK980 ?_
                              refine t_ret ?_
                              refine br (tr (tr (br (tr (ret1 rfl (v_t rfl) (t_bk hR869 ?_))))))
                              refine t_cS (u := el963) (t := ()) k_api_Span_shutsO hel963 (.cons e0 .nil) rfl (fun w Z hA => trivial) ?_
                              exact t_go (J985 x944 h977) ⟨rfl, rfl, trivial⟩ (.cons e2 (.cons e0 (.cons e1 (.cons e1 (.cons e1 (.cons e0 .nil)))))) (fun w Z hA => V1 a0 hA (V1 a1 hA (V0)))
                            · replace h977 := itF hb978 h977
                              refine t_F rfl hb978 ?_
                              refine t_skip ?_
                              refine t_blockN ?_
                              refine t_then hK955 ?_
                              refine t_region ?_
                              refine c_p (r_i rfl rfl rfl) rfl ?_
                              refine c_p (r_mv rfl) rfl ?_
                              refine t_nil ?_
                              refine t_cS (u := el963) (t := ()) k_api_Span_shutsO hel963 (.cons e0 .nil) rfl (fun w Z hA => trivial) ?_
                              exact t_norm (t_go (ih948 (IntKind.wrap .i64 (x944 + 1)) h977) ⟨rfl, rfl, rfl, rfl, trivial⟩ (.cons e0 (.cons e0 (.cons e0 (.cons e0 (.cons e0 (.cons e0 .nil)))))) (fun w Z hA => V1 a0 hA (V1 a1 hA (V0))))
                          refine t_seq fun K969 hK970 => ?_
                          refine t_region ?_
                          refine nx (t_bx (cs := [.int .i64 el963.From, .int .i64 el963.To, .int .i64 el963.Kind]) rfl rfl rfl fun g971 => ?_)
                          refine c_p (r_as rfl) rfl ?_
                          refine t_nil ?_
                          refine t_then hK970 ?_
                          refine t_seq fun K972 hK973 => ?_
                          refine t_region ?_
                          refine c_p (r_fa (off' := 0) Tryd.underlying46 rfl ti3 rfl rfl) rfl ?_
                          refine c_s (r_ld a0 Tryd.underlying3 rfl rfl rfl) rfl ?_
                          refine c_s (r_ld a2 Tryd.underlying3 rfl rfl rfl) rfl ?_
                          refine c_p (r_i rfl rfl rfl) rfl ?_
                          refine c_p (r_mv rfl) rfl ?_
                          rcases Bool.eq_false_or_eq_true (decide (el963.From ≤ el824)) with hb974 | hb974
                          · replace h946 := itT hb974 h946
                            refine nx (gd rfl rfl hb974 (ss (r_ld a2 Tryd.underlying3 rfl rfl rfl) rfl ?_))
                            refine nx (gd rfl rfl hb974 (sp (r_fa (off' := 1) Tryd.underlying46 rfl ti3 rfl rfl) rfl ?_))
                            refine nx (gd rfl rfl hb974 (ss (r_ld a0 Tryd.underlying3 rfl rfl rfl) rfl ?_))
                            refine nx (gd rfl rfl hb974 (sp (r_i rfl rfl rfl) rfl ?_))
                            refine c_p (r_pT rfl hb974 rfl) rfl ?_
                            refine c_p (r_as rfl) rfl ?_
                            refine t_nil ?_
                            refine t_then hK973 ?_
                            refine t_ret ?_
                            refine ret1 rfl (v_t rfl) (t_bk hR968 ?_)
                            exact t_go (J976 (decide (el824 ≤ el963.To)) h946) ⟨rfl, rfl, rfl, rfl, rfl, rfl, trivial⟩ (.cons e1 (.cons e1 (.cons e1 (.cons e1 (.cons e1 (.cons e1 .nil)))))) (fun w Z hA => V1 a0 hA (V1 a1 hA (V0)))
                          · replace h946 := itF hb974 h946
                            refine nx (pass rfl rfl hb974 rfl ?_)
                            refine nx (pass rfl rfl hb974 rfl ?_)
                            refine nx (pass rfl rfl hb974 rfl ?_)
                            refine nx (pass rfl rfl hb974 rfl ?_)
                            refine c_p (r_pF rfl hb974 rfl) rfl ?_
                            refine c_p (r_as rfl) rfl ?_
                            refine t_nil ?_
                            refine t_then hK973 ?_
                            refine t_ret ?_
                            refine ret1 rfl (v_t rfl) (t_bk hR968 ?_)
                            exact t_go (J976 false h946) ⟨rfl, rfl, rfl, rfl, rfl, rfl, trivial⟩ (.cons e1 (.cons e1 (.cons e1 (.cons e1 (.cons e1 (.cons e1 .nil)))))) (fun w Z hA => V1 a0 hA (V1 a1 hA (V0)))
                        · replace h946 := itF hb953 h946
                          refine t_F rfl hb953 ?_
                          refine t_exit ?_
                          refine te (te (bx ?_))
                          refine t_then hK873 ?_
                          refine t_seq fun K981 hK982 => ?_
                          refine t_region ?_
                          refine c_p (r_as rfl) rfl ?_
                          refine t_nil ?_
                          refine t_then hK982 ?_
                          refine t_ret ?_
                          refine ret1 rfl (v_t rfl) (t_bk hR869 ?_)
                          exact t_go (J985 (-1) h946) ⟨rfl, rfl, trivial⟩ (.cons e2 (.cons e0 (.cons e1 (.cons e1 (.cons e1 (.cons e0 .nil)))))) (fun w Z hA => V1 a0 hA (V1 a1 hA (V0)))
                    exact t_go (LP945 ((((x232.length : Int) : Int) - (0)).toNat + 1) 0 h841) ⟨rfl, rfl, rfl, rfl, trivial⟩ (.cons e1 (.cons e4 (.cons e0 (.cons e0 (.cons e0 (.cons e0 .nil)))))) (fun w Z hA => V1 a0 hA (V1 a1 hA (V0)))
                  · replace h841 := itF hb853 h841
                    refine t_F rfl hb853 ?_
                    refine t_skip ?_
                    exact t_norm (t_go (J992 ((mget x228 el824).getD 0) h841) ⟨rfl, rfl, rfl, rfl, rfl, rfl, rfl, rfl, rfl, trivial⟩ (.cons e0 (.cons e0 (.cons e0 (.cons e0 (.cons e0 (.cons e0 .nil)))))) (fun w Z hA => V1 a0 hA (V1 a1 hA (V0))))
              refine t_seq fun K831 hK832 => ?_
              refine t_region ?_
              refine c_p (r_mv rfl) rfl ?_
              refine c_p (r_i rfl rfl rfl) rfl ?_
              refine c_p (r_mv rfl) rfl ?_
              refine c_s (r_lnH a1 Tryd.underlying49 rfl) rfl ?_
              refine c_p (r_i rfl rfl rfl) rfl ?_
              refine t_nil ?_
              refine t_then hK832 ?_
              rcases Bool.eq_false_or_eq_true (decide ((IntKind.wrap .i64 (x807 + 1)) < (y413.length : Int))) with hb833 | hb833
              · replace h809 := itT hb833 h809
                refine t_T rfl hb833 ?_
                refine t_region ?_
                refine c_p (r_mv rfl) rfl ?_
                refine c_p (r_mv rfl) rfl ?_
                refine c_p (r_mv rfl) rfl ?_
                refine c_p (r_i rfl rfl rfl) rfl ?_
                refine t_cS (u := el824) (t := ()) (shutsO_int .i64) hel824 (.cons e1 .nil) rfl (fun w Z hA => trivial) ?_
                obtain ⟨el837, hel837, h809⟩ := bs h809
                refine t_qL a0 hel837 fun q834 hq835 hm836 => ?_
                refine c_p (r_idx hq835 hm836 hel837 Tryd.underlying49 ti3 rfl rfl) rfl ?_
                refine t_oI (opensO_int .i64) e0 hel837 fun t838 => ?_
                refine c_s (r_h1 a0 hq835 Tryd.underlying3 rfl rfl rfl) rfl ?_
                refine c_p (r_i rfl rfl rfl) rfl ?_
                refine c_p (r_min rfl rfl) rfl ?_
                refine c_p (r_as rfl) rfl ?_
                refine t_nil ?_
                refine t_cS (u := el837) (t := ()) (shutsO_int .i64) hel837 (.cons e0 .nil) rfl (fun w Z hA => trivial) ?_
                exact t_norm (t_go (J840 (min x233 (IntKind.wrap .i64 (el837 - 1))) h809) ⟨rfl, rfl, rfl, rfl, rfl, rfl, rfl, rfl, trivial⟩ (.cons e2 (.cons e2 (.cons e2 (.cons e0 (.cons e1 (.cons e0 .nil)))))) (fun w Z hA => V1 a0 hA (V1 a1 hA (V0))))
              · replace h809 := itF hb833 h809
                refine t_F rfl hb833 ?_
                refine t_skip ?_
                refine t_cS (u := el824) (t := ()) (shutsO_int .i64) hel824 (.cons e1 .nil) rfl (fun w Z hA => trivial) ?_
                exact t_norm (t_go (J840 x233 h809) ⟨rfl, rfl, rfl, rfl, rfl, rfl, rfl, rfl, trivial⟩ (.cons e2 (.cons e2 (.cons e2 (.cons e0 (.cons e1 (.cons e0 .nil)))))) (fun w Z hA => V1 a0 hA (V1 a1 hA (V0))))
            · replace h809 := itF hb816 h809
              refine t_F rfl hb816 ?_
              refine t_exit ?_
              refine te (te (bx ?_))
              exact t_norm (t_go (J1001 p803 m804 c805 x806 h809) ⟨rfl, trivial⟩ (.cons e4 .nil) (fun w Z hA => V1 a0 hA (V1 a1 hA (V0))))
        exact t_go (LP808 ((((y413.length : Int) : Int) - (0)).toNat + 1) none 0 0 ([] : List api_Span) 0 h406) ⟨rfl, rfl, rfl, rfl, rfl, rfl, trivial⟩ (.cons e1 (.cons e2 (.cons e2 (.cons e1 (.cons e0 .nil))))) (fun w Z hA => V1 a0 hA (V1 a1 hA (V0)))
      refine t_seq fun K324 hK325 => ?_
      refine t_region ?_
      refine c_p (r_fa (off' := 1) Tryd.underlying63 rfl ti23 rfl rfl) rfl ?_
      refine c_s (r_ld a2 Tryd.underlying23 rfl rfl rfl) rfl ?_
      refine c_s (r_lnL a1 Tryd.underlying23 rfl) rfl ?_
      refine c_p (r_mv rfl) rfl ?_
      refine t_nil ?_
      refine t_then hK325 ?_
      refine t_block ?_
      refine t_lp fun k372 hk373 => ?_
      have LP379 : ∀ (k381 : Nat) (p374 : Option Addr) (m375 : Nat) (c376 : Nat) (x377 : List Int) (x378 : Int), f_coverage_Of_l3 x228 x232 x233 k381 x377 x378 = some r → T 100 c [g_pow10, g_kinds] [[mpi (kInt .i64) g227 g313 x228 x314 o315], [row 46 k_api_Span x232 (.slice p229 m230 c231)], [blk g226 [.map (some g227), .slice p229 m230 c231, .int .i64 x233] 63], [row 3 (kInt .i64) x377 (.slice p374 m375 c376)]] [(7, .pointer (some ⟨g226, 0, none⟩)), (8, .slice p374 m375 c376), (36, .slice p229 m230 c231), (37, .int .i64 (x232.length : Int)), (38, .int .i64 x378)] k372 := by
        intro k381
        induction k381 with
        | zero => intro p374 m375 c376 x377 x378 h380; rewrite [f_coverage_Of_l3] at h380; cases h380
        | succ k381 ih382 =>
          intro p374 m375 c376 x377 x378 h380
          rewrite [f_coverage_Of_l3] at h380
          refine ti hk373 ?_
          refine t_seq fun K383 hK384 => ?_
          refine t_region ?_
          refine c_p (r_i rfl rfl rfl) rfl ?_
          refine t_nil ?_
          refine t_then hK384 ?_
          refine t_seq fun K385 hK386 => ?_
          rcases Bool.eq_false_or_eq_true (decide (x378 < (x232.length : Int))) with hb387 | hb387
          · replace h380 := itT hb387 h380
            refine t_T rfl hb387 ?_
            refine t_skip ?_
            refine t_then hK386 ?_
            refine t_seq fun K388 hK389 => ?_
            refine t_block ?_
            refine t_seq fun K390 hK391 => ?_
            refine t_region ?_
            obtain ⟨el395, hel395, h380⟩ := bs h380
            refine t_qL a1 hel395 fun q392 hq393 hm394 => ?_
            refine c_p (r_idx hq393 hm394 hel395 Tryd.underlying23 ti46 rfl rfl) rfl ?_
            refine t_oI k_api_Span_opensO e1 hel395 fun t396 => ?_
            refine c_s (r_hA a0 hq393 Tryd.underlying46 rfl ti46 rfl rfl) rfl ?_
            refine nx (t_al (cs := [.int .i64 0, .int .i64 0, .int .i64 0]) ti46 rfl rfl fun g397 => ?_)
            refine nx (t_st u0 ti46 rfl rfl rfl rfl rfl (.t (.s (.s (.s .z)))) ?_)
            refine t_nil ?_
            refine t_then hK391 ?_
            refine t_region ?_
            refine c_p (r_mv rfl) rfl ?_
            refine c_p (r_fa (off' := 0) Tryd.underlying46 rfl ti3 rfl rfl) rfl ?_
            refine c_s (r_ld a0 Tryd.underlying3 rfl rfl rfl) rfl ?_
            refine c_p (r_fa (off' := 1) Tryd.underlying46 rfl ti3 rfl rfl) rfl ?_
            refine c_s (r_ld a0 Tryd.underlying3 rfl rfl rfl) rfl ?_
            refine c_p (r_i rfl rfl rfl) rfl ?_
            refine nx (t_bs (ps := [(0, .int .i64 el395.From), (1, .int .i64 (IntKind.wrap .i64 (el395.To + 1)))]) (cs := [.int .i64 el395.From, .int .i64 (IntKind.wrap .i64 (el395.To + 1))]) Tryd.underlying49 ti3 rfl rfl (by kernel_rfl) rfl fun g398 => ?_)
            obtain ⟨hc399, h380⟩ := ck_out h380
            refine nx (t_app (Kd := (kInt .i64)) (xs := x377) (ys := [el395.From, (IntKind.wrap .i64 (el395.To + 1))]) (.cons e5 .nil) rfl rfl Tryd.underlying49 Tryd.underlying49 ti3 rfl rfl hc399 (srcB a0 (fun w Z S hA hN => flat_EO (S := Nil) (flatK_int .i64) (er1 (c1 := [.int .i64 el395.From]) rfl (er1 (c1 := [.int .i64 (IntKind.wrap .i64 (el395.To + 1))]) rfl er0)))) rfl fun t400 => ?_)
            refine c_p (r_as rfl) rfl ?_
            refine t_nil ?_
            refine t_blockN ?_
            refine t_then hK389 ?_
            refine t_region ?_
            refine c_p (r_i rfl rfl rfl) rfl ?_
            refine c_p (r_mv rfl) rfl ?_
            refine t_nil ?_
            refine t_cS (u := el395) (t := ()) k_api_Span_shutsO hel395 (.cons e3 .nil) rfl (fun w Z hA => trivial) ?_
            exact t_norm (t_go (ih382 t400.1 t400.2.1 t400.2.2 (x377 ++ [el395.From, (IntKind.wrap .i64 (el395.To + 1))]) (IntKind.wrap .i64 (x378 + 1)) h380) ⟨rfl, rfl, rfl, rfl, rfl, trivial⟩ (.cons e4 (.cons e0 (.cons e3 (.cons e0 .nil)))) (fun w Z hA => V1 a0 hA (V1 a1 hA (V0))))
          · replace h380 := itF hb387 h380
            refine t_F rfl hb387 ?_
            refine t_exit ?_
            refine te (te (bx ?_))
            exact t_norm (t_go (J405 p374 m375 c376 x377 h380) ⟨rfl, rfl, trivial⟩ (.cons e0 (.cons e0 (.cons e0 (.cons e0 .nil)))) (fun w Z hA => V1 a0 hA (V1 a1 hA (V0))))
      exact t_go (LP379 ((((x232.length : Int) : Int) - (0)).toNat + 1) p316 m317 c318 x319 0 h321) ⟨rfl, rfl, rfl, rfl, rfl, trivial⟩ (.cons e0 (.cons e0 (.cons e0 (.cons e0 .nil)))) (fun w Z hA => V1 a0 hA (V1 a1 hA (V0)))
    refine t_seq fun K241 hK242 => ?_
    refine t_region ?_
    refine c_p (r_fa (off' := 0) Tryd.underlying63 rfl ti61 rfl rfl) rfl ?_
    refine c_s (r_ld a3 Tryd.underlying61 rfl rfl rfl) rfl ?_
    refine nx (t_rg e1 Tryd.underlying61 rfl rfl fun g243 => ?_)
    refine t_nil ?_
    refine t_then hK242 ?_
    refine t_block ?_
    refine t_tr (Kd := (kInt .i64)) (xs := [1]) (.cons e1 .nil) rfl (fun w Z S hA hN => flat_EO (S := Nil) (flatK_int .i64) (er1 (c1 := [.int .i64 1]) rfl er0)) ?_
    refine t_lp fun k286 hk287 => ?_
    have LP294 : ∀ (k296 : Nat) (x288 : List Int) (o289 : Option Int) (p290 : Option Addr) (m291 : Nat) (c292 : Nat) (x293 : List Int), f_coverage_Of_l2 x228 x232 x233 k296 x288 x293 = some r → T 100 c [g_pow10, g_kinds] [[mpi (kInt .i64) g227 g243 x228 x288 o289], [row 46 k_api_Span x232 (.slice p229 m230 c231)], [blk g226 [.map (some g227), .slice p229 m230 c231, .int .i64 x233] 63], [row 3 (kInt .i64) x293 (.slice p290 m291 c292)]] [(7, .pointer (some ⟨g226, 0, none⟩)), (8, .slice p290 m291 c292), (24, .pointer (some ⟨g243, 0, none⟩))] k286 := by
      intro k296
      induction k296 with
      | zero => intro x288 o289 p290 m291 c292 x293 h295; rewrite [f_coverage_Of_l2] at h295; cases h295
      | succ k296 ih297 =>
        intro x288 o289 p290 m291 c292 x293 h295
        rewrite [f_coverage_Of_l2] at h295
        refine ti hk287 ?_
        refine t_seq fun K298 hK299 => ?_
        refine t_region ?_
        rcases Bool.eq_false_or_eq_true (List.isEmpty x288) with hb300 | hb300
        · replace h295 := itT hb300 h295
          refine c_s (r_nx0 a0 hb300 rfl) rfl ?_
          refine c_p (r_ex rfl rfl) rfl ?_
          refine t_nil ?_
          refine t_then hK299 ?_
          refine t_seq fun K304 hK305 => ?_
          refine t_F rfl rfl ?_
          refine t_exit ?_
          refine te (te (bx ?_))
          exact t_norm (t_go (J320 g243 x288 o289 p290 m291 c292 x293 h295) ⟨rfl, rfl, trivial⟩ (.cons e0 (.cons e0 (.cons e0 (.cons e0 .nil)))) (fun w Z hA => V1 a0 hA (V1 a1 hA (V0))))
        · replace h295 := itF hb300 h295
          refine nx (t_nx e0 hb300 rfl rfl fun k301 v302 hm303 => ?_)
          replace h295 := anyOf_out h295 hm303
          refine c_p (r_ex rfl rfl) rfl ?_
          refine t_nil ?_
          refine t_then hK299 ?_
          refine t_seq fun K306 hK307 => ?_
          refine t_T rfl rfl ?_
          refine t_skip ?_
          refine t_then hK307 ?_
          refine t_block ?_
          refine t_seq fun K308 hK309 => ?_
          refine t_region ?_
          refine c_s (r_en (Value.int .i64) 0 a0 vf_int rfl) rfl ?_
          refine c_p (r_ex rfl rfl) rfl ?_
          refine c_p (r_as rfl) rfl ?_
          refine t_nil ?_
          refine t_then hK309 ?_
          refine t_region ?_
          refine c_p (r_mv rfl) rfl ?_
          refine c_p (r_mv rfl) rfl ?_
          refine c_p (r_mv rfl) rfl ?_
          refine c_p (r_i rfl rfl rfl) rfl ?_
          refine nx (t_bs (ps := [(0, .int .i64 k301), (1, .int .i64 (IntKind.wrap .i64 (k301 + 1)))]) (cs := [.int .i64 k301, .int .i64 (IntKind.wrap .i64 (k301 + 1))]) Tryd.underlying49 ti3 rfl rfl (by kernel_rfl) rfl fun g310 => ?_)
          obtain ⟨hc311, h295⟩ := ck_out h295
          refine nx (t_app (Kd := (kInt .i64)) (xs := x293) (ys := [k301, (IntKind.wrap .i64 (k301 + 1))]) (.cons e4 .nil) rfl rfl Tryd.underlying49 Tryd.underlying49 ti3 rfl rfl hc311 (srcB a0 (fun w Z S hA hN => flat_EO (S := Nil) (flatK_int .i64) (er1 (c1 := [.int .i64 k301]) rfl (er1 (c1 := [.int .i64 (IntKind.wrap .i64 (k301 + 1))]) rfl er0)))) rfl fun t312 => ?_)
          refine c_p (r_as rfl) rfl ?_
          refine t_nil ?_
          refine t_blockN ?_
          exact t_norm (t_go (ih297 (without x288 k301) (some k301) t312.1 t312.2.1 t312.2.2 (x293 ++ [k301, (IntKind.wrap .i64 (k301 + 1))]) h295) ⟨rfl, rfl, rfl, trivial⟩ (.cons e2 (.cons e2 (.cons e2 (.cons e0 .nil)))) (fun w Z hA => V1 a0 hA (V1 a1 hA (V0))))
    exact t_go (LP294 ((x228.map (·.1)).length + 1) (x228.map (·.1)) none (some ⟨g238, 0, none⟩) 1 1 [1] h235) ⟨rfl, rfl, rfl, trivial⟩ (.cons e1 (.cons e1 (.cons e1 (.cons e0 .nil)))) (fun w Z hA => V1 a0 hA (V1 a1 hA (V0)))
  refine t_region ?_
  refine c_p (r_mv rfl) rfl ?_
  refine c_p (r_mv rfl) rfl ?_
  refine c_p (r_mv rfl) rfl ?_
  refine nx (t_in (args := [.slice p1 m2 c3, .int .i64 z1, .int .i64 z2]) (cap := []) (all := [.slice p1 m2 c3, .int .i64 z1, .int .i64 z2]) rfl rfl Tryd.func34 nm34 rfl rfl rfl Tryd.ntmps34 rfl fun R8 k9 hk10 hR11 => ?_)
  have J223 : ∀ (g216 : Nat) (x217 : List (Int × Int)) (p218 : Option Addr) (m219 : Nat) (c220 : Nat) (x221 : List api_Span) (x222 : Int), f_coverage_Of_j3 x217 x221 x222 = some r → T 100 c [g_pow10, g_kinds] [[mp (kInt .i64) g216 x217], [row 46 k_api_Span x221 (.slice p218 m219 c220)]] [(20, .agg #[.map (some g216), .slice p218 m219 c220, .int .i64 x222])] k9 := by
    intro g216 x217 p218 m219 c220 x221 x222 h224
    unfold f_coverage_Of_j3 at h224
    refine ti hk10 ?_
    refine nx (t_al (cs := [.map none, .slice none 0 0, .int .i64 0]) ti63 rfl rfl fun g225 => ?_)
    refine nx (t_st u0 ti63 rfl rfl rfl rfl rfl (.t (.s (.s (.s .z)))) ?_)
    refine t_nil ?_
    exact t_norm (t_go (J234 g225 g216 x217 p218 m219 c220 x221 x222 h224) ⟨rfl, trivial⟩ (.cons e1 (.cons e1 (.cons e0 .nil))) (fun w Z hA => V1 a0 hA (V1 a1 hA (V0))))
  refine t_seq fun K12 hK13 => ?_
  refine t_region ?_
  refine nx (t_al (cs := [.map none, .slice none 0 0, .int .i64 0]) ti63 rfl rfl fun g14 => ?_)
  refine t_nil ?_
  refine t_then hK13 ?_
  refine t_seq fun K15 hK16 => ?_
  refine t_region ?_
  refine nx (t_mm (kInt .i64) rfl fun g17 => ?_)
  refine c_p (r_bu (ps := [(0, .map (some g17))]) (cs := [.map (some g17), .slice none 0 0, .int .i64 0]) rfl (by kernel_rfl)) rfl ?_
  refine nx (t_al (cs := [.map none, .slice none 0 0, .int .i64 0]) ti63 rfl rfl fun g18 => ?_)
  refine nx (t_st u0 ti63 rfl rfl rfl rfl rfl (.t (.s (.s (.s .z)))) ?_)
  refine t_nil ?_
  refine t_then hK16 ?_
  refine t_seq fun K19 hK20 => ?_
  have J205 : ∀ (x199 : List (Int × Int)) (p200 : Option Addr) (m201 : Nat) (c202 : Nat) (x203 : List api_Span) (x204 : Int), f_coverage_Of_j2 z2 x199 x203 x204 = some r → T 77 c [g_pow10, g_kinds] [[blk g14 [.map none, .slice none 0 0, .int .i64 0] 63], [mp (kInt .i64) g17 x199], [row 46 k_api_Span x203 (.slice p200 m201 c202)], [blk g18 [.map (some g17), .slice p200 m201 c202, .int .i64 x204] 63]] [(2, .int .i64 z2), (6, .pointer (some ⟨g14, 0, none⟩)), (7, .pointer (some ⟨g18, 0, none⟩))] K19 := by
    intro x199 p200 m201 c202 x203 x204 h206
    unfold f_coverage_Of_j2 at h206
    refine ti hK20 ?_
    refine t_seq fun K207 hK208 => ?_
    refine t_seq fun K209 hK210 => ?_
    refine t_region ?_
    refine c_p (r_mv rfl) rfl ?_
    refine c_p (r_i rfl rfl rfl) rfl ?_
    refine t_nil ?_
    refine t_then hK210 ?_
    rcases Bool.eq_false_or_eq_true (decide (z2 ≤ 1073741824)) with hb211 | hb211
    · replace h206 := itT hb211 h206
      refine t_T rfl hb211 ?_
      refine t_region ?_
      refine c_p (r_fa (off' := 2) Tryd.underlying63 rfl ti3 rfl rfl) rfl ?_
      refine c_s (r_ld a3 Tryd.underlying3 rfl rfl rfl) rfl ?_
      refine c_p (r_mv rfl) rfl ?_
      refine c_p (r_max rfl rfl) rfl ?_
      refine c_p (r_fa (off' := 2) Tryd.underlying63 rfl ti3 rfl rfl) rfl ?_
      refine nx (t_st u3 ti3 rfl rfl rfl rfl rfl (.s (.s (.t (.s .z)))) ?_)
      refine t_nil ?_
      refine t_then hK208 ?_
      refine t_seq fun K212 hK213 => ?_
      refine t_region ?_
      refine c_s (r_ldA a3 Tryd.underlying63 rfl ti63 rfl rfl) rfl ?_
      refine nx (t_st u0 ti63 rfl rfl rfl rfl rfl (.t (.s (.s (.s .z)))) ?_)
      refine t_nil ?_
      refine t_then hK213 ?_
      refine t_ret ?_
      refine ret1 rfl (v_N rfl a0 Tryd.underlying63 rfl ti63 rfl) (t_bk hR11 ?_)
      exact t_go (J223 g17 x199 p200 m201 c202 x203 (max x204 z2) h206) ⟨rfl, trivial⟩ (.cons e1 (.cons e1 .nil)) (fun w Z hA => V1 a0 hA (V1 a1 hA (V0)))
    · replace h206 := itF hb211 h206
      refine t_F rfl hb211 ?_
      refine t_skip ?_
      refine t_then hK208 ?_
      refine t_seq fun K214 hK215 => ?_
      refine t_region ?_
      refine c_s (r_ldA a3 Tryd.underlying63 rfl ti63 rfl rfl) rfl ?_
      refine nx (t_st u0 ti63 rfl rfl rfl rfl rfl (.t (.s (.s (.s .z)))) ?_)
      refine t_nil ?_
      refine t_then hK215 ?_
      refine t_ret ?_
      refine ret1 rfl (v_N rfl a0 Tryd.underlying63 rfl ti63 rfl) (t_bk hR11 ?_)
      exact t_go (J223 g17 x199 p200 m201 c202 x203 x204 h206) ⟨rfl, trivial⟩ (.cons e1 (.cons e1 .nil)) (fun w Z hA => V1 a0 hA (V1 a1 hA (V0)))
  refine t_seq fun K21 hK22 => ?_
  refine t_region ?_
  refine c_p (r_mv rfl) rfl ?_
  refine c_s (r_lnA a0 Tryd.underlying60 rfl) rfl ?_
  refine c_p (r_mv rfl) rfl ?_
  refine t_nil ?_
  refine t_then hK22 ?_
  refine t_block ?_
  refine t_nr 46 k_api_Span ?_
  refine t_lp fun k138 hk139 => ?_
  have LP147 : ∀ (k149 : Nat) (x140 : List (Int × Int)) (p141 : Option Addr) (m142 : Nat) (c143 : Nat) (x144 : List api_Span) (x145 : Int) (x146 : Int), f_coverage_Of_l1 z0 z1 z2 k149 x140 x144 x145 x146 = some r → T 77 c [vw (kSlice 58 k_api_Event) z0 [.slice p1 m2 c3], g_pow10, g_kinds] [[blk g14 [.map none, .slice none 0 0, .int .i64 0] 63], [mp (kInt .i64) g17 x140], [row 46 k_api_Span x144 (.slice p141 m142 c143)], [blk g18 [.map (some g17), .slice p141 m142 c143, .int .i64 x145] 63]] [(1, .int .i64 z1), (2, .int .i64 z2), (6, .pointer (some ⟨g14, 0, none⟩)), (7, .pointer (some ⟨g18, 0, none⟩)), (14, .slice p1 m2 c3), (15, .int .i64 (z0.length : Int)), (16, .int .i64 x146)] k138 := by
    intro k149
    induction k149 with
    | zero => intro x140 p141 m142 c143 x144 x145 x146 h148; rewrite [f_coverage_Of_l1] at h148; cases h148
    | succ k149 ih150 =>
      intro x140 p141 m142 c143 x144 x145 x146 h148
      rewrite [f_coverage_Of_l1] at h148
      refine ti hk139 ?_
      refine t_seq fun K151 hK152 => ?_
      refine t_region ?_
      refine c_p (r_i rfl rfl rfl) rfl ?_
      refine t_nil ?_
      refine t_then hK152 ?_
      refine t_seq fun K153 hK154 => ?_
      rcases Bool.eq_false_or_eq_true (decide (x146 < (z0.length : Int))) with hb155 | hb155
      · replace h148 := itT hb155 h148
        refine t_T rfl hb155 ?_
        refine t_skip ?_
        refine t_then hK154 ?_
        refine t_seq fun K156 hK157 => ?_
        refine t_block ?_
        refine t_seq fun K158 hK159 => ?_
        refine t_region ?_
        obtain ⟨el163, hel163, h148⟩ := bs h148
        refine t_q a0 hel163 fun q160 hq161 hm162 => ?_
        refine c_p (r_idx hq161 hm162 hel163 Tryd.underlying60 ti58 rfl rfl) rfl ?_
        refine t_op k_api_Event_opens a0 hel163 fun t164 => ?_
        refine c_s (r_eA a1 hq161 Tryd.underlying58 rfl ti58 rfl rfl) rfl ?_
        refine nx (t_al (cs := [.int .i64 0, .int .i64 0, .int .i64 0, .slice none 0 0, .bool false]) ti58 rfl rfl fun g165 => ?_)
        refine nx (t_st u0 ti58 rfl rfl rfl rfl rfl (.t (.s (.s (.s (.s (.s .z)))))) ?_)
        refine t_nil ?_
        refine t_then hK159 ?_
        refine t_seq fun K166 hK167 => ?_
        refine t_seq fun K168 hK169 => ?_
        refine t_region ?_
        refine c_p (r_fa (off' := 0) Tryd.underlying58 rfl ti3 rfl rfl) rfl ?_
        refine c_s (r_ld a0 Tryd.underlying3 rfl rfl rfl) rfl ?_
        refine c_p (r_mv rfl) rfl ?_
        refine c_p (r_i rfl rfl rfl) rfl ?_
        refine c_p (r_mv rfl) rfl ?_
        rcases Bool.eq_false_or_eq_true (el163.Boot != z1) with hb170 | hb170
        · replace h148 := itT hb170 h148
          refine nx (pass rfl rfl hb170 rfl ?_)
          refine nx (pass rfl rfl hb170 rfl ?_)
          refine nx (pass rfl rfl hb170 rfl ?_)
          refine c_p (r_pT rfl hb170 rfl) rfl ?_
          refine c_p (r_mv rfl) rfl ?_
          refine nx (pass rfl rfl rfl rfl ?_)
          refine nx (pass rfl rfl rfl rfl ?_)
          refine nx (pass rfl rfl rfl rfl ?_)
          refine c_p (r_pT rfl rfl rfl) rfl ?_
          refine t_nil ?_
          refine t_then hK169 ?_
          refine t_T rfl rfl ?_
          refine t_exit ?_
          refine te (bx ?_)
          refine t_then hK157 ?_
          refine t_region ?_
          refine c_p (r_i rfl rfl rfl) rfl ?_
          refine c_p (r_mv rfl) rfl ?_
          refine t_nil ?_
          exact t_norm (t_go (ih150 x140 p141 m142 c143 x144 x145 (IntKind.wrap .i64 (x146 + 1)) h148) ⟨rfl, rfl, rfl, rfl, rfl, rfl, rfl, trivial⟩ (.cons e1 (.cons e1 (.cons e1 (.cons e1 .nil)))) (fun w Z hA => V1 a2 hA (V1 a3 hA (V1 a4 hA (V0)))))
        · replace h148 := itF hb170 h148
          refine nx (gd rfl rfl hb170 (sp (r_fa (off' := 1) Tryd.underlying58 rfl ti3 rfl rfl) rfl ?_))
          refine nx (gd rfl rfl hb170 (ss (r_ld a0 Tryd.underlying3 rfl rfl rfl) rfl ?_))
          refine nx (gd rfl rfl hb170 (sp (r_i rfl rfl rfl) rfl ?_))
          refine c_p (r_pF rfl hb170 rfl) rfl ?_
          refine c_p (r_mv rfl) rfl ?_
          rcases Bool.eq_false_or_eq_true (decide (el163.Serial < 1)) with hb171 | hb171
          · replace h148 := itT hb171 h148
            refine nx (pass rfl rfl hb171 rfl ?_)
            refine nx (pass rfl rfl hb171 rfl ?_)
            refine nx (pass rfl rfl hb171 rfl ?_)
            refine c_p (r_pT rfl hb171 rfl) rfl ?_
            refine t_nil ?_
            refine t_then hK169 ?_
            refine t_T rfl rfl ?_
            refine t_exit ?_
            refine te (bx ?_)
            refine t_then hK157 ?_
            refine t_region ?_
            refine c_p (r_i rfl rfl rfl) rfl ?_
            refine c_p (r_mv rfl) rfl ?_
            refine t_nil ?_
            exact t_norm (t_go (ih150 x140 p141 m142 c143 x144 x145 (IntKind.wrap .i64 (x146 + 1)) h148) ⟨rfl, rfl, rfl, rfl, rfl, rfl, rfl, trivial⟩ (.cons e1 (.cons e1 (.cons e1 (.cons e1 .nil)))) (fun w Z hA => V1 a2 hA (V1 a3 hA (V1 a4 hA (V0)))))
          · replace h148 := itF hb171 h148
            refine nx (gd rfl rfl hb171 (sp (r_fa (off' := 1) Tryd.underlying58 rfl ti3 rfl rfl) rfl ?_))
            refine nx (gd rfl rfl hb171 (ss (r_ld a0 Tryd.underlying3 rfl rfl rfl) rfl ?_))
            refine nx (gd rfl rfl hb171 (sp (r_i rfl rfl rfl) rfl ?_))
            refine c_p (r_pF rfl hb171 rfl) rfl ?_
            refine t_nil ?_
            refine t_then hK169 ?_
            rcases Bool.eq_false_or_eq_true (decide (el163.Serial > 1073741824)) with hb172 | hb172
            · replace h148 := itT hb172 h148
              refine t_T rfl hb172 ?_
              refine t_exit ?_
              refine te (bx ?_)
              refine t_then hK157 ?_
              refine t_region ?_
              refine c_p (r_i rfl rfl rfl) rfl ?_
              refine c_p (r_mv rfl) rfl ?_
              refine t_nil ?_
              exact t_norm (t_go (ih150 x140 p141 m142 c143 x144 x145 (IntKind.wrap .i64 (x146 + 1)) h148) ⟨rfl, rfl, rfl, rfl, rfl, rfl, rfl, trivial⟩ (.cons e1 (.cons e1 (.cons e1 (.cons e1 .nil)))) (fun w Z hA => V1 a2 hA (V1 a3 hA (V1 a4 hA (V0)))))
            · replace h148 := itF hb172 h148
              refine t_F rfl hb172 ?_
              refine t_skip ?_
              refine t_then hK167 ?_
              refine t_seq fun K173 hK174 => ?_
              refine t_region ?_
              refine c_p (r_fa (off' := 2) Tryd.underlying63 rfl ti3 rfl rfl) rfl ?_
              refine c_s (r_ld a4 Tryd.underlying3 rfl rfl rfl) rfl ?_
              refine c_p (r_fa (off' := 1) Tryd.underlying58 rfl ti3 rfl rfl) rfl ?_
              refine c_s (r_ld a0 Tryd.underlying3 rfl rfl rfl) rfl ?_
              refine c_p (r_max rfl rfl) rfl ?_
              refine c_p (r_fa (off' := 2) Tryd.underlying63 rfl ti3 rfl rfl) rfl ?_
              refine nx (t_st u4 ti3 rfl rfl rfl rfl rfl (.s (.s (.t (.s .z)))) ?_)
              refine t_nil ?_
              refine t_then hK174 ?_
              refine t_seq fun K175 hK176 => ?_
              have J186 : ∀ (x185 : List (Int × Int)), f_coverage_Of_j1 x144 x145 x146 el163 (f_coverage_Of_l1 z0 z1 z2 k149) x185 = some r → T 77 c [vw (kSlice 72 k_api_Record) el163.Records [.slice t164.1 t164.2.1 t164.2.2], vw (kSlice 58 k_api_Event) z0 [.slice p1 m2 c3], g_pow10, g_kinds] [[blk g14 [.map none, .slice none 0 0, .int .i64 0] 63], [mp (kInt .i64) g17 x185], [row 46 k_api_Span x144 (.slice p141 m142 c143)], [blk g18 [.map (some g17), .slice p141 m142 c143, .int .i64 (max x145 el163.Serial)] 63], [blk g165 [.int .i64 el163.Boot, .int .i64 el163.Serial, .int .i64 el163.Time, .slice t164.1 t164.2.1 t164.2.2, .bool el163.Complete] 58]] [(1, .int .i64 z1), (2, .int .i64 z2), (6, .pointer (some ⟨g14, 0, none⟩)), (7, .pointer (some ⟨g18, 0, none⟩)), (9, .pointer (some ⟨g165, 0, none⟩)), (14, .slice p1 m2 c3), (15, .int .i64 (z0.length : Int)), (16, .int .i64 x146), (25, .pointer (some ⟨g165, 1, none⟩)), (26, .int .i64 el163.Serial), (27, .bool (decide (el163.Serial < 1))), (30, .pointer (some ⟨g165, 1, none⟩)), (31, .int .i64 el163.Serial), (32, .bool (decide (el163.Serial > 1073741824)))] K175 := by
                intro x185 h187
                unfold f_coverage_Of_j1 at h187
                refine ti hK176 ?_
                refine t_seq fun K188 hK189 => ?_
                refine t_region ?_
                refine c_s (r_ldA a4 Tryd.underlying58 rfl ti58 rfl rfl) rfl ?_
                obtain ⟨y190, hy190, h187⟩ := bs h187
                refine nx (t_ca (C50 _ _ _ _ _ hy190) Tryd.func50 nm50 rfl rfl rfl .nil (fun w Z hA => (V1 a0 hA (V1 a2 hA (V1 a3 hA V0)))) rfl fun t191 => ?_)
                refine c_p (r_mv rfl) rfl ?_
                refine c_p (r_ex rfl rfl) rfl ?_
                refine c_p (r_ex rfl rfl) rfl ?_
                refine nx (t_al (cs := [.int .i64 0, .int .i64 0, .int .i64 0]) ti46 rfl rfl fun g192 => ?_)
                refine nx (t_st u0 ti46 rfl rfl rfl rfl rfl (.t (.s (.s (.s .z)))) ?_)
                refine c_p (r_as rfl) rfl ?_
                refine t_nil ?_
                refine t_then hK189 ?_
                refine t_seq fun K193 hK194 => ?_
                refine t_region ?_
                refine c_p (r_mv rfl) rfl ?_
                refine t_nil ?_
                refine t_then hK194 ?_
                rcases Bool.eq_false_or_eq_true y190.2 with hb195 | hb195
                · replace h187 := itT hb195 h187
                  refine t_T rfl hb195 ?_
                  refine t_region ?_
                  refine c_p (r_fa (off' := 1) Tryd.underlying63 rfl ti23 rfl rfl) rfl ?_
                  refine c_s (r_ld a4 Tryd.underlying23 rfl rfl rfl) rfl ?_
                  refine c_s (r_ldA a0 Tryd.underlying46 rfl ti46 rfl rfl) rfl ?_
                  refine nx (t_bs (ps := [(0, .agg #[.int .i64 y190.1.From, .int .i64 y190.1.To, .int .i64 y190.1.Kind])]) (cs := [.int .i64 y190.1.From, .int .i64 y190.1.To, .int .i64 y190.1.Kind]) Tryd.underlying23 ti46 rfl rfl (by kernel_rfl) rfl fun g196 => ?_)
                  obtain ⟨hc197, h187⟩ := ck_out h187
                  refine nx (t_app (Kd := k_api_Span) (xs := x144) (ys := [y190.1]) (.cons e4 .nil) rfl rfl Tryd.underlying23 Tryd.underlying23 ti46 rfl rfl hc197 (srcB a0 (fun w Z S hA hN => flat_EO (S := Nil) k_api_Span_flatK (er1 (c1 := [.int .i64 y190.1.From, .int .i64 y190.1.To, .int .i64 y190.1.Kind]) (k_api_Span_shuts (x := y190.1) (t := ()) trivial) er0))) rfl fun t198 => ?_)
                  refine c_p (r_fa (off' := 1) Tryd.underlying63 rfl ti23 rfl rfl) rfl ?_
                  refine nx (t_st u5 ti23 rfl rfl rfl rfl rfl (.s (.t (.s .z))) ?_)
                  refine t_nil ?_
                  refine t_blockN ?_
                  refine t_then hK157 ?_
                  refine t_region ?_
                  refine c_p (r_i rfl rfl rfl) rfl ?_
                  refine c_p (r_mv rfl) rfl ?_
                  refine t_nil ?_
                  exact t_norm (t_go (ih150 x185 t198.1 t198.2.1 t198.2.2 (x144 ++ [y190.1]) (max x145 el163.Serial) (IntKind.wrap .i64 (x146 + 1)) h187) ⟨rfl, rfl, rfl, rfl, rfl, rfl, rfl, trivial⟩ (.cons e3 (.cons e3 (.cons e0 (.cons e2 .nil)))) (fun w Z hA => V1 a1 hA (V1 a2 hA (V1 a3 hA (V0)))))
                · replace h187 := itF hb195 h187
                  refine t_F rfl hb195 ?_
                  refine t_skip ?_
                  refine t_blockN ?_
                  refine t_then hK157 ?_
                  refine t_region ?_
                  refine c_p (r_i rfl rfl rfl) rfl ?_
                  refine c_p (r_mv rfl) rfl ?_
                  refine t_nil ?_
                  exact t_norm (t_go (ih150 x185 p141 m142 c143 x144 (max x145 el163.Serial) (IntKind.wrap .i64 (x146 + 1)) h187) ⟨rfl, rfl, rfl, rfl, rfl, rfl, rfl, trivial⟩ (.cons e1 (.cons e1 (.cons e1 (.cons e1 .nil)))) (fun w Z hA => V1 a1 hA (V1 a2 hA (V1 a3 hA (V0)))))
              refine t_seq fun K177 hK178 => ?_
              refine t_region ?_
              refine c_s (r_ldA a0 Tryd.underlying58 rfl ti58 rfl rfl) rfl ?_
              obtain ⟨y179, hy179, h148⟩ := bs h148
              refine nx (t_ca (C49 _ _ _ _ _ hy179) Tryd.func49 nm49 rfl rfl rfl .nil (fun w Z hA => (V1 a0 hA (V1 a3 hA (V1 a4 hA V0)))) rfl fun t180 => ?_)
              refine t_nil ?_
              refine t_then hK178 ?_
              rcases Bool.eq_false_or_eq_true y179 with hb181 | hb181
              · replace h148 := itT hb181 h148
                refine t_T rfl hb181 ?_
                refine t_region ?_
                refine c_p (r_fa (off' := 0) Tryd.underlying63 rfl ti61 rfl rfl) rfl ?_
                refine c_s (r_ld a4 Tryd.underlying61 rfl rfl rfl) rfl ?_
                refine c_p (r_fa (off' := 1) Tryd.underlying58 rfl ti3 rfl rfl) rfl ?_
                refine c_s (r_ld a0 Tryd.underlying3 rfl rfl rfl) rfl ?_
                refine nx (t_mu (b := 1) u2 Tryd.underlying61 Tryd.underlying3 rfl rfl rfl (fun _ _ => rfl) ?_)
                refine t_nil ?_
                exact t_norm (t_go (J186 (mset x140 el163.Serial 1) h148) ⟨rfl, rfl, rfl, rfl, rfl, rfl, rfl, rfl, rfl, rfl, rfl, rfl, rfl, rfl, trivial⟩ (.cons e1 (.cons e1 (.cons e1 (.cons e1 (.cons e0 .nil))))) (fun w Z hA => V1 a0 hA (V1 a2 hA (V1 a3 hA (V1 a4 hA (V0))))))
              · replace h148 := itF hb181 h148
                refine t_F rfl hb181 ?_
                refine t_seq fun K182 hK183 => ?_
                refine t_region ?_
                refine c_p (r_fa (off' := 0) Tryd.underlying63 rfl ti61 rfl rfl) rfl ?_
                refine c_s (r_ld a4 Tryd.underlying61 rfl rfl rfl) rfl ?_
                refine c_p (r_fa (off' := 1) Tryd.underlying58 rfl ti3 rfl rfl) rfl ?_
                refine c_s (r_ld a0 Tryd.underlying3 rfl rfl rfl) rfl ?_
                refine c_s (r_ml (Value.int .i64) 0 a2 Tryd.underlying61 Tryd.underlying3 ti3 vf_int rfl rfl) rfl ?_
                refine c_p (r_i rfl rfl rfl) rfl ?_
                refine t_nil ?_
                refine t_then hK183 ?_
                rcases Bool.eq_false_or_eq_true (((mget x140 el163.Serial).getD 0) == 0) with hb184 | hb184
                · replace h148 := itT hb184 h148
                  refine t_T rfl hb184 ?_
                  refine t_region ?_
                  refine c_p (r_fa (off' := 0) Tryd.underlying63 rfl ti61 rfl rfl) rfl ?_
                  refine c_s (r_ld a4 Tryd.underlying61 rfl rfl rfl) rfl ?_
                  refine c_p (r_fa (off' := 1) Tryd.underlying58 rfl ti3 rfl rfl) rfl ?_
                  refine c_s (r_ld a0 Tryd.underlying3 rfl rfl rfl) rfl ?_
                  refine nx (t_mu (b := 2) u2 Tryd.underlying61 Tryd.underlying3 rfl rfl rfl (fun _ _ => rfl) ?_)
                  refine t_nil ?_
                  exact t_norm (t_go (J186 (mset x140 el163.Serial 2) h148) ⟨rfl, rfl, rfl, rfl, rfl, rfl, rfl, rfl, rfl, rfl, rfl, rfl, rfl, rfl, trivial⟩ (.cons e1 (.cons e1 (.cons e1 (.cons e1 (.cons e0 .nil))))) (fun w Z hA => V1 a0 hA (V1 a2 hA (V1 a3 hA (V1 a4 hA (V0))))))
                · replace h148 := itF hb184 h148
                  refine t_F rfl hb184 ?_
                  refine t_skip ?_
                  exact t_norm (t_go (J186 x140 h148) ⟨rfl, rfl, rfl, rfl, rfl, rfl, rfl, rfl, rfl, rfl, rfl, rfl, rfl, rfl, trivial⟩ (.cons e1 (.cons e1 (.cons e1 (.cons e1 (.cons e0 .nil))))) (fun w Z hA => V1 a0 hA (V1 a2 hA (V1 a3 hA (V1 a4 hA (V0))))))
      · replace h148 := itF hb155 h148
        refine t_F rfl hb155 ?_
        refine t_exit ?_
        refine te (te (bx ?_))
        exact t_norm (t_go (J205 x140 p141 m142 c143 x144 x145 h148) ⟨rfl, rfl, rfl, trivial⟩ (.cons e0 (.cons e0 (.cons e0 (.cons e0 .nil)))) (fun w Z hA => V1 a1 hA (V1 a2 hA (V0))))
  exact t_go (LP147 ((((z0.length : Int) : Int) - (0)).toNat + 1) ([] : List (Int × Int)) none 0 0 ([] : List api_Span) 0 0 h) ⟨rfl, rfl, rfl, rfl, rfl, rfl, rfl, trivial⟩ (.cons e3 (.cons e2 (.cons e0 (.cons e0 .nil)))) (fun w Z hA => V1 a0 hA (V1 a1 hA (V1 a2 hA (V0))))
end
end Go.Proofs.YthmjklpmamfncaaDoor.Gx

/- Function 39, kaudit/kauditmill.event: what it answers as a plain function, and that the Go code comes to exactly that (where the plain function gives an answer). -/
set_option linter.unusedVariables false
set_option linter.unusedSimpArgs false
namespace Go.Proofs.YthmjklpmamfncaaDoor.Gx
open Go.Gx Go.RowKit
noncomputable section
/-! ### kaudit/kauditmill.event: function 39 -/
def f_kauditmill_event (z0 : Int) (z1 : Int) (z2 : Int) : Option (api_Event) := some (⟨z0, z1, z2, ([] : List api_Record), false⟩ : api_Event)
set_option maxHeartbeats 4000000 in
set_option maxRecDepth 100000 in
theorem C39 (z0 : Int) (z1 : Int) (z2 : Int) (r : api_Event) (h : f_kauditmill_event z0 z1 z2 = some r) : FunG Tryd.prog 39 #[.int .i64 z0, .int .i64 z1, .int .i64 z2] [g_pow10, g_kinds] [] (fun t : (Option Addr × Nat × Nat) => .agg #[.int .i64 r.Boot, .int .i64 r.Serial, .int .i64 r.Time, .slice t.1 t.2.1 t.2.2, .bool r.Complete]) (fun t => []) (fun t => [[row 72 k_api_Record r.Records (.slice t.1 t.2.1 t.2.2)]]) := by
  unfold f_kauditmill_event at h
  refine t_begin (args := [.int .i64 z0, .int .i64 z1, .int .i64 z2]) Tryd.func39 rfl Tryd.ntmps39 rfl fun c R hR => ?_
  have hQ : ∀ X, X = r → ∀ w2 (t : (Option Addr × Nat × Nat)), PostG c.w0 w2 c.M c.Y [] [[row 72 k_api_Record X.Records (.slice t.1 t.2.1 t.2.2)]] → R (.returned (.agg #[.int .i64 X.Boot, .int .i64 X.Serial, .int .i64 X.Time, .slice t.1 t.2.1 t.2.2, .bool X.Complete])) w2 := fun X e => by subst e; exact hR
  refine t_seq fun K1 hK2 => ?_
  refine t_region ?_
  refine nx (t_al (cs := [.int .i64 0, .int .i64 0, .int .i64 0, .slice none 0 0, .bool false]) ti58 rfl rfl fun g3 => ?_)
  refine t_nil ?_
  refine t_then hK2 ?_
  refine t_seq fun K4 hK5 => ?_
  refine t_region ?_
  refine c_p (r_mv rfl) rfl ?_
  refine c_p (r_mv rfl) rfl ?_
  refine c_p (r_mv rfl) rfl ?_
  refine c_p (r_bu (ps := [(0, .int .i64 z0), (1, .int .i64 z1), (2, .int .i64 z2)]) (cs := [.int .i64 z0, .int .i64 z1, .int .i64 z2, .slice none 0 0, .bool false]) rfl (by kernel_rfl)) rfl ?_
  refine nx (t_st u0 ti58 rfl rfl rfl rfl rfl (.t (.s (.s (.s (.s (.s .z)))))) ?_)
  refine t_nil ?_
  refine t_then hK5 ?_
  refine t_ret ?_
  refine t_nr 72 k_api_Record ?_
  exact ret1 rfl (v_N rfl a1 Tryd.underlying58 rfl ti58 rfl) (t_leave (hQ _ (Option.some.inj h)) (none, 0, 0) rfl (fun w Z hA => V0) (.cons e0 .nil))
end
end Go.Proofs.YthmjklpmamfncaaDoor.Gx

/- Function 40, (*kaudit/kauditmill.Case).Bool: what it answers as a plain function, and that the Go code comes to exactly that (where the plain function gives an answer). -/
set_option linter.unusedVariables false
set_option linter.unusedSimpArgs false
namespace Go.Proofs.YthmjklpmamfncaaDoor.Gx
open Go.Gx Go.RowKit
noncomputable section
/-! ### (*kaudit/kauditmill.Case).Bool: function 40 -/
def f_kauditmill_Case_Bool (z0 : kauditmill_Case) (z1 : Int) : Option (Bool × Int) := (f_kauditmill_Case_Int z0 z1).bind fun y8 => some ((y8.1 == (IntKind.wrap .i64 (z1 - 1))), y8.2)
set_option maxHeartbeats 4000000 in
set_option maxRecDepth 100000 in
theorem C40 (z0 : kauditmill_Case) (z1 : Int) (g_ : Nat) (p1 : Option Addr) (m2 : Nat) (c3 : Nat) (r : Bool × Int) (h : f_kauditmill_Case_Bool z0 z1 = some r) : FunG Tryd.prog 40 #[.pointer (some ⟨g_, 0, none⟩), .int .i64 z1] [vw (kSlice 5 (kInt .u8)) z0.codes [.slice p1 m2 c3], g_pow10, g_kinds] [[blk g_ [.slice p1 m2 c3, .int .i64 z0.at_] 43]] (fun (_ : Unit) => .bool r.1) (fun _ => []) (fun _ => [[blk g_ [.slice p1 m2 c3, .int .i64 r.2] 43]]) := by
  unfold f_kauditmill_Case_Bool at h
  refine t_begin (args := [.pointer (some ⟨g_, 0, none⟩), .int .i64 z1]) Tryd.func40 rfl Tryd.ntmps40 rfl fun c R hR => ?_
  have hQ : ∀ X, X = r → ∀ w2 (_ : Unit), PostG c.w0 w2 c.M c.Y [] [[blk g_ [.slice p1 m2 c3, .int .i64 X.2] 43]] → R (.returned (.bool X.1)) w2 := fun X e => by subst e; exact hR
  refine t_seq fun K4 hK5 => ?_
  refine t_region ?_
  refine c_p (r_as rfl) rfl ?_
  refine t_nil ?_
  refine t_then hK5 ?_
  refine t_seq fun K6 hK7 => ?_
  refine t_region ?_
  refine c_p (r_mv rfl) rfl ?_
  refine c_p (r_mv rfl) rfl ?_
  obtain ⟨y8, hy8, h⟩ := bs h
  refine nx (t_ca (C17 _ _ _ _ _ _ _ hy8) Tryd.func17 nm17 rfl rfl rfl (.cons e0 .nil) (fun w Z hA => (V1 a0 hA (V1 a1 hA (V1 a2 hA V0)))) rfl fun t9 => ?_)
  refine c_p (r_mv rfl) rfl ?_
  refine c_p (r_i rfl rfl rfl) rfl ?_
  refine c_p (r_i rfl rfl rfl) rfl ?_
  refine c_p (r_as rfl) rfl ?_
  refine t_nil ?_
  refine t_then hK7 ?_
  refine t_ret ?_
  exact ret1 rfl (v_t rfl) (t_leave (hQ _ (Option.some.inj h)) () rfl (fun w Z hA => V0) (.cons e0 .nil))
end
end Go.Proofs.YthmjklpmamfncaaDoor.Gx

/- Function 43, kaudit/kauditmill.record: what it answers as a plain function, and that the Go code comes to exactly that (where the plain function gives an answer). -/
set_option linter.unusedVariables false
set_option linter.unusedSimpArgs false
namespace Go.Proofs.YthmjklpmamfncaaDoor.Gx
open Go.Gx Go.RowKit
noncomputable section
/-! ### kaudit/kauditmill.record: function 43 -/
def f_kauditmill_record (z0 : Int) (z1 : Int) (z2 : Int) : Option (api_Record) := some (⟨z0, z1, z2, ([] : List api_Pair)⟩ : api_Record)
set_option maxHeartbeats 4000000 in
set_option maxRecDepth 100000 in
theorem C43 (z0 : Int) (z1 : Int) (z2 : Int) (r : api_Record) (h : f_kauditmill_record z0 z1 z2 = some r) : FunG Tryd.prog 43 #[.int .i64 z0, .int .i64 z1, .int .i64 z2] [g_pow10, g_kinds] [] (fun t : (Option Addr × Nat × Nat) => .agg #[.int .i64 r.Type_, .int .i64 r.Time, .int .i64 r.Serial, .slice t.1 t.2.1 t.2.2]) (fun t => []) (fun t => [[row 76 k_api_Pair r.Pairs (.slice t.1 t.2.1 t.2.2)]]) := by
  unfold f_kauditmill_record at h
  refine t_begin (args := [.int .i64 z0, .int .i64 z1, .int .i64 z2]) Tryd.func43 rfl Tryd.ntmps43 rfl fun c R hR => ?_
  have hQ : ∀ X, X = r → ∀ w2 (t : (Option Addr × Nat × Nat)), PostG c.w0 w2 c.M c.Y [] [[row 76 k_api_Pair X.Pairs (.slice t.1 t.2.1 t.2.2)]] → R (.returned (.agg #[.int .i64 X.Type_, .int .i64 X.Time, .int .i64 X.Serial, .slice t.1 t.2.1 t.2.2])) w2 := fun X e => by subst e; exact hR
  refine t_seq fun K1 hK2 => ?_
  refine t_region ?_
  refine nx (t_al (cs := [.int .i64 0, .int .i64 0, .int .i64 0, .slice none 0 0]) ti72 rfl rfl fun g3 => ?_)
  refine t_nil ?_
  refine t_then hK2 ?_
  refine t_seq fun K4 hK5 => ?_
  refine t_region ?_
  refine c_p (r_mv rfl) rfl ?_
  refine c_p (r_mv rfl) rfl ?_
  refine c_p (r_mv rfl) rfl ?_
  refine c_p (r_bu (ps := [(0, .int .i64 z0), (1, .int .i64 z1), (2, .int .i64 z2)]) (cs := [.int .i64 z0, .int .i64 z1, .int .i64 z2, .slice none 0 0]) rfl (by kernel_rfl)) rfl ?_
  refine nx (t_st u0 ti72 rfl rfl rfl rfl rfl (.t (.s (.s (.s (.s .z))))) ?_)
  refine t_nil ?_
  refine t_then hK5 ?_
  refine t_ret ?_
  refine t_nr 76 k_api_Pair ?_
  exact ret1 rfl (v_N rfl a1 Tryd.underlying72 rfl ti72 rfl) (t_leave (hQ _ (Option.some.inj h)) (none, 0, 0) rfl (fun w Z hA => V0) (.cons e0 .nil))
end
end Go.Proofs.YthmjklpmamfncaaDoor.Gx

/- Function 44, kaudit/kauditmill.Num: what it answers as a plain function, and that the Go code comes to exactly that (where the plain function gives an answer). -/
set_option linter.unusedVariables false
set_option linter.unusedSimpArgs false
namespace Go.Proofs.YthmjklpmamfncaaDoor.Gx
open Go.Gx Go.RowKit
noncomputable section
/-! ### kaudit/kauditmill.Num: function 44 -/
def f_kauditmill_Num (z0 : ByteArray) (z1 : Int) : Option (api_Pair) := some (⟨z0, 1, z1, (⟨#[]⟩ : ByteArray)⟩ : api_Pair)
set_option maxHeartbeats 4000000 in
set_option maxRecDepth 100000 in
theorem C44 (z0 : ByteArray) (z1 : Int) (r : api_Pair) (h : f_kauditmill_Num z0 z1 = some r) : FunG Tryd.prog 44 #[.string z0, .int .i64 z1] [g_pow10, g_kinds] [] (fun (_ : Unit) => .agg #[.string r.Name, .int .i64 r.Kind, .int .i64 r.Num, .string r.Text]) (fun _ => []) (fun _ => []) := by
  unfold f_kauditmill_Num at h
  refine t_begin (args := [.string z0, .int .i64 z1]) Tryd.func44 rfl Tryd.ntmps44 rfl fun c R hR => ?_
  have hQ : ∀ X, X = r → ∀ w2 (_ : Unit), PostG c.w0 w2 c.M c.Y [] [] → R (.returned (.agg #[.string X.Name, .int .i64 X.Kind, .int .i64 X.Num, .string X.Text])) w2 := fun X e => by subst e; exact hR
  refine t_seq fun K1 hK2 => ?_
  refine t_region ?_
  refine nx (t_al (cs := [.string (⟨#[]⟩ : ByteArray), .int .i64 0, .int .i64 0, .string (⟨#[]⟩ : ByteArray)]) ti76 rfl rfl fun g3 => ?_)
  refine t_nil ?_
  refine t_then hK2 ?_
  refine t_seq fun K4 hK5 => ?_
  refine t_region ?_
  refine c_p (r_mv rfl) rfl ?_
  refine c_p (r_mv rfl) rfl ?_
  refine c_p (r_bu (ps := [(0, .string z0), (1, .int .i64 1), (2, .int .i64 z1)]) (cs := [.string z0, .int .i64 1, .int .i64 z1, .string (⟨#[]⟩ : ByteArray)]) rfl (by kernel_rfl)) rfl ?_
  refine nx (t_st u0 ti76 rfl rfl rfl rfl rfl (.t (.s (.s (.s (.s .z))))) ?_)
  refine t_nil ?_
  refine t_then hK5 ?_
  refine t_ret ?_
  exact ret1 rfl (v_N rfl a0 Tryd.underlying76 rfl ti76 rfl) (t_leave (hQ _ (Option.some.inj h)) () rfl (fun w Z hA => V0) .nil)
end
end Go.Proofs.YthmjklpmamfncaaDoor.Gx

/- Function 45, kaudit/kauditmill.Str: what it answers as a plain function, and that the Go code comes to exactly that (where the plain function gives an answer). -/
set_option linter.unusedVariables false
set_option linter.unusedSimpArgs false
namespace Go.Proofs.YthmjklpmamfncaaDoor.Gx
open Go.Gx Go.RowKit
noncomputable section
/-! ### kaudit/kauditmill.Str: function 45 -/
def f_kauditmill_Str (z0 : ByteArray) (z1 : ByteArray) : Option (api_Pair) := some (⟨z0, 2, 0, z1⟩ : api_Pair)
set_option maxHeartbeats 4000000 in
set_option maxRecDepth 100000 in
theorem C45 (z0 : ByteArray) (z1 : ByteArray) (r : api_Pair) (h : f_kauditmill_Str z0 z1 = some r) : FunG Tryd.prog 45 #[.string z0, .string z1] [g_pow10, g_kinds] [] (fun (_ : Unit) => .agg #[.string r.Name, .int .i64 r.Kind, .int .i64 r.Num, .string r.Text]) (fun _ => []) (fun _ => []) := by
  unfold f_kauditmill_Str at h
  refine t_begin (args := [.string z0, .string z1]) Tryd.func45 rfl Tryd.ntmps45 rfl fun c R hR => ?_
  have hQ : ∀ X, X = r → ∀ w2 (_ : Unit), PostG c.w0 w2 c.M c.Y [] [] → R (.returned (.agg #[.string X.Name, .int .i64 X.Kind, .int .i64 X.Num, .string X.Text])) w2 := fun X e => by subst e; exact hR
  refine t_seq fun K1 hK2 => ?_
  refine t_region ?_
  refine nx (t_al (cs := [.string (⟨#[]⟩ : ByteArray), .int .i64 0, .int .i64 0, .string (⟨#[]⟩ : ByteArray)]) ti76 rfl rfl fun g3 => ?_)
  refine t_nil ?_
  refine t_then hK2 ?_
  refine t_seq fun K4 hK5 => ?_
  refine t_region ?_
  refine c_p (r_mv rfl) rfl ?_
  refine c_p (r_mv rfl) rfl ?_
  refine c_p (r_bu (ps := [(0, .string z0), (1, .int .i64 2), (3, .string z1)]) (cs := [.string z0, .int .i64 2, .int .i64 0, .string z1]) rfl (by kernel_rfl)) rfl ?_
  refine nx (t_st u0 ti76 rfl rfl rfl rfl rfl (.t (.s (.s (.s (.s .z))))) ?_)
  refine t_nil ?_
  refine t_then hK5 ?_
  refine t_ret ?_
  exact ret1 rfl (v_N rfl a0 Tryd.underlying76 rfl ti76 rfl) (t_leave (hQ _ (Option.some.inj h)) () rfl (fun w Z hA => V0) .nil)
end
end Go.Proofs.YthmjklpmamfncaaDoor.Gx

/- Function 46, (*kaudit/kauditmill.Case).Text: what it answers as a plain function, and that the Go code comes to exactly that (where the plain function gives an answer). -/
set_option linter.unusedVariables false
set_option linter.unusedSimpArgs false
namespace Go.Proofs.YthmjklpmamfncaaDoor.Gx
open Go.Gx Go.RowKit
noncomputable section
/-! ### (*kaudit/kauditmill.Case).Text: function 46 -/
def f_kauditmill_Case_Text (z0 : kauditmill_Case) : Option (ByteArray × Int) := (f_kauditmill_Case_Int z0 10).bind fun y11 => (at_ [(⟨#[]⟩ : ByteArray), (⟨#[97]⟩ : ByteArray), (⟨#[97, 110, 110]⟩ : ByteArray), (⟨#[47, 97, 47, 98]⟩ : ByteArray), (⟨#[110, 111]⟩ : ByteArray), (⟨#[121, 101, 115]⟩ : ByteArray), (⟨#[97, 32, 98]⟩ : ByteArray), (⟨#[120, 54, 102]⟩ : ByteArray), (⟨#[0]⟩ : ByteArray), (⟨#[109, 107, 100, 105, 114]⟩ : ByteArray)] y11.1).bind fun el16 => some (el16, y11.2)
set_option maxHeartbeats 4000000 in
set_option maxRecDepth 100000 in
theorem C46 (z0 : kauditmill_Case) (g_ : Nat) (p1 : Option Addr) (m2 : Nat) (c3 : Nat) (r : ByteArray × Int) (h : f_kauditmill_Case_Text z0 = some r) : FunG Tryd.prog 46 #[.pointer (some ⟨g_, 0, none⟩)] [vw (kSlice 5 (kInt .u8)) z0.codes [.slice p1 m2 c3], g_pow10, g_kinds] [[blk g_ [.slice p1 m2 c3, .int .i64 z0.at_] 43]] (fun (_ : Unit) => .string r.1) (fun _ => []) (fun _ => [[blk g_ [.slice p1 m2 c3, .int .i64 r.2] 43]]) := by
  unfold f_kauditmill_Case_Text at h
  refine t_begin (args := [.pointer (some ⟨g_, 0, none⟩)]) Tryd.func46 rfl Tryd.ntmps46 rfl fun c R hR => ?_
  have hQ : ∀ X, X = r → ∀ w2 (_ : Unit), PostG c.w0 w2 c.M c.Y [] [[blk g_ [.slice p1 m2 c3, .int .i64 X.2] 43]] → R (.returned (.string X.1)) w2 := fun X e => by subst e; exact hR
  refine t_seq fun K4 hK5 => ?_
  refine t_region ?_
  refine c_p (r_as rfl) rfl ?_
  refine t_nil ?_
  refine t_then hK5 ?_
  refine t_seq fun K6 hK7 => ?_
  refine t_region ?_
  refine nx (t_bs (ps := [(0, .string (⟨#[]⟩ : ByteArray)), (1, .string (⟨#[97]⟩ : ByteArray)), (2, .string (⟨#[97, 110, 110]⟩ : ByteArray)), (3, .string (⟨#[47, 97, 47, 98]⟩ : ByteArray)), (4, .string (⟨#[110, 111]⟩ : ByteArray)), (5, .string (⟨#[121, 101, 115]⟩ : ByteArray)), (6, .string (⟨#[97, 32, 98]⟩ : ByteArray)), (7, .string (⟨#[120, 54, 102]⟩ : ByteArray)), (8, .string (⟨#[0]⟩ : ByteArray)), (9, .string (⟨#[109, 107, 100, 105, 114]⟩ : ByteArray))]) (cs := [.string (⟨#[]⟩ : ByteArray), .string (⟨#[97]⟩ : ByteArray), .string (⟨#[97, 110, 110]⟩ : ByteArray), .string (⟨#[47, 97, 47, 98]⟩ : ByteArray), .string (⟨#[110, 111]⟩ : ByteArray), .string (⟨#[121, 101, 115]⟩ : ByteArray), .string (⟨#[97, 32, 98]⟩ : ByteArray), .string (⟨#[120, 54, 102]⟩ : ByteArray), .string (⟨#[0]⟩ : ByteArray), .string (⟨#[109, 107, 100, 105, 114]⟩ : ByteArray)]) Tryd.underlying54 ti9 rfl rfl (by kernel_rfl) rfl fun g8 => ?_)
  refine c_p (r_as rfl) rfl ?_
  refine t_nil ?_
  refine t_then hK7 ?_
  refine t_seq fun K9 hK10 => ?_
  refine t_region ?_
  refine c_p (r_mv rfl) rfl ?_
  refine c_p (r_mv rfl) rfl ?_
  refine c_p (r_mv rfl) rfl ?_
  refine c_p (r_ln0 Tryd.underlying54 rfl) rfl ?_
  obtain ⟨y11, hy11, h⟩ := bs h
  refine nx (t_ca (C17 _ _ _ _ _ _ _ hy11) Tryd.func17 nm17 rfl rfl rfl (.cons e1 .nil) (fun w Z hA => (V1 a0 hA (V1 a1 hA (V1 a2 hA V0)))) rfl fun t12 => ?_)
  refine t_tr (Kd := kStr) (xs := [(⟨#[]⟩ : ByteArray), (⟨#[97]⟩ : ByteArray), (⟨#[97, 110, 110]⟩ : ByteArray), (⟨#[47, 97, 47, 98]⟩ : ByteArray), (⟨#[110, 111]⟩ : ByteArray), (⟨#[121, 101, 115]⟩ : ByteArray), (⟨#[97, 32, 98]⟩ : ByteArray), (⟨#[120, 54, 102]⟩ : ByteArray), (⟨#[0]⟩ : ByteArray), (⟨#[109, 107, 100, 105, 114]⟩ : ByteArray)]) (.cons e1 .nil) rfl (fun w Z S hA hN => flat_EO (S := Nil) flatK_str (er1 (c1 := [.string (⟨#[]⟩ : ByteArray)]) rfl (er1 (c1 := [.string (⟨#[97]⟩ : ByteArray)]) rfl (er1 (c1 := [.string (⟨#[97, 110, 110]⟩ : ByteArray)]) rfl (er1 (c1 := [.string (⟨#[47, 97, 47, 98]⟩ : ByteArray)]) rfl (er1 (c1 := [.string (⟨#[110, 111]⟩ : ByteArray)]) rfl (er1 (c1 := [.string (⟨#[121, 101, 115]⟩ : ByteArray)]) rfl (er1 (c1 := [.string (⟨#[97, 32, 98]⟩ : ByteArray)]) rfl (er1 (c1 := [.string (⟨#[120, 54, 102]⟩ : ByteArray)]) rfl (er1 (c1 := [.string (⟨#[0]⟩ : ByteArray)]) rfl (er1 (c1 := [.string (⟨#[109, 107, 100, 105, 114]⟩ : ByteArray)]) rfl er0))))))))))) ?_
  obtain ⟨el16, hel16, h⟩ := bs h
  refine t_qL a0 hel16 fun q13 hq14 hm15 => ?_
  refine c_p (r_idx hq14 hm15 hel16 Tryd.underlying54 ti9 rfl rfl) rfl ?_
  refine t_oI opensO_str e0 hel16 fun t17 => ?_
  refine c_s (r_h1 a0 hq14 Tryd.underlying9 rfl rfl rfl) rfl ?_
  refine c_p (r_as rfl) rfl ?_
  refine t_nil ?_
  refine t_then hK10 ?_
  refine t_ret ?_
  refine t_cS (u := el16) (t := ()) shutsO_str hel16 (.cons e0 .nil) rfl (fun w Z hA => trivial) ?_
  exact ret1 rfl (v_t rfl) (t_leave (hQ _ (Option.some.inj h)) () rfl (fun w Z hA => V0) (.cons e1 .nil))
end
end Go.Proofs.YthmjklpmamfncaaDoor.Gx

/- Function 47, (*kaudit/kauditmill.Case).ids: what it answers as a plain function, and that the Go code comes to exactly that (where the plain function gives an answer). -/
set_option linter.unusedVariables false
set_option linter.unusedSimpArgs false
namespace Go.Proofs.YthmjklpmamfncaaDoor.Gx
open Go.Gx Go.RowKit
noncomputable section
/-! ### (*kaudit/kauditmill.Case).ids: function 47 -/
def f_kauditmill_Case_ids (z0 : kauditmill_Case) : Option (Int × Int) := (f_kauditmill_Case_Pick z0 [0, 0, 7, 8, 4294967295]).bind fun y9 => some (y9.1, y9.2)
set_option maxHeartbeats 4000000 in
set_option maxRecDepth 100000 in
theorem C47 (z0 : kauditmill_Case) (g_ : Nat) (p1 : Option Addr) (m2 : Nat) (c3 : Nat) (r : Int × Int) (h : f_kauditmill_Case_ids z0 = some r) : FunG Tryd.prog 47 #[.pointer (some ⟨g_, 0, none⟩)] [vw (kSlice 5 (kInt .u8)) z0.codes [.slice p1 m2 c3], g_pow10, g_kinds] [[blk g_ [.slice p1 m2 c3, .int .i64 z0.at_] 43]] (fun (_ : Unit) => .int .i64 r.1) (fun _ => []) (fun _ => [[blk g_ [.slice p1 m2 c3, .int .i64 r.2] 43]]) := by
  unfold f_kauditmill_Case_ids at h
  refine t_begin (args := [.pointer (some ⟨g_, 0, none⟩)]) Tryd.func47 rfl Tryd.ntmps47 rfl fun c R hR => ?_
  have hQ : ∀ X, X = r → ∀ w2 (_ : Unit), PostG c.w0 w2 c.M c.Y [] [[blk g_ [.slice p1 m2 c3, .int .i64 X.2] 43]] → R (.returned (.int .i64 X.1)) w2 := fun X e => by subst e; exact hR
  refine t_seq fun K4 hK5 => ?_
  refine t_region ?_
  refine c_p (r_as rfl) rfl ?_
  refine t_nil ?_
  refine t_then hK5 ?_
  refine t_seq fun K6 hK7 => ?_
  refine t_region ?_
  refine c_p (r_mv rfl) rfl ?_
  refine nx (t_bs (ps := [(0, .int .i64 0), (1, .int .i64 0), (2, .int .i64 7), (3, .int .i64 8), (4, .int .i64 4294967295)]) (cs := [.int .i64 0, .int .i64 0, .int .i64 7, .int .i64 8, .int .i64 4294967295]) Tryd.underlying49 ti3 rfl rfl (by kernel_rfl) rfl fun g8 => ?_)
  refine t_tr (Kd := (kInt .i64)) (xs := [0, 0, 7, 8, 4294967295]) (.cons e0 .nil) rfl (fun w Z S hA hN => flat_EO (S := Nil) (flatK_int .i64) (er1 (c1 := [.int .i64 0]) rfl (er1 (c1 := [.int .i64 0]) rfl (er1 (c1 := [.int .i64 7]) rfl (er1 (c1 := [.int .i64 8]) rfl (er1 (c1 := [.int .i64 4294967295]) rfl er0)))))) ?_
  obtain ⟨y9, hy9, h⟩ := bs h
  refine nx (t_cf (C22 _ _ _ _ _ _ _ _ _ _ hy9) (fun _ => (flat_blk flat_nil)) Tryd.func22 nm22 rfl rfl rfl (.cons e1 .nil) (fun w Z S hA hL => (F1 a0 hA (FL a0 hL (F1 a1 hA (F1 a2 hA F0))))) rfl fun t10 => ?_)
  refine c_p (r_as rfl) rfl ?_
  refine t_nil ?_
  refine t_then hK7 ?_
  refine t_ret ?_
  exact ret1 rfl (v_t rfl) (t_leave (hQ _ (Option.some.inj h)) () rfl (fun w Z hA => V0) (.cons e0 .nil))
end
end Go.Proofs.YthmjklpmamfncaaDoor.Gx

/- Function 54, (*kaudit/kauditmill.Case).process: what it answers as a plain function, and that the Go code comes to exactly that (where the plain function gives an answer). -/
set_option linter.unusedVariables false
set_option linter.unusedSimpArgs false
namespace Go.Proofs.YthmjklpmamfncaaDoor.Gx
open Go.Gx Go.RowKit
noncomputable section
/-! ### (*kaudit/kauditmill.Case).process: function 54 -/
def f_kauditmill_Case_process (z0 : kauditmill_Case) : Option (Int × Int) := (f_kauditmill_Case_Int z0 5).bind fun y8 => some ((IntKind.wrap .i64 (1 + y8.1)), y8.2)
set_option maxHeartbeats 4000000 in
set_option maxRecDepth 100000 in
theorem C54 (z0 : kauditmill_Case) (g_ : Nat) (p1 : Option Addr) (m2 : Nat) (c3 : Nat) (r : Int × Int) (h : f_kauditmill_Case_process z0 = some r) : FunG Tryd.prog 54 #[.pointer (some ⟨g_, 0, none⟩)] [vw (kSlice 5 (kInt .u8)) z0.codes [.slice p1 m2 c3], g_pow10, g_kinds] [[blk g_ [.slice p1 m2 c3, .int .i64 z0.at_] 43]] (fun (_ : Unit) => .int .i64 r.1) (fun _ => []) (fun _ => [[blk g_ [.slice p1 m2 c3, .int .i64 r.2] 43]]) := by
  unfold f_kauditmill_Case_process at h
  refine t_begin (args := [.pointer (some ⟨g_, 0, none⟩)]) Tryd.func54 rfl Tryd.ntmps54 rfl fun c R hR => ?_
  have hQ : ∀ X, X = r → ∀ w2 (_ : Unit), PostG c.w0 w2 c.M c.Y [] [[blk g_ [.slice p1 m2 c3, .int .i64 X.2] 43]] → R (.returned (.int .i64 X.1)) w2 := fun X e => by subst e; exact hR
  refine t_seq fun K4 hK5 => ?_
  refine t_region ?_
  refine c_p (r_as rfl) rfl ?_
  refine t_nil ?_
  refine t_then hK5 ?_
  refine t_seq fun K6 hK7 => ?_
  refine t_region ?_
  refine c_p (r_mv rfl) rfl ?_
  obtain ⟨y8, hy8, h⟩ := bs h
  refine nx (t_ca (C17 _ _ _ _ _ _ _ hy8) Tryd.func17 nm17 rfl rfl rfl (.cons e0 .nil) (fun w Z hA => (V1 a0 hA (V1 a1 hA (V1 a2 hA V0)))) rfl fun t9 => ?_)
  refine c_p (r_i rfl rfl rfl) rfl ?_
  refine c_p (r_as rfl) rfl ?_
  refine t_nil ?_
  refine t_then hK7 ?_
  refine t_ret ?_
  exact ret1 rfl (v_t rfl) (t_leave (hQ _ (Option.some.inj h)) () rfl (fun w Z hA => V0) (.cons e0 .nil))
end
end Go.Proofs.YthmjklpmamfncaaDoor.Gx

/- Function 41, (*kaudit/kauditmill.Case).single: what it answers as a plain function, and that the Go code comes to exactly that (where the plain function gives an answer). -/
set_option linter.unusedVariables false
set_option linter.unusedSimpArgs false
namespace Go.Proofs.YthmjklpmamfncaaDoor.Gx
open Go.Gx Go.RowKit
noncomputable section
/-! ### (*kaudit/kauditmill.Case).single: function 41 -/
def f_kauditmill_Case_single (z0 : kauditmill_Case) (z1 : Int) (z2 : Int) : Option (api_Record × Int) := (f_kauditmill_Case_Pick z0 [1005, 1305, 1200, 1331]).bind fun y10 => (f_kauditmill_record y10.1 z1 z2).bind fun y12 => if (y12.Type_ == 1331) = true then ((f_kauditmill_Case_Int (⟨z0.codes, y10.2⟩ : kauditmill_Case) 3).bind fun y24 => (f_kauditmill_Num (⟨#[102, 105, 114, 115, 116]⟩ : ByteArray) (max (1 : Int) (IntKind.wrap .i64 ((IntKind.wrap .i64 (z2 - 1)) - y24.1)))).bind fun y26 => (f_kauditmill_Num (⟨#[108, 97, 115, 116]⟩ : ByteArray) (max (max (1 : Int) (IntKind.wrap .i64 ((IntKind.wrap .i64 (z2 - 1)) - y24.1))) (IntKind.wrap .i64 (z2 - 1)))).bind fun y28 => (f_kauditmill_Num (⟨#[102, 117, 108, 108]⟩ : ByteArray) 1).bind fun y30 => some ((⟨y12.Type_, y12.Time, y12.Serial, [y26, y28, y30]⟩ : api_Record), y24.2)) else ((f_kauditmill_Case_process (⟨z0.codes, y10.2⟩ : kauditmill_Case)).bind fun y33 => (f_kauditmill_Num (⟨#[112, 105, 100]⟩ : ByteArray) y33.1).bind fun y35 => (f_kauditmill_Case_ids (⟨z0.codes, y33.2⟩ : kauditmill_Case)).bind fun y37 => (f_kauditmill_Num (⟨#[117, 105, 100]⟩ : ByteArray) y37.1).bind fun y39 => (f_kauditmill_Case_Text (⟨z0.codes, y37.2⟩ : kauditmill_Case)).bind fun y41 => (f_kauditmill_Str (⟨#[109, 115, 103]⟩ : ByteArray) y41.1).bind fun y43 => some ((⟨y12.Type_, y12.Time, y12.Serial, [y35, y39, y43]⟩ : api_Record), y41.2))
set_option maxHeartbeats 4000000 in
set_option maxRecDepth 100000 in
theorem C41 (z0 : kauditmill_Case) (z1 : Int) (z2 : Int) (g_ : Nat) (p1 : Option Addr) (m2 : Nat) (c3 : Nat) (r : api_Record × Int) (h : f_kauditmill_Case_single z0 z1 z2 = some r) : FunG Tryd.prog 41 #[.pointer (some ⟨g_, 0, none⟩), .int .i64 z1, .int .i64 z2] [vw (kSlice 5 (kInt .u8)) z0.codes [.slice p1 m2 c3], g_pow10, g_kinds] [[blk g_ [.slice p1 m2 c3, .int .i64 z0.at_] 43]] (fun t : (Option Addr × Nat × Nat) => .agg #[.int .i64 r.1.Type_, .int .i64 r.1.Time, .int .i64 r.1.Serial, .slice t.1 t.2.1 t.2.2]) (fun t => []) (fun t => [[blk g_ [.slice p1 m2 c3, .int .i64 r.2] 43], [row 76 k_api_Pair r.1.Pairs (.slice t.1 t.2.1 t.2.2)]]) := by
  unfold f_kauditmill_Case_single at h
  refine t_begin (args := [.pointer (some ⟨g_, 0, none⟩), .int .i64 z1, .int .i64 z2]) Tryd.func41 rfl Tryd.ntmps41 rfl fun c R hR => ?_
  have hQ : ∀ X, X = r → ∀ w2 (t : (Option Addr × Nat × Nat)), PostG c.w0 w2 c.M c.Y [] [[blk g_ [.slice p1 m2 c3, .int .i64 X.2] 43], [row 76 k_api_Pair X.1.Pairs (.slice t.1 t.2.1 t.2.2)]] → R (.returned (.agg #[.int .i64 X.1.Type_, .int .i64 X.1.Time, .int .i64 X.1.Serial, .slice t.1 t.2.1 t.2.2])) w2 := fun X e => by subst e; exact hR
  refine t_seq fun K4 hK5 => ?_
  refine t_region ?_
  refine nx (t_al (cs := [.int .i64 0, .int .i64 0, .int .i64 0, .slice none 0 0]) ti72 rfl rfl fun g6 => ?_)
  refine t_nil ?_
  refine t_then hK5 ?_
  refine t_seq fun K7 hK8 => ?_
  refine t_region ?_
  refine c_p (r_mv rfl) rfl ?_
  refine nx (t_bs (ps := [(0, .int .i64 1005), (1, .int .i64 1305), (2, .int .i64 1200), (3, .int .i64 1331)]) (cs := [.int .i64 1005, .int .i64 1305, .int .i64 1200, .int .i64 1331]) Tryd.underlying49 ti3 rfl rfl (by kernel_rfl) rfl fun g9 => ?_)
  refine t_tr (Kd := (kInt .i64)) (xs := [1005, 1305, 1200, 1331]) (.cons e0 .nil) rfl (fun w Z S hA hN => flat_EO (S := Nil) (flatK_int .i64) (er1 (c1 := [.int .i64 1005]) rfl (er1 (c1 := [.int .i64 1305]) rfl (er1 (c1 := [.int .i64 1200]) rfl (er1 (c1 := [.int .i64 1331]) rfl er0))))) ?_
  obtain ⟨y10, hy10, h⟩ := bs h
  refine nx (t_cf (C22 _ _ _ _ _ _ _ _ _ _ hy10) (fun _ => (flat_blk flat_nil)) Tryd.func22 nm22 rfl rfl rfl (.cons e2 .nil) (fun w Z S hA hL => (F1 a0 hA (FL a0 hL (F1 a1 hA (F1 a2 hA F0))))) rfl fun t11 => ?_)
  refine c_p (r_mv rfl) rfl ?_
  refine c_p (r_mv rfl) rfl ?_
  obtain ⟨y12, hy12, h⟩ := bs h
  refine nx (t_ca (C43 _ _ _ _ hy12) Tryd.func43 nm43 rfl rfl rfl .nil (fun w Z hA => (V1 a1 hA (V1 a2 hA V0))) rfl fun t13 => ?_)
  refine nx (t_al (cs := [.int .i64 0, .int .i64 0, .int .i64 0, .slice none 0 0]) ti72 rfl rfl fun g14 => ?_)
  refine nx (t_st u0 ti72 rfl rfl rfl rfl rfl (.t (.s (.s (.s (.s .z))))) ?_)
  refine t_nil ?_
  refine t_then hK8 ?_
  refine t_seq fun K15 hK16 => ?_
  refine t_seq fun K17 hK18 => ?_
  refine t_region ?_
  refine c_p (r_fa (off' := 0) Tryd.underlying72 rfl ti3 rfl rfl) rfl ?_
  refine c_s (r_ld a0 Tryd.underlying3 rfl rfl rfl) rfl ?_
  refine t_nil ?_
  refine t_then hK18 ?_
  refine t_block ?_
  refine t_seq fun K19 hK20 => ?_
  refine t_region ?_
  refine c_p (r_i rfl rfl rfl) rfl ?_
  refine c_p (r_as rfl) rfl ?_
  refine t_nil ?_
  refine t_then hK20 ?_
  rcases Bool.eq_false_or_eq_true (y12.Type_ == 1331) with hb21 | hb21
  · replace h := itT hb21 h
    refine t_T rfl hb21 ?_
    refine t_seq fun K22 hK23 => ?_
    refine t_region ?_
    refine c_p (r_mv rfl) rfl ?_
    refine c_p (r_i rfl rfl rfl) rfl ?_
    refine c_p (r_mv rfl) rfl ?_
    obtain ⟨y24, hy24, h⟩ := bs h
    refine nx (t_ca (C17 _ _ _ _ _ _ _ hy24) Tryd.func17 nm17 rfl rfl rfl (.cons e2 .nil) (fun w Z hA => (V1 a0 hA (V1 a1 hA (V1 a2 hA V0)))) rfl fun t25 => ?_)
    refine c_p (r_i rfl rfl rfl) rfl ?_
    refine c_p (r_max rfl rfl) rfl ?_
    refine c_p (r_as rfl) rfl ?_
    refine t_nil ?_
    refine t_then hK23 ?_
    refine t_region ?_
    refine c_p (r_mv rfl) rfl ?_
    obtain ⟨y26, hy26, h⟩ := bs h
    refine nx (t_ca (C44 _ _ _ hy26) Tryd.func44 nm44 rfl rfl rfl .nil (fun w Z hA => (V1 a1 hA (V1 a2 hA V0))) rfl fun t27 => ?_)
    refine c_p (r_mv rfl) rfl ?_
    refine c_p (r_mv rfl) rfl ?_
    refine c_p (r_i rfl rfl rfl) rfl ?_
    refine c_p (r_max rfl rfl) rfl ?_
    obtain ⟨y28, hy28, h⟩ := bs h
    refine nx (t_ca (C44 _ _ _ hy28) Tryd.func44 nm44 rfl rfl rfl .nil (fun w Z hA => (V1 a1 hA (V1 a2 hA V0))) rfl fun t29 => ?_)
    obtain ⟨y30, hy30, h⟩ := bs h
    refine nx (t_ca (C44 _ _ _ hy30) Tryd.func44 nm44 rfl rfl rfl .nil (fun w Z hA => (V1 a1 hA (V1 a2 hA V0))) rfl fun t31 => ?_)
    refine nx (t_bs (ps := [(0, .agg #[.string y26.Name, .int .i64 y26.Kind, .int .i64 y26.Num, .string y26.Text]), (1, .agg #[.string y28.Name, .int .i64 y28.Kind, .int .i64 y28.Num, .string y28.Text]), (2, .agg #[.string y30.Name, .int .i64 y30.Kind, .int .i64 y30.Num, .string y30.Text])]) (cs := [.string y26.Name, .int .i64 y26.Kind, .int .i64 y26.Num, .string y26.Text, .string y28.Name, .int .i64 y28.Kind, .int .i64 y28.Num, .string y28.Text, .string y30.Name, .int .i64 y30.Kind, .int .i64 y30.Num, .string y30.Text]) Tryd.underlying70 ti76 rfl rfl (by kernel_rfl) rfl fun g32 => ?_)
    refine c_p (r_fa (off' := 3) Tryd.underlying72 rfl ti70 rfl rfl) rfl ?_
    refine nx (t_st u2 ti70 rfl rfl rfl rfl rfl (.s (.s (.s (.t (.s .z))))) ?_)
    refine t_nil ?_
    refine t_blockN ?_
    refine t_then hK16 ?_
    refine t_seq fun K46 hK47 => ?_
    refine t_region ?_
    refine c_s (r_ldA a2 Tryd.underlying72 rfl ti72 rfl rfl) rfl ?_
    refine nx (t_st u5 ti72 rfl rfl rfl rfl rfl (.t (.s (.s (.s (.s .z))))) ?_)
    refine t_nil ?_
    refine t_then hK47 ?_
    refine t_ret ?_
    refine t_tr (Kd := k_api_Pair) (xs := [y26, y28, y30]) (.cons e0 .nil) rfl (fun w Z S hA hN => flat_EO (S := Nil) k_api_Pair_flatK (er1 (c1 := [.string y26.Name, .int .i64 y26.Kind, .int .i64 y26.Num, .string y26.Text]) (k_api_Pair_shuts (x := y26) (t := ()) trivial) (er1 (c1 := [.string y28.Name, .int .i64 y28.Kind, .int .i64 y28.Num, .string y28.Text]) (k_api_Pair_shuts (x := y28) (t := ()) trivial) (er1 (c1 := [.string y30.Name, .int .i64 y30.Kind, .int .i64 y30.Num, .string y30.Text]) (k_api_Pair_shuts (x := y30) (t := ()) trivial) er0)))) ?_
    exact ret1 rfl (v_N rfl a5 Tryd.underlying72 rfl ti72 rfl) (t_leave (hQ _ (Option.some.inj h)) ((some ⟨g32, 0, none⟩), 3, 3) rfl (fun w Z hA => V0) (.cons e1 (.cons e0 .nil)))
  · replace h := itF hb21 h
    refine t_F rfl hb21 ?_
    refine t_region ?_
    refine c_p (r_mv rfl) rfl ?_
    obtain ⟨y33, hy33, h⟩ := bs h
    refine nx (t_ca (C54 _ _ _ _ _ _ hy33) Tryd.func54 nm54 rfl rfl rfl (.cons e2 .nil) (fun w Z hA => (V1 a0 hA (V1 a1 hA (V1 a2 hA V0)))) rfl fun t34 => ?_)
    obtain ⟨y35, hy35, h⟩ := bs h
    refine nx (t_ca (C44 _ _ _ hy35) Tryd.func44 nm44 rfl rfl rfl .nil (fun w Z hA => (V1 a1 hA (V1 a2 hA V0))) rfl fun t36 => ?_)
    refine c_p (r_mv rfl) rfl ?_
    obtain ⟨y37, hy37, h⟩ := bs h
    refine nx (t_ca (C47 _ _ _ _ _ _ hy37) Tryd.func47 nm47 rfl rfl rfl (.cons e0 .nil) (fun w Z hA => (V1 a0 hA (V1 a1 hA (V1 a2 hA V0)))) rfl fun t38 => ?_)
    obtain ⟨y39, hy39, h⟩ := bs h
    refine nx (t_ca (C44 _ _ _ hy39) Tryd.func44 nm44 rfl rfl rfl .nil (fun w Z hA => (V1 a1 hA (V1 a2 hA V0))) rfl fun t40 => ?_)
    refine c_p (r_mv rfl) rfl ?_
    obtain ⟨y41, hy41, h⟩ := bs h
    refine nx (t_ca (C46 _ _ _ _ _ _ hy41) Tryd.func46 nm46 rfl rfl rfl (.cons e0 .nil) (fun w Z hA => (V1 a0 hA (V1 a1 hA (V1 a2 hA V0)))) rfl fun t42 => ?_)
    obtain ⟨y43, hy43, h⟩ := bs h
    refine nx (t_ca (C45 _ _ _ hy43) Tryd.func45 nm45 rfl rfl rfl .nil (fun w Z hA => (V1 a1 hA (V1 a2 hA V0))) rfl fun t44 => ?_)
    refine nx (t_bs (ps := [(0, .agg #[.string y35.Name, .int .i64 y35.Kind, .int .i64 y35.Num, .string y35.Text]), (1, .agg #[.string y39.Name, .int .i64 y39.Kind, .int .i64 y39.Num, .string y39.Text]), (2, .agg #[.string y43.Name, .int .i64 y43.Kind, .int .i64 y43.Num, .string y43.Text])]) (cs := [.string y35.Name, .int .i64 y35.Kind, .int .i64 y35.Num, .string y35.Text, .string y39.Name, .int .i64 y39.Kind, .int .i64 y39.Num, .string y39.Text, .string y43.Name, .int .i64 y43.Kind, .int .i64 y43.Num, .string y43.Text]) Tryd.underlying70 ti76 rfl rfl (by kernel_rfl) rfl fun g45 => ?_)
    refine c_p (r_fa (off' := 3) Tryd.underlying72 rfl ti70 rfl rfl) rfl ?_
    refine nx (t_st u2 ti70 rfl rfl rfl rfl rfl (.s (.s (.s (.t (.s .z))))) ?_)
    refine t_nil ?_
    refine t_blockN ?_
    refine t_then hK16 ?_
    refine t_seq fun K48 hK49 => ?_
    refine t_region ?_
    refine c_s (r_ldA a2 Tryd.underlying72 rfl ti72 rfl rfl) rfl ?_
    refine nx (t_st u5 ti72 rfl rfl rfl rfl rfl (.t (.s (.s (.s (.s .z))))) ?_)
    refine t_nil ?_
    refine t_then hK49 ?_
    refine t_ret ?_
    refine t_tr (Kd := k_api_Pair) (xs := [y35, y39, y43]) (.cons e0 .nil) rfl (fun w Z S hA hN => flat_EO (S := Nil) k_api_Pair_flatK (er1 (c1 := [.string y35.Name, .int .i64 y35.Kind, .int .i64 y35.Num, .string y35.Text]) (k_api_Pair_shuts (x := y35) (t := ()) trivial) (er1 (c1 := [.string y39.Name, .int .i64 y39.Kind, .int .i64 y39.Num, .string y39.Text]) (k_api_Pair_shuts (x := y39) (t := ()) trivial) (er1 (c1 := [.string y43.Name, .int .i64 y43.Kind, .int .i64 y43.Num, .string y43.Text]) (k_api_Pair_shuts (x := y43) (t := ()) trivial) er0)))) ?_
    exact ret1 rfl (v_N rfl a5 Tryd.underlying72 rfl ti72 rfl) (t_leave (hQ _ (Option.some.inj h)) ((some ⟨g45, 0, none⟩), 3, 3) rfl (fun w Z hA => V0) (.cons e1 (.cons e0 .nil)))
end
end Go.Proofs.YthmjklpmamfncaaDoor.Gx

/- Function 77, (*kaudit/kauditmill.Case).word: what it answers as a plain function, and that the Go code comes to exactly that (where the plain function gives an answer). -/
set_option linter.unusedVariables false
set_option linter.unusedSimpArgs false
namespace Go.Proofs.YthmjklpmamfncaaDoor.Gx
open Go.Gx Go.RowKit
noncomputable section
/-! ### (*kaudit/kauditmill.Case).word: function 77 -/
def f_kauditmill_Case_word (z0 : kauditmill_Case) (z1 : (List ByteArray)) : Option (ByteArray × Int) := (f_kauditmill_Case_Int z0 (z1.length : Int)).bind fun y11 => (at_ z1 y11.1).bind fun el16 => some (el16, y11.2)
set_option maxHeartbeats 4000000 in
set_option maxRecDepth 100000 in
theorem C77 (z0 : kauditmill_Case) (z1 : (List ByteArray)) (g_ : Nat) (p1 : Option Addr) (m2 : Nat) (c3 : Nat) (p4 : Option Addr) (m5 : Nat) (c6 : Nat) (r : ByteArray × Int) (h : f_kauditmill_Case_word z0 z1 = some r) : FunG Tryd.prog 77 #[.pointer (some ⟨g_, 0, none⟩), .slice p4 m5 c6] [vw (kSlice 5 (kInt .u8)) z0.codes [.slice p1 m2 c3], vw (kSlice 9 kStr) z1 [.slice p4 m5 c6], g_pow10, g_kinds] [[blk g_ [.slice p1 m2 c3, .int .i64 z0.at_] 43]] (fun (_ : Unit) => .string r.1) (fun _ => []) (fun _ => [[blk g_ [.slice p1 m2 c3, .int .i64 r.2] 43]]) := by
  unfold f_kauditmill_Case_word at h
  refine t_begin (args := [.pointer (some ⟨g_, 0, none⟩), .slice p4 m5 c6]) Tryd.func77 rfl Tryd.ntmps77 rfl fun c R hR => ?_
  have hQ : ∀ X, X = r → ∀ w2 (_ : Unit), PostG c.w0 w2 c.M c.Y [] [[blk g_ [.slice p1 m2 c3, .int .i64 X.2] 43]] → R (.returned (.string X.1)) w2 := fun X e => by subst e; exact hR
  refine t_seq fun K7 hK8 => ?_
  refine t_region ?_
  refine c_p (r_as rfl) rfl ?_
  refine t_nil ?_
  refine t_then hK8 ?_
  refine t_seq fun K9 hK10 => ?_
  refine t_region ?_
  refine c_p (r_mv rfl) rfl ?_
  refine c_p (r_mv rfl) rfl ?_
  refine c_p (r_mv rfl) rfl ?_
  refine c_s (r_lnA a1 Tryd.underlying54 rfl) rfl ?_
  obtain ⟨y11, hy11, h⟩ := bs h
  refine nx (t_ca (C17 _ _ _ _ _ _ _ hy11) Tryd.func17 nm17 rfl rfl rfl (.cons e0 .nil) (fun w Z hA => (V1 a0 hA (V1 a2 hA (V1 a3 hA V0)))) rfl fun t12 => ?_)
  obtain ⟨el16, hel16, h⟩ := bs h
  refine t_q a1 hel16 fun q13 hq14 hm15 => ?_
  refine c_p (r_idx hq14 hm15 hel16 Tryd.underlying54 ti9 rfl rfl) rfl ?_
  refine t_op opens_str a1 hel16 fun t17 => ?_
  refine c_s (r_e1 a0 hq14 Tryd.underlying9 rfl rfl rfl) rfl ?_
  refine c_p (r_as rfl) rfl ?_
  refine t_nil ?_
  refine t_then hK10 ?_
  refine t_ret ?_
  exact ret1 rfl (v_t rfl) (t_leave (hQ _ (Option.some.inj h)) () rfl (fun w Z hA => V0) (.cons e0 .nil))
end
end Go.Proofs.YthmjklpmamfncaaDoor.Gx

/- Function 55, (*kaudit/kauditmill.Case).outcome: what it answers as a plain function, and that the Go code comes to exactly that (where the plain function gives an answer). -/
set_option linter.unusedVariables false
set_option linter.unusedSimpArgs false
namespace Go.Proofs.YthmjklpmamfncaaDoor.Gx
open Go.Gx Go.RowKit
noncomputable section
/-! ### (*kaudit/kauditmill.Case).outcome: function 55 -/
def f_kauditmill_Case_outcome (z0 : kauditmill_Case) : Option (ByteArray × Int × Int) := (f_kauditmill_Case_word z0 [(⟨#[121, 101, 115]⟩ : ByteArray), (⟨#[121, 101, 115]⟩ : ByteArray), (⟨#[110, 111]⟩ : ByteArray)]).bind fun y9 => (f_kauditmill_Case_Pick (⟨z0.codes, y9.2⟩ : kauditmill_Case) [0, 2, 3, 6, (-2), (-13)]).bind fun y12 => some (y9.1, y12.1, y12.2)
set_option maxHeartbeats 4000000 in
set_option maxRecDepth 100000 in
theorem C55 (z0 : kauditmill_Case) (g_ : Nat) (p1 : Option Addr) (m2 : Nat) (c3 : Nat) (r : ByteArray × Int × Int) (h : f_kauditmill_Case_outcome z0 = some r) : FunG Tryd.prog 55 #[.pointer (some ⟨g_, 0, none⟩)] [vw (kSlice 5 (kInt .u8)) z0.codes [.slice p1 m2 c3], g_pow10, g_kinds] [[blk g_ [.slice p1 m2 c3, .int .i64 z0.at_] 43]] (fun (_ : Unit) => .tuple #[.string r.1, .int .i64 r.2.1]) (fun _ => []) (fun _ => [[blk g_ [.slice p1 m2 c3, .int .i64 r.2.2] 43]]) := by
  unfold f_kauditmill_Case_outcome at h
  refine t_begin (args := [.pointer (some ⟨g_, 0, none⟩)]) Tryd.func55 rfl Tryd.ntmps55 rfl fun c R hR => ?_
  have hQ : ∀ X, X = r → ∀ w2 (_ : Unit), PostG c.w0 w2 c.M c.Y [] [[blk g_ [.slice p1 m2 c3, .int .i64 X.2.2] 43]] → R (.returned (.tuple #[.string X.1, .int .i64 X.2.1])) w2 := fun X e => by subst e; exact hR
  refine t_seq fun K4 hK5 => ?_
  refine t_region ?_
  refine c_p (r_as rfl) rfl ?_
  refine c_p (r_as rfl) rfl ?_
  refine t_nil ?_
  refine t_then hK5 ?_
  refine t_seq fun K6 hK7 => ?_
  refine t_region ?_
  refine c_p (r_mv rfl) rfl ?_
  refine nx (t_bs (ps := [(0, .string (⟨#[121, 101, 115]⟩ : ByteArray)), (1, .string (⟨#[121, 101, 115]⟩ : ByteArray)), (2, .string (⟨#[110, 111]⟩ : ByteArray))]) (cs := [.string (⟨#[121, 101, 115]⟩ : ByteArray), .string (⟨#[121, 101, 115]⟩ : ByteArray), .string (⟨#[110, 111]⟩ : ByteArray)]) Tryd.underlying54 ti9 rfl rfl (by kernel_rfl) rfl fun g8 => ?_)
  refine t_tr (Kd := kStr) (xs := [(⟨#[121, 101, 115]⟩ : ByteArray), (⟨#[121, 101, 115]⟩ : ByteArray), (⟨#[110, 111]⟩ : ByteArray)]) (.cons e0 .nil) rfl (fun w Z S hA hN => flat_EO (S := Nil) flatK_str (er1 (c1 := [.string (⟨#[121, 101, 115]⟩ : ByteArray)]) rfl (er1 (c1 := [.string (⟨#[121, 101, 115]⟩ : ByteArray)]) rfl (er1 (c1 := [.string (⟨#[110, 111]⟩ : ByteArray)]) rfl er0)))) ?_
  obtain ⟨y9, hy9, h⟩ := bs h
  refine nx (t_cf (C77 _ _ _ _ _ _ _ _ _ _ hy9) (fun _ => (flat_blk flat_nil)) Tryd.func77 nm77 rfl rfl rfl (.cons e1 .nil) (fun w Z S hA hL => (F1 a0 hA (FL a0 hL (F1 a1 hA (F1 a2 hA F0))))) rfl fun t10 => ?_)
  refine c_p (r_mv rfl) rfl ?_
  refine nx (t_bs (ps := [(0, .int .i64 0), (1, .int .i64 2), (2, .int .i64 3), (3, .int .i64 6), (4, .int .i64 (-2)), (5, .int .i64 (-13))]) (cs := [.int .i64 0, .int .i64 2, .int .i64 3, .int .i64 6, .int .i64 (-2), .int .i64 (-13)]) Tryd.underlying49 ti3 rfl rfl (by kernel_rfl) rfl fun g11 => ?_)
  refine t_tr (Kd := (kInt .i64)) (xs := [0, 2, 3, 6, (-2), (-13)]) (.cons e0 .nil) rfl (fun w Z S hA hN => flat_EO (S := Nil) (flatK_int .i64) (er1 (c1 := [.int .i64 0]) rfl (er1 (c1 := [.int .i64 2]) rfl (er1 (c1 := [.int .i64 3]) rfl (er1 (c1 := [.int .i64 6]) rfl (er1 (c1 := [.int .i64 (-2)]) rfl (er1 (c1 := [.int .i64 (-13)]) rfl er0))))))) ?_
  obtain ⟨y12, hy12, h⟩ := bs h
  refine nx (t_cf (C22 _ _ _ _ _ _ _ _ _ _ hy12) (fun _ => (flat_blk flat_nil)) Tryd.func22 nm22 rfl rfl rfl (.cons e1 .nil) (fun w Z S hA hL => (F1 a0 hA (FL a0 hL (F1 a1 hA (F1 a2 hA F0))))) rfl fun t13 => ?_)
  refine c_p (r_as rfl) rfl ?_
  refine c_p (r_as rfl) rfl ?_
  refine t_nil ?_
  refine t_then hK7 ?_
  refine t_ret ?_
  exact ret2 rfl (v_t rfl) (v_t rfl) (t_leave (hQ _ (Option.some.inj h)) () rfl (fun w Z hA => V0) (.cons e0 .nil))
end
end Go.Proofs.YthmjklpmamfncaaDoor.Gx

/- Function 56, (*kaudit/kauditmill.Case).call: what it answers as a plain function, and that the Go code comes to exactly that (where the plain function gives an answer). -/
set_option linter.unusedVariables false
set_option linter.unusedSimpArgs false
namespace Go.Proofs.YthmjklpmamfncaaDoor.Gx
open Go.Gx Go.RowKit
noncomputable section
/-! ### (*kaudit/kauditmill.Case).call: function 56 -/
def f_kauditmill_Case_call (z0 : kauditmill_Case) : Option (ByteArray × Int) := (f_kauditmill_Case_word z0 [(⟨#[109, 107, 100, 105, 114]⟩ : ByteArray), (⟨#[102, 111, 114, 107]⟩ : ByteArray), (⟨#[101, 120, 105, 116]⟩ : ByteArray), (⟨#[108, 111, 103, 105, 110]⟩ : ByteArray), (⟨#[107, 105, 108, 108]⟩ : ByteArray), (⟨#[111, 112, 101, 110]⟩ : ByteArray), (⟨#[117, 110, 108, 105, 110, 107]⟩ : ByteArray)]).bind fun y9 => some (y9.1, y9.2)
set_option maxHeartbeats 4000000 in
set_option maxRecDepth 100000 in
theorem C56 (z0 : kauditmill_Case) (g_ : Nat) (p1 : Option Addr) (m2 : Nat) (c3 : Nat) (r : ByteArray × Int) (h : f_kauditmill_Case_call z0 = some r) : FunG Tryd.prog 56 #[.pointer (some ⟨g_, 0, none⟩)] [vw (kSlice 5 (kInt .u8)) z0.codes [.slice p1 m2 c3], g_pow10, g_kinds] [[blk g_ [.slice p1 m2 c3, .int .i64 z0.at_] 43]] (fun (_ : Unit) => .string r.1) (fun _ => []) (fun _ => [[blk g_ [.slice p1 m2 c3, .int .i64 r.2] 43]]) := by
  unfold f_kauditmill_Case_call at h
  refine t_begin (args := [.pointer (some ⟨g_, 0, none⟩)]) Tryd.func56 rfl Tryd.ntmps56 rfl fun c R hR => ?_
  have hQ : ∀ X, X = r → ∀ w2 (_ : Unit), PostG c.w0 w2 c.M c.Y [] [[blk g_ [.slice p1 m2 c3, .int .i64 X.2] 43]] → R (.returned (.string X.1)) w2 := fun X e => by subst e; exact hR
  refine t_seq fun K4 hK5 => ?_
  refine t_region ?_
  refine c_p (r_as rfl) rfl ?_
  refine t_nil ?_
  refine t_then hK5 ?_
  refine t_seq fun K6 hK7 => ?_
  refine t_region ?_
  refine c_p (r_mv rfl) rfl ?_
  refine nx (t_bs (ps := [(0, .string (⟨#[109, 107, 100, 105, 114]⟩ : ByteArray)), (1, .string (⟨#[102, 111, 114, 107]⟩ : ByteArray)), (2, .string (⟨#[101, 120, 105, 116]⟩ : ByteArray)), (3, .string (⟨#[108, 111, 103, 105, 110]⟩ : ByteArray)), (4, .string (⟨#[107, 105, 108, 108]⟩ : ByteArray)), (5, .string (⟨#[111, 112, 101, 110]⟩ : ByteArray)), (6, .string (⟨#[117, 110, 108, 105, 110, 107]⟩ : ByteArray))]) (cs := [.string (⟨#[109, 107, 100, 105, 114]⟩ : ByteArray), .string (⟨#[102, 111, 114, 107]⟩ : ByteArray), .string (⟨#[101, 120, 105, 116]⟩ : ByteArray), .string (⟨#[108, 111, 103, 105, 110]⟩ : ByteArray), .string (⟨#[107, 105, 108, 108]⟩ : ByteArray), .string (⟨#[111, 112, 101, 110]⟩ : ByteArray), .string (⟨#[117, 110, 108, 105, 110, 107]⟩ : ByteArray)]) Tryd.underlying54 ti9 rfl rfl (by kernel_rfl) rfl fun g8 => ?_)
  refine t_tr (Kd := kStr) (xs := [(⟨#[109, 107, 100, 105, 114]⟩ : ByteArray), (⟨#[102, 111, 114, 107]⟩ : ByteArray), (⟨#[101, 120, 105, 116]⟩ : ByteArray), (⟨#[108, 111, 103, 105, 110]⟩ : ByteArray), (⟨#[107, 105, 108, 108]⟩ : ByteArray), (⟨#[111, 112, 101, 110]⟩ : ByteArray), (⟨#[117, 110, 108, 105, 110, 107]⟩ : ByteArray)]) (.cons e0 .nil) rfl (fun w Z S hA hN => flat_EO (S := Nil) flatK_str (er1 (c1 := [.string (⟨#[109, 107, 100, 105, 114]⟩ : ByteArray)]) rfl (er1 (c1 := [.string (⟨#[102, 111, 114, 107]⟩ : ByteArray)]) rfl (er1 (c1 := [.string (⟨#[101, 120, 105, 116]⟩ : ByteArray)]) rfl (er1 (c1 := [.string (⟨#[108, 111, 103, 105, 110]⟩ : ByteArray)]) rfl (er1 (c1 := [.string (⟨#[107, 105, 108, 108]⟩ : ByteArray)]) rfl (er1 (c1 := [.string (⟨#[111, 112, 101, 110]⟩ : ByteArray)]) rfl (er1 (c1 := [.string (⟨#[117, 110, 108, 105, 110, 107]⟩ : ByteArray)]) rfl er0)))))))) ?_
  obtain ⟨y9, hy9, h⟩ := bs h
  refine nx (t_cf (C77 _ _ _ _ _ _ _ _ _ _ hy9) (fun _ => (flat_blk flat_nil)) Tryd.func77 nm77 rfl rfl rfl (.cons e1 .nil) (fun w Z S hA hL => (F1 a0 hA (FL a0 hL (F1 a1 hA (F1 a2 hA F0))))) rfl fun t10 => ?_)
  refine c_p (r_as rfl) rfl ?_
  refine t_nil ?_
  refine t_then hK7 ?_
  refine t_ret ?_
  exact ret1 rfl (v_t rfl) (t_leave (hQ _ (Option.some.inj h)) () rfl (fun w Z hA => V0) (.cons e0 .nil))
end
end Go.Proofs.YthmjklpmamfncaaDoor.Gx

/- Function 57, (*kaudit/kauditmill.Case).session: what it answers as a plain function, and that the Go code comes to exactly that (where the plain function gives an answer). -/
set_option linter.unusedVariables false
set_option linter.unusedSimpArgs false
namespace Go.Proofs.YthmjklpmamfncaaDoor.Gx
open Go.Gx Go.RowKit
noncomputable section
/-! ### (*kaudit/kauditmill.Case).session: function 57 -/
def f_kauditmill_Case_session (z0 : kauditmill_Case) : Option (Int × Int) := (f_kauditmill_Case_Pick z0 [1, 2, 4294967295, 1, 3]).bind fun y9 => some (y9.1, y9.2)
set_option maxHeartbeats 4000000 in
set_option maxRecDepth 100000 in
theorem C57 (z0 : kauditmill_Case) (g_ : Nat) (p1 : Option Addr) (m2 : Nat) (c3 : Nat) (r : Int × Int) (h : f_kauditmill_Case_session z0 = some r) : FunG Tryd.prog 57 #[.pointer (some ⟨g_, 0, none⟩)] [vw (kSlice 5 (kInt .u8)) z0.codes [.slice p1 m2 c3], g_pow10, g_kinds] [[blk g_ [.slice p1 m2 c3, .int .i64 z0.at_] 43]] (fun (_ : Unit) => .int .i64 r.1) (fun _ => []) (fun _ => [[blk g_ [.slice p1 m2 c3, .int .i64 r.2] 43]]) := by
  unfold f_kauditmill_Case_session at h
  refine t_begin (args := [.pointer (some ⟨g_, 0, none⟩)]) Tryd.func57 rfl Tryd.ntmps57 rfl fun c R hR => ?_
  have hQ : ∀ X, X = r → ∀ w2 (_ : Unit), PostG c.w0 w2 c.M c.Y [] [[blk g_ [.slice p1 m2 c3, .int .i64 X.2] 43]] → R (.returned (.int .i64 X.1)) w2 := fun X e => by subst e; exact hR
  refine t_seq fun K4 hK5 => ?_
  refine t_region ?_
  refine c_p (r_as rfl) rfl ?_
  refine t_nil ?_
  refine t_then hK5 ?_
  refine t_seq fun K6 hK7 => ?_
  refine t_region ?_
  refine c_p (r_mv rfl) rfl ?_
  refine nx (t_bs (ps := [(0, .int .i64 1), (1, .int .i64 2), (2, .int .i64 4294967295), (3, .int .i64 1), (4, .int .i64 3)]) (cs := [.int .i64 1, .int .i64 2, .int .i64 4294967295, .int .i64 1, .int .i64 3]) Tryd.underlying49 ti3 rfl rfl (by kernel_rfl) rfl fun g8 => ?_)
  refine t_tr (Kd := (kInt .i64)) (xs := [1, 2, 4294967295, 1, 3]) (.cons e0 .nil) rfl (fun w Z S hA hN => flat_EO (S := Nil) (flatK_int .i64) (er1 (c1 := [.int .i64 1]) rfl (er1 (c1 := [.int .i64 2]) rfl (er1 (c1 := [.int .i64 4294967295]) rfl (er1 (c1 := [.int .i64 1]) rfl (er1 (c1 := [.int .i64 3]) rfl er0)))))) ?_
  obtain ⟨y9, hy9, h⟩ := bs h
  refine nx (t_cf (C22 _ _ _ _ _ _ _ _ _ _ hy9) (fun _ => (flat_blk flat_nil)) Tryd.func22 nm22 rfl rfl rfl (.cons e1 .nil) (fun w Z S hA hL => (F1 a0 hA (FL a0 hL (F1 a1 hA (F1 a2 hA F0))))) rfl fun t10 => ?_)
  refine c_p (r_as rfl) rfl ?_
  refine t_nil ?_
  refine t_then hK7 ?_
  refine t_ret ?_
  exact ret1 rfl (v_t rfl) (t_leave (hQ _ (Option.some.inj h)) () rfl (fun w Z hA => V0) (.cons e0 .nil))
end
end Go.Proofs.YthmjklpmamfncaaDoor.Gx

/- Function 58, (*kaudit/kauditmill.Case).null: what it answers as a plain function, and that the Go code comes to exactly that (where the plain function gives an answer). -/
set_option linter.unusedVariables false
set_option linter.unusedSimpArgs false
namespace Go.Proofs.YthmjklpmamfncaaDoor.Gx
open Go.Gx Go.RowKit
noncomputable section
/-! ### (*kaudit/kauditmill.Case).null: function 58 -/
def f_kauditmill_Case_null (z0 : kauditmill_Case) (z1 : ByteArray) : Option (api_Pair) := some (⟨z1, 3, 0, (⟨#[]⟩ : ByteArray)⟩ : api_Pair)
set_option maxHeartbeats 4000000 in
set_option maxRecDepth 100000 in
theorem C58 (z0 : kauditmill_Case) (z1 : ByteArray) (g_ : Nat) (p1 : Option Addr) (m2 : Nat) (c3 : Nat) (r : api_Pair) (h : f_kauditmill_Case_null z0 z1 = some r) : FunG Tryd.prog 58 #[.pointer (some ⟨g_, 0, none⟩), .string z1] [vw (kSlice 5 (kInt .u8)) z0.codes [.slice p1 m2 c3], g_pow10, g_kinds] [[blk g_ [.slice p1 m2 c3, .int .i64 z0.at_] 43]] (fun (_ : Unit) => .agg #[.string r.Name, .int .i64 r.Kind, .int .i64 r.Num, .string r.Text]) (fun _ => []) (fun _ => [[blk g_ [.slice p1 m2 c3, .int .i64 z0.at_] 43]]) := by
  unfold f_kauditmill_Case_null at h
  refine t_begin (args := [.pointer (some ⟨g_, 0, none⟩), .string z1]) Tryd.func58 rfl Tryd.ntmps58 rfl fun c R hR => ?_
  have hQ : ∀ X, X = r → ∀ w2 (_ : Unit), PostG c.w0 w2 c.M c.Y [] [[blk g_ [.slice p1 m2 c3, .int .i64 z0.at_] 43]] → R (.returned (.agg #[.string X.Name, .int .i64 X.Kind, .int .i64 X.Num, .string X.Text])) w2 := fun X e => by subst e; exact hR
  refine t_seq fun K4 hK5 => ?_
  refine t_region ?_
  refine nx (t_al (cs := [.string (⟨#[]⟩ : ByteArray), .int .i64 0, .int .i64 0, .string (⟨#[]⟩ : ByteArray)]) ti76 rfl rfl fun g6 => ?_)
  refine t_nil ?_
  refine t_then hK5 ?_
  refine t_seq fun K7 hK8 => ?_
  refine t_region ?_
  refine c_p (r_mv rfl) rfl ?_
  refine c_p (r_bu (ps := [(0, .string z1), (1, .int .i64 3)]) (cs := [.string z1, .int .i64 3, .int .i64 0, .string (⟨#[]⟩ : ByteArray)]) rfl (by kernel_rfl)) rfl ?_
  refine nx (t_st u0 ti76 rfl rfl rfl rfl rfl (.t (.s (.s (.s (.s .z))))) ?_)
  refine t_nil ?_
  refine t_then hK8 ?_
  refine t_ret ?_
  exact ret1 rfl (v_N rfl a0 Tryd.underlying76 rfl ti76 rfl) (t_leave (hQ _ (Option.some.inj h)) () rfl (fun w Z hA => V0) (.cons e1 .nil))
end
end Go.Proofs.YthmjklpmamfncaaDoor.Gx

/- Function 42, (*kaudit/kauditmill.Case).syscall: what it answers as a plain function, and that the Go code comes to exactly that (where the plain function gives an answer). -/
set_option linter.unusedVariables false
set_option linter.unusedSimpArgs false
namespace Go.Proofs.YthmjklpmamfncaaDoor.Gx
open Go.Gx Go.RowKit
noncomputable section
/-! ### (*kaudit/kauditmill.Case).syscall: function 42 -/
def f_kauditmill_Case_syscall_j1 (z0 : kauditmill_Case) (y9 : api_Record) (x70 : Int) (x74 : List api_Pair) : Option (api_Record × Int) := (f_kauditmill_Case_Bool (⟨z0.codes, x70⟩ : kauditmill_Case) 9).bind fun y81 => if y81.1 = true then ((f_kauditmill_Case_Int (⟨z0.codes, y81.2⟩ : kauditmill_Case) (IntKind.wrap .i64 ((x74.length : Int) + 1))).bind fun y86 => ck (cutOk x74 0 y86.1) <| some ((⟨y9.Type_, y9.Time, y9.Serial, (cut x74 0 y86.1)⟩ : api_Record), y86.2)) else (some ((⟨y9.Type_, y9.Time, y9.Serial, x74⟩ : api_Record), y81.2))
def f_kauditmill_Case_syscall (z0 : kauditmill_Case) (z1 : Int) (z2 : Int) : Option (api_Record × Int) := (f_kauditmill_record 1300 z1 z2).bind fun y9 => (f_kauditmill_Case_outcome z0).bind fun y14 => (f_kauditmill_Case_call (⟨z0.codes, y14.2.2⟩ : kauditmill_Case)).bind fun y18 => (f_kauditmill_Str (⟨#[99, 97, 108, 108]⟩ : ByteArray) y18.1).bind fun y20 => (f_kauditmill_Str (⟨#[115, 117, 99, 99, 101, 115, 115]⟩ : ByteArray) y14.1).bind fun y22 => (f_kauditmill_Num (⟨#[101, 120, 105, 116]⟩ : ByteArray) y14.2.1).bind fun y24 => (f_kauditmill_Case_process (⟨z0.codes, y18.2⟩ : kauditmill_Case)).bind fun y26 => (f_kauditmill_Num (⟨#[97, 48]⟩ : ByteArray) y26.1).bind fun y28 => (f_kauditmill_Case_Int (⟨z0.codes, y26.2⟩ : kauditmill_Case) 3).bind fun y30 => (f_kauditmill_Num (⟨#[97, 49]⟩ : ByteArray) y30.1).bind fun y32 => (f_kauditmill_Case_process (⟨z0.codes, y30.2⟩ : kauditmill_Case)).bind fun y34 => (f_kauditmill_Num (⟨#[112, 105, 100]⟩ : ByteArray) y34.1).bind fun y36 => (f_kauditmill_Case_ids (⟨z0.codes, y34.2⟩ : kauditmill_Case)).bind fun y38 => (f_kauditmill_Num (⟨#[97, 117, 105, 100]⟩ : ByteArray) y38.1).bind fun y40 => (f_kauditmill_Case_ids (⟨z0.codes, y38.2⟩ : kauditmill_Case)).bind fun y42 => (f_kauditmill_Num (⟨#[117, 105, 100]⟩ : ByteArray) y42.1).bind fun y44 => (f_kauditmill_Case_session (⟨z0.codes, y42.2⟩ : kauditmill_Case)).bind fun y46 => (f_kauditmill_Num (⟨#[115, 101, 115]⟩ : ByteArray) y46.1).bind fun y48 => (f_kauditmill_Case_Text (⟨z0.codes, y46.2⟩ : kauditmill_Case)).bind fun y50 => (f_kauditmill_Str (⟨#[99, 111, 109, 109]⟩ : ByteArray) y50.1).bind fun y52 => (f_kauditmill_Case_Bool (⟨z0.codes, y50.2⟩ : kauditmill_Case) 3).bind fun y59 => if y59.1 = true then ((f_kauditmill_Case_null (⟨z0.codes, y59.2⟩ : kauditmill_Case) (⟨#[107, 101, 121]⟩ : ByteArray)).bind fun y64 => ck (fits ([y20, y22, y24, y28, y32, y36, y40, y44, y48, y52].length + [y64].length) 48 = true) <| f_kauditmill_Case_syscall_j1 z0 y9 y59.2 ([y20, y22, y24, y28, y32, y36, y40, y44, y48, y52] ++ [y64])) else (f_kauditmill_Case_syscall_j1 z0 y9 y59.2 [y20, y22, y24, y28, y32, y36, y40, y44, y48, y52])
set_option maxHeartbeats 4000000 in
set_option maxRecDepth 100000 in
theorem C42 (z0 : kauditmill_Case) (z1 : Int) (z2 : Int) (g_ : Nat) (p1 : Option Addr) (m2 : Nat) (c3 : Nat) (r : api_Record × Int) (h : f_kauditmill_Case_syscall z0 z1 z2 = some r) : FunG Tryd.prog 42 #[.pointer (some ⟨g_, 0, none⟩), .int .i64 z1, .int .i64 z2] [vw (kSlice 5 (kInt .u8)) z0.codes [.slice p1 m2 c3], g_pow10, g_kinds] [[blk g_ [.slice p1 m2 c3, .int .i64 z0.at_] 43]] (fun t : (Option Addr × Nat × Nat) => .agg #[.int .i64 r.1.Type_, .int .i64 r.1.Time, .int .i64 r.1.Serial, .slice t.1 t.2.1 t.2.2]) (fun t => []) (fun t => [[blk g_ [.slice p1 m2 c3, .int .i64 r.2] 43], [row 76 k_api_Pair r.1.Pairs (.slice t.1 t.2.1 t.2.2)]]) := by
  unfold f_kauditmill_Case_syscall at h
  refine t_begin (args := [.pointer (some ⟨g_, 0, none⟩), .int .i64 z1, .int .i64 z2]) Tryd.func42 rfl Tryd.ntmps42 rfl fun c R hR => ?_
  have hQ : ∀ X, X = r → ∀ w2 (t : (Option Addr × Nat × Nat)), PostG c.w0 w2 c.M c.Y [] [[blk g_ [.slice p1 m2 c3, .int .i64 X.2] 43], [row 76 k_api_Pair X.1.Pairs (.slice t.1 t.2.1 t.2.2)]] → R (.returned (.agg #[.int .i64 X.1.Type_, .int .i64 X.1.Time, .int .i64 X.1.Serial, .slice t.1 t.2.1 t.2.2])) w2 := fun X e => by subst e; exact hR
  refine t_seq fun K4 hK5 => ?_
  refine t_region ?_
  refine nx (t_al (cs := [.int .i64 0, .int .i64 0, .int .i64 0, .slice none 0 0]) ti72 rfl rfl fun g6 => ?_)
  refine t_nil ?_
  refine t_then hK5 ?_
  refine t_seq fun K7 hK8 => ?_
  refine t_region ?_
  refine c_p (r_mv rfl) rfl ?_
  refine c_p (r_mv rfl) rfl ?_
  obtain ⟨y9, hy9, h⟩ := bs h
  refine nx (t_ca (C43 _ _ _ _ hy9) Tryd.func43 nm43 rfl rfl rfl .nil (fun w Z hA => (V1 a1 hA (V1 a2 hA V0))) rfl fun t10 => ?_)
  refine nx (t_al (cs := [.int .i64 0, .int .i64 0, .int .i64 0, .slice none 0 0]) ti72 rfl rfl fun g11 => ?_)
  refine nx (t_st u0 ti72 rfl rfl rfl rfl rfl (.t (.s (.s (.s (.s .z))))) ?_)
  refine t_nil ?_
  refine t_then hK8 ?_
  refine t_seq fun K12 hK13 => ?_
  refine t_region ?_
  refine c_p (r_mv rfl) rfl ?_
  obtain ⟨y14, hy14, h⟩ := bs h
  refine nx (t_ca (C55 _ _ _ _ _ _ hy14) Tryd.func55 nm55 rfl rfl rfl (.cons e3 .nil) (fun w Z hA => (V1 a0 hA (V1 a1 hA (V1 a2 hA V0)))) rfl fun t15 => ?_)
  refine c_p (r_mv rfl) rfl ?_
  refine c_p (r_ex rfl rfl) rfl ?_
  refine c_p (r_ex rfl rfl) rfl ?_
  refine c_p (r_as rfl) rfl ?_
  refine c_p (r_as rfl) rfl ?_
  refine t_nil ?_
  refine t_then hK13 ?_
  refine t_seq fun K16 hK17 => ?_
  refine t_region ?_
  refine c_p (r_mv rfl) rfl ?_
  obtain ⟨y18, hy18, h⟩ := bs h
  refine nx (t_ca (C56 _ _ _ _ _ _ hy18) Tryd.func56 nm56 rfl rfl rfl (.cons e0 .nil) (fun w Z hA => (V1 a0 hA (V1 a1 hA (V1 a2 hA V0)))) rfl fun t19 => ?_)
  obtain ⟨y20, hy20, h⟩ := bs h
  refine nx (t_ca (C45 _ _ _ hy20) Tryd.func45 nm45 rfl rfl rfl .nil (fun w Z hA => (V1 a1 hA (V1 a2 hA V0))) rfl fun t21 => ?_)
  refine c_p (r_mv rfl) rfl ?_
  obtain ⟨y22, hy22, h⟩ := bs h
  refine nx (t_ca (C45 _ _ _ hy22) Tryd.func45 nm45 rfl rfl rfl .nil (fun w Z hA => (V1 a1 hA (V1 a2 hA V0))) rfl fun t23 => ?_)
  refine c_p (r_mv rfl) rfl ?_
  obtain ⟨y24, hy24, h⟩ := bs h
  refine nx (t_ca (C44 _ _ _ hy24) Tryd.func44 nm44 rfl rfl rfl .nil (fun w Z hA => (V1 a1 hA (V1 a2 hA V0))) rfl fun t25 => ?_)
  refine c_p (r_mv rfl) rfl ?_
  obtain ⟨y26, hy26, h⟩ := bs h
  refine nx (t_ca (C54 _ _ _ _ _ _ hy26) Tryd.func54 nm54 rfl rfl rfl (.cons e0 .nil) (fun w Z hA => (V1 a0 hA (V1 a1 hA (V1 a2 hA V0)))) rfl fun t27 => ?_)
  obtain ⟨y28, hy28, h⟩ := bs h
  refine nx (t_ca (C44 _ _ _ hy28) Tryd.func44 nm44 rfl rfl rfl .nil (fun w Z hA => (V1 a1 hA (V1 a2 hA V0))) rfl fun t29 => ?_)
  refine c_p (r_mv rfl) rfl ?_
  obtain ⟨y30, hy30, h⟩ := bs h
  refine nx (t_ca (C17 _ _ _ _ _ _ _ hy30) Tryd.func17 nm17 rfl rfl rfl (.cons e0 .nil) (fun w Z hA => (V1 a0 hA (V1 a1 hA (V1 a2 hA V0)))) rfl fun t31 => ?_)
  obtain ⟨y32, hy32, h⟩ := bs h
  refine nx (t_ca (C44 _ _ _ hy32) Tryd.func44 nm44 rfl rfl rfl .nil (fun w Z hA => (V1 a1 hA (V1 a2 hA V0))) rfl fun t33 => ?_)
  refine c_p (r_mv rfl) rfl ?_
  obtain ⟨y34, hy34, h⟩ := bs h
  refine nx (t_ca (C54 _ _ _ _ _ _ hy34) Tryd.func54 nm54 rfl rfl rfl (.cons e0 .nil) (fun w Z hA => (V1 a0 hA (V1 a1 hA (V1 a2 hA V0)))) rfl fun t35 => ?_)
  obtain ⟨y36, hy36, h⟩ := bs h
  refine nx (t_ca (C44 _ _ _ hy36) Tryd.func44 nm44 rfl rfl rfl .nil (fun w Z hA => (V1 a1 hA (V1 a2 hA V0))) rfl fun t37 => ?_)
  refine c_p (r_mv rfl) rfl ?_
  obtain ⟨y38, hy38, h⟩ := bs h
  refine nx (t_ca (C47 _ _ _ _ _ _ hy38) Tryd.func47 nm47 rfl rfl rfl (.cons e0 .nil) (fun w Z hA => (V1 a0 hA (V1 a1 hA (V1 a2 hA V0)))) rfl fun t39 => ?_)
  obtain ⟨y40, hy40, h⟩ := bs h
  refine nx (t_ca (C44 _ _ _ hy40) Tryd.func44 nm44 rfl rfl rfl .nil (fun w Z hA => (V1 a1 hA (V1 a2 hA V0))) rfl fun t41 => ?_)
  refine c_p (r_mv rfl) rfl ?_
  obtain ⟨y42, hy42, h⟩ := bs h
  refine nx (t_ca (C47 _ _ _ _ _ _ hy42) Tryd.func47 nm47 rfl rfl rfl (.cons e0 .nil) (fun w Z hA => (V1 a0 hA (V1 a1 hA (V1 a2 hA V0)))) rfl fun t43 => ?_)
  obtain ⟨y44, hy44, h⟩ := bs h
  refine nx (t_ca (C44 _ _ _ hy44) Tryd.func44 nm44 rfl rfl rfl .nil (fun w Z hA => (V1 a1 hA (V1 a2 hA V0))) rfl fun t45 => ?_)
  refine c_p (r_mv rfl) rfl ?_
  obtain ⟨y46, hy46, h⟩ := bs h
  refine nx (t_ca (C57 _ _ _ _ _ _ hy46) Tryd.func57 nm57 rfl rfl rfl (.cons e0 .nil) (fun w Z hA => (V1 a0 hA (V1 a1 hA (V1 a2 hA V0)))) rfl fun t47 => ?_)
  obtain ⟨y48, hy48, h⟩ := bs h
  refine nx (t_ca (C44 _ _ _ hy48) Tryd.func44 nm44 rfl rfl rfl .nil (fun w Z hA => (V1 a1 hA (V1 a2 hA V0))) rfl fun t49 => ?_)
  refine c_p (r_mv rfl) rfl ?_
  obtain ⟨y50, hy50, h⟩ := bs h
  refine nx (t_ca (C46 _ _ _ _ _ _ hy50) Tryd.func46 nm46 rfl rfl rfl (.cons e0 .nil) (fun w Z hA => (V1 a0 hA (V1 a1 hA (V1 a2 hA V0)))) rfl fun t51 => ?_)
  obtain ⟨y52, hy52, h⟩ := bs h
  refine nx (t_ca (C45 _ _ _ hy52) Tryd.func45 nm45 rfl rfl rfl .nil (fun w Z hA => (V1 a1 hA (V1 a2 hA V0))) rfl fun t53 => ?_)
  refine nx (t_bs (ps := [(0, .agg #[.string y20.Name, .int .i64 y20.Kind, .int .i64 y20.Num, .string y20.Text]), (1, .agg #[.string y22.Name, .int .i64 y22.Kind, .int .i64 y22.Num, .string y22.Text]), (2, .agg #[.string y24.Name, .int .i64 y24.Kind, .int .i64 y24.Num, .string y24.Text]), (3, .agg #[.string y28.Name, .int .i64 y28.Kind, .int .i64 y28.Num, .string y28.Text]), (4, .agg #[.string y32.Name, .int .i64 y32.Kind, .int .i64 y32.Num, .string y32.Text]), (5, .agg #[.string y36.Name, .int .i64 y36.Kind, .int .i64 y36.Num, .string y36.Text]), (6, .agg #[.string y40.Name, .int .i64 y40.Kind, .int .i64 y40.Num, .string y40.Text]), (7, .agg #[.string y44.Name, .int .i64 y44.Kind, .int .i64 y44.Num, .string y44.Text]), (8, .agg #[.string y48.Name, .int .i64 y48.Kind, .int .i64 y48.Num, .string y48.Text]), (9, .agg #[.string y52.Name, .int .i64 y52.Kind, .int .i64 y52.Num, .string y52.Text])]) (cs := [.string y20.Name, .int .i64 y20.Kind, .int .i64 y20.Num, .string y20.Text, .string y22.Name, .int .i64 y22.Kind, .int .i64 y22.Num, .string y22.Text, .string y24.Name, .int .i64 y24.Kind, .int .i64 y24.Num, .string y24.Text, .string y28.Name, .int .i64 y28.Kind, .int .i64 y28.Num, .string y28.Text, .string y32.Name, .int .i64 y32.Kind, .int .i64 y32.Num, .string y32.Text, .string y36.Name, .int .i64 y36.Kind, .int .i64 y36.Num, .string y36.Text, .string y40.Name, .int .i64 y40.Kind, .int .i64 y40.Num, .string y40.Text, .string y44.Name, .int .i64 y44.Kind, .int .i64 y44.Num, .string y44.Text, .string y48.Name, .int .i64 y48.Kind, .int .i64 y48.Num, .string y48.Text, .string y52.Name, .int .i64 y52.Kind, .int .i64 y52.Num, .string y52.Text]) Tryd.underlying70 ti76 rfl rfl (by kernel_rfl) rfl fun g54 => ?_)
  refine c_p (r_fa (off' := 3) Tryd.underlying72 rfl ti70 rfl rfl) rfl ?_
  refine nx (t_st u2 ti70 rfl rfl rfl rfl rfl (.s (.s (.s (.t (.s .z))))) ?_)
  refine t_nil ?_
  refine t_then hK17 ?_
  refine t_seq fun K55 hK56 => ?_
  have J75 : ∀ (x70 : Int) (p71 : Option Addr) (m72 : Nat) (c73 : Nat) (x74 : List api_Pair), f_kauditmill_Case_syscall_j1 z0 y9 x70 x74 = some r → T 70 c [vw (kSlice 5 (kInt .u8)) z0.codes [.slice p1 m2 c3], g_pow10, g_kinds] [[blk g_ [.slice p1 m2 c3, .int .i64 x70] 43], [blk g6 [.int .i64 0, .int .i64 0, .int .i64 0, .slice none 0 0] 72], [row 76 k_api_Pair x74 (.slice p71 m72 c73)], [blk g11 [.int .i64 y9.Type_, .int .i64 y9.Time, .int .i64 y9.Serial, .slice p71 m72 c73] 72]] [(0, .pointer (some ⟨g_, 0, none⟩)), (6, .pointer (some ⟨g6, 0, none⟩)), (7, .pointer (some ⟨g11, 0, none⟩))] K55 := by
    intro x70 p71 m72 c73 x74 h76
    unfold f_kauditmill_Case_syscall_j1 at h76
    refine ti hK56 ?_
    refine t_seq fun K77 hK78 => ?_
    refine t_seq fun K79 hK80 => ?_
    refine t_region ?_
    refine c_p (r_mv rfl) rfl ?_
    obtain ⟨y81, hy81, h76⟩ := bs h76
    refine nx (t_ca (C40 _ _ _ _ _ _ _ hy81) Tryd.func40 nm40 rfl rfl rfl (.cons e0 .nil) (fun w Z hA => (V1 a0 hA (V1 a1 hA (V1 a2 hA V0)))) rfl fun t82 => ?_)
    refine t_nil ?_
    refine t_then hK80 ?_
    rcases Bool.eq_false_or_eq_true y81.1 with hb83 | hb83
    · replace h76 := itT hb83 h76
      refine t_T rfl hb83 ?_
      refine t_draw mixed (fun w_ => Bk g11 [.int .i64 y9.Type_, .int .i64 y9.Time, .int .i64 y9.Serial, .slice p71 m72 c73] w_ ∧ True) [1] [7, 10] rfl ?_
      refine q_p 0 (panic_then panic_body) rfl (by kernel_rfl) W0 (r_fa (off' := 3) Tryd.underlying72 rfl ti70 rfl rfl) rfl ?_
      refine q_s 1 (panic_then panic_body) rfl (by kernel_rfl) W0 (by kernel_rfl) (fun w H => ⟨bk a3 H, trivial⟩) (b_ld (fun _ h => h.1) Tryd.underlying70 rfl rfl rfl) rfl ?_
      refine q_p 2 (panic_then panic_body) rfl (by kernel_rfl) W0 (r_mv rfl) rfl ?_
      refine q_p 3 (panic_then panic_body) rfl (by kernel_rfl) W0 (r_fa (off' := 3) Tryd.underlying72 rfl ti70 rfl rfl) rfl ?_
      refine q_u 4 (panic_then panic_body) rfl (by kernel_rfl) W0 (by kernel_rfl) (r_ld a3 Tryd.underlying70 rfl rfl rfl) rfl ?_
      refine q_u 5 (panic_then panic_body) rfl (by kernel_rfl) W0 (by kernel_rfl) (r_lnL a2 Tryd.underlying70 rfl) rfl ?_
      refine q_p 6 (panic_then panic_body) rfl (by kernel_rfl) W0 (r_i rfl rfl rfl) rfl ?_
      refine d1 7 rfl (by kernel_rfl) (by kernel_rfl) ?_
      obtain ⟨y86, hy86, h76⟩ := bs h76
      refine t_ca (C17 _ _ _ _ _ _ _ hy86) Tryd.func17 nm17 rfl rfl rfl (.cons e0 .nil) (fun w Z hA => (V1 a0 hA (V1 a1 hA (V1 a2 hA V0)))) rfl fun t87 => ?_
      refine dk (fun w H => ⟨bk a3 H, trivial⟩) ?_
      obtain ⟨hc88, h76⟩ := ck_out h76
      refine t_vwq (i := 0) (j := y86.1) a2 Tryd.underlying70 ti76 hc88 fun t89 hv90 hr91 => ?_
      refine q_p 8 (panic_then panic_body) rfl (by kernel_rfl) W0 (hr91 rfl (.inl ⟨rfl, rfl⟩) (.inr ⟨_, _, rfl, rfl⟩)) rfl ?_
      refine q_p 9 (panic_then panic_body) rfl (by kernel_rfl) W0 (r_fa (off' := 3) Tryd.underlying72 rfl ti70 rfl rfl) rfl ?_
      refine d1 10 rfl (by kernel_rfl) (by kernel_rfl) ?_
      refine t_vm (i := 0) (j := y86.1) e2 hv90 hc88 (.inl rfl) ?_
      refine t_st u3 ti70 rfl rfl rfl rfl rfl (.s (.s (.s (.t (.s .z))))) ?_
      refine dn (by kernel_rfl) ?_
      refine dz (by kernel_rfl) ?_
      refine t_then hK78 ?_
      refine t_seq fun K92 hK93 => ?_
      refine t_region ?_
      refine c_s (r_ldA a3 Tryd.underlying72 rfl ti72 rfl rfl) rfl ?_
      refine nx (t_st u2 ti72 rfl rfl rfl rfl rfl (.t (.s (.s (.s (.s .z))))) ?_)
      refine t_nil ?_
      refine t_then hK93 ?_
      refine t_ret ?_
      exact ret1 rfl (v_N rfl a2 Tryd.underlying72 rfl ti72 rfl) (t_leave (hQ _ (Option.some.inj h76)) (t89.1, t89.2.1, t89.2.2) rfl (fun w Z hA => V0) (.cons e1 (.cons e0 .nil)))
    · replace h76 := itF hb83 h76
      refine t_F rfl hb83 ?_
      refine t_skip ?_
      refine t_then hK78 ?_
      refine t_seq fun K94 hK95 => ?_
      refine t_region ?_
      refine c_s (r_ldA a3 Tryd.underlying72 rfl ti72 rfl rfl) rfl ?_
      refine nx (t_st u1 ti72 rfl rfl rfl rfl rfl (.t (.s (.s (.s (.s .z))))) ?_)
      refine t_nil ?_
      refine t_then hK95 ?_
      refine t_ret ?_
      exact ret1 rfl (v_N rfl a1 Tryd.underlying72 rfl ti72 rfl) (t_leave (hQ _ (Option.some.inj h76)) (p71, m72, c73) rfl (fun w Z hA => V0) (.cons e0 (.cons e1 .nil)))
  refine t_seq fun K57 hK58 => ?_
  refine t_region ?_
  refine c_p (r_mv rfl) rfl ?_
  obtain ⟨y59, hy59, h⟩ := bs h
  refine nx (t_ca (C40 _ _ _ _ _ _ _ hy59) Tryd.func40 nm40 rfl rfl rfl (.cons e1 .nil) (fun w Z hA => (V1 a0 hA (V1 a1 hA (V1 a2 hA V0)))) rfl fun t60 => ?_)
  refine t_nil ?_
  refine t_then hK58 ?_
  rcases Bool.eq_false_or_eq_true y59.1 with hb61 | hb61
  · replace h := itT hb61 h
    refine t_T rfl hb61 ?_
    refine t_draw mixed (fun w_ => Bk g11 [.int .i64 y9.Type_, .int .i64 y9.Time, .int .i64 y9.Serial, .slice (some ⟨g54, 0, none⟩) 10 10] w_ ∧ True) [1] [3, 4, 5, 7] rfl ?_
    refine q_p 0 (panic_then panic_body) rfl (by kernel_rfl) W0 (r_fa (off' := 3) Tryd.underlying72 rfl ti70 rfl rfl) rfl ?_
    refine q_s 1 (panic_then panic_body) rfl (by kernel_rfl) W0 (by kernel_rfl) (fun w H => ⟨bk a2 H, trivial⟩) (b_ld (fun _ h => h.1) Tryd.underlying70 rfl rfl rfl) rfl ?_
    refine q_p 2 (panic_then panic_body) rfl (by kernel_rfl) W0 (r_mv rfl) rfl ?_
    refine d1 3 rfl (by kernel_rfl) (by kernel_rfl) ?_
    obtain ⟨y64, hy64, h⟩ := bs h
    refine t_ca (C58 _ _ _ _ _ _ _ hy64) Tryd.func58 nm58 rfl rfl rfl (.cons e0 .nil) (fun w Z hA => (V1 a0 hA (V1 a1 hA (V1 a2 hA V0)))) rfl fun t65 => ?_
    refine dk (fun w H => ⟨bk a2 H, trivial⟩) ?_
    refine d1 4 rfl (by kernel_rfl) (by kernel_rfl) ?_
    refine t_bs (ps := [(0, .agg #[.string y64.Name, .int .i64 y64.Kind, .int .i64 y64.Num, .string y64.Text])]) (cs := [.string y64.Name, .int .i64 y64.Kind, .int .i64 y64.Num, .string y64.Text]) Tryd.underlying70 ti76 rfl rfl (by kernel_rfl) rfl fun g66 => ?_
    refine dk (fun w H => ⟨bk a3 H, trivial⟩) ?_
    refine d1 5 rfl (by kernel_rfl) (by kernel_rfl) ?_
    refine t_tr (Kd := k_api_Pair) (xs := [y20, y22, y24, y28, y32, y36, y40, y44, y48, y52]) (.cons e2 .nil) rfl (fun w Z S hA hN => flat_EO (S := Nil) k_api_Pair_flatK (er1 (c1 := [.string y20.Name, .int .i64 y20.Kind, .int .i64 y20.Num, .string y20.Text]) (k_api_Pair_shuts (x := y20) (t := ()) trivial) (er1 (c1 := [.string y22.Name, .int .i64 y22.Kind, .int .i64 y22.Num, .string y22.Text]) (k_api_Pair_shuts (x := y22) (t := ()) trivial) (er1 (c1 := [.string y24.Name, .int .i64 y24.Kind, .int .i64 y24.Num, .string y24.Text]) (k_api_Pair_shuts (x := y24) (t := ()) trivial) (er1 (c1 := [.string y28.Name, .int .i64 y28.Kind, .int .i64 y28.Num, .string y28.Text]) (k_api_Pair_shuts (x := y28) (t := ()) trivial) (er1 (c1 := [.string y32.Name, .int .i64 y32.Kind, .int .i64 y32.Num, .string y32.Text]) (k_api_Pair_shuts (x := y32) (t := ()) trivial) (er1 (c1 := [.string y36.Name, .int .i64 y36.Kind, .int .i64 y36.Num, .string y36.Text]) (k_api_Pair_shuts (x := y36) (t := ()) trivial) (er1 (c1 := [.string y40.Name, .int .i64 y40.Kind, .int .i64 y40.Num, .string y40.Text]) (k_api_Pair_shuts (x := y40) (t := ()) trivial) (er1 (c1 := [.string y44.Name, .int .i64 y44.Kind, .int .i64 y44.Num, .string y44.Text]) (k_api_Pair_shuts (x := y44) (t := ()) trivial) (er1 (c1 := [.string y48.Name, .int .i64 y48.Kind, .int .i64 y48.Num, .string y48.Text]) (k_api_Pair_shuts (x := y48) (t := ()) trivial) (er1 (c1 := [.string y52.Name, .int .i64 y52.Kind, .int .i64 y52.Num, .string y52.Text]) (k_api_Pair_shuts (x := y52) (t := ()) trivial) er0))))))))))) ?_
    obtain ⟨hc67, h⟩ := ck_out h
    refine t_app (Kd := k_api_Pair) (xs := [y20, y22, y24, y28, y32, y36, y40, y44, y48, y52]) (ys := [y64]) (.cons e0 .nil) rfl rfl Tryd.underlying70 Tryd.underlying70 ti76 rfl rfl hc67 (srcB a1 (fun w Z S hA hN => flat_EO (S := Nil) k_api_Pair_flatK (er1 (c1 := [.string y64.Name, .int .i64 y64.Kind, .int .i64 y64.Num, .string y64.Text]) (k_api_Pair_shuts (x := y64) (t := ()) trivial) er0))) rfl fun t68 => ?_
    refine dn (by kernel_rfl) ?_
    refine q_p 6 (panic_then panic_body) rfl (by kernel_rfl) W0 (r_fa (off' := 3) Tryd.underlying72 rfl ti70 rfl rfl) rfl ?_
    refine d1 7 rfl (by kernel_rfl) (by kernel_rfl) ?_
    refine t_st u3 ti70 rfl rfl rfl rfl rfl (.s (.s (.s (.t (.s .z))))) ?_
    refine dn (by kernel_rfl) ?_
    refine dz (by kernel_rfl) ?_
    exact t_norm (t_go (J75 y59.2 t68.1 t68.2.1 t68.2.2 ([y20, y22, y24, y28, y32, y36, y40, y44, y48, y52] ++ [y64]) h) ⟨rfl, rfl, rfl, trivial⟩ (.cons e2 (.cons e4 (.cons e0 (.cons e1 .nil)))) (fun w Z hA => V1 a0 hA (V1 a1 hA (V1 a2 hA (V0)))))
  · replace h := itF hb61 h
    refine t_F rfl hb61 ?_
    refine t_skip ?_
    refine t_tr (Kd := k_api_Pair) (xs := [y20, y22, y24, y28, y32, y36, y40, y44, y48, y52]) (.cons e1 .nil) rfl (fun w Z S hA hN => flat_EO (S := Nil) k_api_Pair_flatK (er1 (c1 := [.string y20.Name, .int .i64 y20.Kind, .int .i64 y20.Num, .string y20.Text]) (k_api_Pair_shuts (x := y20) (t := ()) trivial) (er1 (c1 := [.string y22.Name, .int .i64 y22.Kind, .int .i64 y22.Num, .string y22.Text]) (k_api_Pair_shuts (x := y22) (t := ()) trivial) (er1 (c1 := [.string y24.Name, .int .i64 y24.Kind, .int .i64 y24.Num, .string y24.Text]) (k_api_Pair_shuts (x := y24) (t := ()) trivial) (er1 (c1 := [.string y28.Name, .int .i64 y28.Kind, .int .i64 y28.Num, .string y28.Text]) (k_api_Pair_shuts (x := y28) (t := ()) trivial) (er1 (c1 := [.string y32.Name, .int .i64 y32.Kind, .int .i64 y32.Num, .string y32.Text]) (k_api_Pair_shuts (x := y32) (t := ()) trivial) (er1 (c1 := [.string y36.Name, .int .i64 y36.Kind, .int .i64 y36.Num, .string y36.Text]) (k_api_Pair_shuts (x := y36) (t := ()) trivial) (er1 (c1 := [.string y40.Name, .int .i64 y40.Kind, .int .i64 y40.Num, .string y40.Text]) (k_api_Pair_shuts (x := y40) (t := ()) trivial) (er1 (c1 := [.string y44.Name, .int .i64 y44.Kind, .int .i64 y44.Num, .string y44.Text]) (k_api_Pair_shuts (x := y44) (t := ()) trivial) (er1 (c1 := [.string y48.Name, .int .i64 y48.Kind, .int .i64 y48.Num, .string y48.Text]) (k_api_Pair_shuts (x := y48) (t := ()) trivial) (er1 (c1 := [.string y52.Name, .int .i64 y52.Kind, .int .i64 y52.Num, .string y52.Text]) (k_api_Pair_shuts (x := y52) (t := ()) trivial) er0))))))))))) ?_
    exact t_norm (t_go (J75 y59.2 (some ⟨g54, 0, none⟩) 10 10 [y20, y22, y24, y28, y32, y36, y40, y44, y48, y52] h) ⟨rfl, rfl, rfl, trivial⟩ (.cons e1 (.cons e3 (.cons e0 (.cons e0 .nil)))) (fun w Z hA => V1 a0 hA (V1 a1 hA (V1 a2 hA (V0)))))
end
end Go.Proofs.YthmjklpmamfncaaDoor.Gx

/- Function 30, (*kaudit/kauditmill.Case).Event: what it answers as a plain function, and that the Go code comes to exactly that (where the plain function gives an answer). -/
set_option linter.unusedVariables false
set_option linter.unusedSimpArgs false
namespace Go.Proofs.YthmjklpmamfncaaDoor.Gx
open Go.Gx Go.RowKit
noncomputable section
/-! ### (*kaudit/kauditmill.Case).Event: function 30 -/
def f_kauditmill_Case_Event_j1 (z0 : kauditmill_Case) (z2 : Int) (z3 : Int) (y9 : api_Event) (x71 : Int) (x75 : List api_Record) : Option (api_Event × Int) := (f_kauditmill_Case_Bool (⟨z0.codes, x71⟩ : kauditmill_Case) 7).bind fun y82 => if y82.1 = true then (some ((⟨y9.Boot, y9.Serial, y9.Time, x75, y9.Complete⟩ : api_Event), y82.2)) else ((f_kauditmill_record 1320 z3 z2).bind fun y87 => ck (fits (x75.length + [y87].length) 48 = true) <| some ((⟨y9.Boot, y9.Serial, y9.Time, (x75 ++ [y87]), true⟩ : api_Event), y82.2))
def f_kauditmill_Case_Event (z0 : kauditmill_Case) (z1 : Int) (z2 : Int) (z3 : Int) : Option (api_Event × Int) := (f_kauditmill_event z1 z2 z3).bind fun y9 => (f_kauditmill_Case_Bool z0 4).bind fun y16 => if y16.1 = true then ((f_kauditmill_Case_single (⟨z0.codes, y16.2⟩ : kauditmill_Case) z3 z2).bind fun y21 => some ((⟨y9.Boot, y9.Serial, y9.Time, [y21.1], true⟩ : api_Event), y21.2)) else ((f_kauditmill_Case_syscall (⟨z0.codes, y16.2⟩ : kauditmill_Case) z3 z2).bind fun y28 => (f_kauditmill_Case_Bool (⟨z0.codes, y28.2⟩ : kauditmill_Case) 2).bind fun y35 => if y35.1 = true then ((f_kauditmill_record 1302 z3 z2).bind fun y40 => (f_kauditmill_Num (⟨#[105, 116, 101, 109]⟩ : ByteArray) 0).bind fun y45 => (f_kauditmill_Case_Text (⟨z0.codes, y35.2⟩ : kauditmill_Case)).bind fun y47 => (f_kauditmill_Str (⟨#[110, 97, 109, 101]⟩ : ByteArray) y47.1).bind fun y49 => (f_kauditmill_Case_Pick (⟨z0.codes, y47.2⟩ : kauditmill_Case) [420, 493, (-1)]).bind fun y52 => (f_kauditmill_Num (⟨#[109, 111, 100, 101]⟩ : ByteArray) y52.1).bind fun y54 => (f_kauditmill_Case_ids (⟨z0.codes, y52.2⟩ : kauditmill_Case)).bind fun y56 => (f_kauditmill_Num (⟨#[111, 117, 105, 100]⟩ : ByteArray) y56.1).bind fun y58 => (f_kauditmill_Case_Int (⟨z0.codes, y56.2⟩ : kauditmill_Case) 17).bind fun y60 => (f_kauditmill_Num (⟨#[112, 101, 114, 109]⟩ : ByteArray) y60.1).bind fun y62 => (f_kauditmill_Str (⟨#[114, 111, 108, 101]⟩ : ByteArray) (⟨#[99, 114, 101, 97, 116, 101]⟩ : ByteArray)).bind fun y64 => ck (fits ([y28.1].length + [(⟨y40.Type_, y40.Time, y40.Serial, [y45, y49, y54, y58, y62, y64]⟩ : api_Record)].length) 48 = true) <| f_kauditmill_Case_Event_j1 z0 z2 z3 y9 y60.2 ([y28.1] ++ [(⟨y40.Type_, y40.Time, y40.Serial, [y45, y49, y54, y58, y62, y64]⟩ : api_Record)])) else (f_kauditmill_Case_Event_j1 z0 z2 z3 y9 y35.2 [y28.1]))
set_option maxHeartbeats 4000000 in
set_option maxRecDepth 100000 in
theorem C30 (z0 : kauditmill_Case) (z1 : Int) (z2 : Int) (z3 : Int) (g_ : Nat) (p1 : Option Addr) (m2 : Nat) (c3 : Nat) (r : api_Event × Int) (h : f_kauditmill_Case_Event z0 z1 z2 z3 = some r) : FunG Tryd.prog 30 #[.pointer (some ⟨g_, 0, none⟩), .int .i64 z1, .int .i64 z2, .int .i64 z3] [vw (kSlice 5 (kInt .u8)) z0.codes [.slice p1 m2 c3], g_pow10, g_kinds] [[blk g_ [.slice p1 m2 c3, .int .i64 z0.at_] 43]] (fun t : (Option Addr × Nat × Nat) => .agg #[.int .i64 r.1.Boot, .int .i64 r.1.Serial, .int .i64 r.1.Time, .slice t.1 t.2.1 t.2.2, .bool r.1.Complete]) (fun t => []) (fun t => [[blk g_ [.slice p1 m2 c3, .int .i64 r.2] 43], [row 72 k_api_Record r.1.Records (.slice t.1 t.2.1 t.2.2)]]) := by
  unfold f_kauditmill_Case_Event at h
  refine t_begin (args := [.pointer (some ⟨g_, 0, none⟩), .int .i64 z1, .int .i64 z2, .int .i64 z3]) Tryd.func30 rfl Tryd.ntmps30 rfl fun c R hR => ?_
  have hQ : ∀ X, X = r → ∀ w2 (t : (Option Addr × Nat × Nat)), PostG c.w0 w2 c.M c.Y [] [[blk g_ [.slice p1 m2 c3, .int .i64 X.2] 43], [row 72 k_api_Record X.1.Records (.slice t.1 t.2.1 t.2.2)]] → R (.returned (.agg #[.int .i64 X.1.Boot, .int .i64 X.1.Serial, .int .i64 X.1.Time, .slice t.1 t.2.1 t.2.2, .bool X.1.Complete])) w2 := fun X e => by subst e; exact hR
  refine t_seq fun K4 hK5 => ?_
  refine t_region ?_
  refine nx (t_al (cs := [.int .i64 0, .int .i64 0, .int .i64 0, .slice none 0 0, .bool false]) ti58 rfl rfl fun g6 => ?_)
  refine t_nil ?_
  refine t_then hK5 ?_
  refine t_seq fun K7 hK8 => ?_
  refine t_region ?_
  refine c_p (r_mv rfl) rfl ?_
  refine c_p (r_mv rfl) rfl ?_
  refine c_p (r_mv rfl) rfl ?_
  obtain ⟨y9, hy9, h⟩ := bs h
  refine nx (t_ca (C39 _ _ _ _ hy9) Tryd.func39 nm39 rfl rfl rfl .nil (fun w Z hA => (V1 a1 hA (V1 a2 hA V0))) rfl fun t10 => ?_)
  refine nx (t_al (cs := [.int .i64 0, .int .i64 0, .int .i64 0, .slice none 0 0, .bool false]) ti58 rfl rfl fun g11 => ?_)
  refine nx (t_st u0 ti58 rfl rfl rfl rfl rfl (.t (.s (.s (.s (.s (.s .z)))))) ?_)
  refine t_nil ?_
  refine t_then hK8 ?_
  refine t_seq fun K12 hK13 => ?_
  refine t_seq fun K14 hK15 => ?_
  refine t_region ?_
  refine c_p (r_mv rfl) rfl ?_
  obtain ⟨y16, hy16, h⟩ := bs h
  refine nx (t_ca (C40 _ _ _ _ _ _ _ hy16) Tryd.func40 nm40 rfl rfl rfl (.cons e3 .nil) (fun w Z hA => (V1 a0 hA (V1 a1 hA (V1 a2 hA V0)))) rfl fun t17 => ?_)
  refine t_nil ?_
  refine t_then hK15 ?_
  rcases Bool.eq_false_or_eq_true y16.1 with hb18 | hb18
  · replace h := itT hb18 h
    refine t_T rfl hb18 ?_
    refine t_seq fun K19 hK20 => ?_
    refine t_region ?_
    refine c_p (r_mv rfl) rfl ?_
    refine c_p (r_mv rfl) rfl ?_
    refine c_p (r_mv rfl) rfl ?_
    obtain ⟨y21, hy21, h⟩ := bs h
    refine nx (t_ca (C41 _ _ _ _ _ _ _ _ hy21) Tryd.func41 nm41 rfl rfl rfl (.cons e0 .nil) (fun w Z hA => (V1 a0 hA (V1 a1 hA (V1 a2 hA V0)))) rfl fun t22 => ?_)
    refine nx (t_bs (ps := [(0, .agg #[.int .i64 y21.1.Type_, .int .i64 y21.1.Time, .int .i64 y21.1.Serial, .slice t22.1 t22.2.1 t22.2.2])]) (cs := [.int .i64 y21.1.Type_, .int .i64 y21.1.Time, .int .i64 y21.1.Serial, .slice t22.1 t22.2.1 t22.2.2]) Tryd.underlying56 ti72 rfl rfl (by kernel_rfl) rfl fun g23 => ?_)
    refine c_p (r_fa (off' := 3) Tryd.underlying58 rfl ti56 rfl rfl) rfl ?_
    refine nx (t_st u3 ti56 rfl rfl rfl rfl rfl (.s (.s (.s (.t (.s .z))))) ?_)
    refine c_p (r_fa (off' := 4) Tryd.underlying58 rfl ti4 rfl rfl) rfl ?_
    refine nx (t_st u3 ti4 rfl rfl rfl rfl rfl (.s (.s (.s (.s (.t (.s .z)))))) ?_)
    refine t_nil ?_
    refine t_then hK20 ?_
    refine t_seq fun K24 hK25 => ?_
    refine t_region ?_
    refine c_s (r_ldA a3 Tryd.underlying58 rfl ti58 rfl rfl) rfl ?_
    refine nx (t_st u5 ti58 rfl rfl rfl rfl rfl (.t (.s (.s (.s (.s (.s .z)))))) ?_)
    refine t_nil ?_
    refine t_then hK25 ?_
    refine t_ret ?_
    refine t_tr (Kd := k_api_Record) (xs := [y21.1]) (.cons e0 (.cons e1 .nil)) rfl (fun w Z S hA hN => (eoC (x := y21.1) (t := (t22.1, t22.2.1, t22.2.2)) k_api_Record_shutsO trivial eoN) S hN) ?_
    exact tr (ret1 rfl (v_N rfl a4 Tryd.underlying58 rfl ti58 rfl) (t_leave (hQ _ (Option.some.inj h)) ((some ⟨g23, 0, none⟩), 1, 1) rfl (fun w Z hA => V0) (.cons e1 (.cons e0 .nil))))
  · replace h := itF hb18 h
    refine t_F rfl hb18 ?_
    refine t_skip ?_
    refine t_then hK13 ?_
    refine t_seq fun K26 hK27 => ?_
    refine t_region ?_
    refine c_p (r_mv rfl) rfl ?_
    refine c_p (r_mv rfl) rfl ?_
    refine c_p (r_mv rfl) rfl ?_
    obtain ⟨y28, hy28, h⟩ := bs h
    refine nx (t_ca (C42 _ _ _ _ _ _ _ _ hy28) Tryd.func42 nm42 rfl rfl rfl (.cons e0 .nil) (fun w Z hA => (V1 a0 hA (V1 a1 hA (V1 a2 hA V0)))) rfl fun t29 => ?_)
    refine nx (t_bs (ps := [(0, .agg #[.int .i64 y28.1.Type_, .int .i64 y28.1.Time, .int .i64 y28.1.Serial, .slice t29.1 t29.2.1 t29.2.2])]) (cs := [.int .i64 y28.1.Type_, .int .i64 y28.1.Time, .int .i64 y28.1.Serial, .slice t29.1 t29.2.1 t29.2.2]) Tryd.underlying56 ti72 rfl rfl (by kernel_rfl) rfl fun g30 => ?_)
    refine c_p (r_fa (off' := 3) Tryd.underlying58 rfl ti56 rfl rfl) rfl ?_
    refine nx (t_st u3 ti56 rfl rfl rfl rfl rfl (.s (.s (.s (.t (.s .z))))) ?_)
    refine t_nil ?_
    refine t_then hK27 ?_
    refine t_seq fun K31 hK32 => ?_
    have J76 : ∀ (x71 : Int) (p72 : Option Addr) (m73 : Nat) (c74 : Nat) (x75 : List api_Record), f_kauditmill_Case_Event_j1 z0 z2 z3 y9 x71 x75 = some r → T 72 c [vw (kSlice 5 (kInt .u8)) z0.codes [.slice p1 m2 c3], g_pow10, g_kinds] [[blk g_ [.slice p1 m2 c3, .int .i64 x71] 43], [blk g6 [.int .i64 0, .int .i64 0, .int .i64 0, .slice none 0 0, .bool false] 58], [row 72 k_api_Record x75 (.slice p72 m73 c74)], [blk g11 [.int .i64 y9.Boot, .int .i64 y9.Serial, .int .i64 y9.Time, .slice p72 m73 c74, .bool y9.Complete] 58]] [(0, .pointer (some ⟨g_, 0, none⟩)), (2, .int .i64 z2), (3, .int .i64 z3), (8, .pointer (some ⟨g6, 0, none⟩)), (9, .pointer (some ⟨g11, 0, none⟩))] K31 := by
      intro x71 p72 m73 c74 x75 h77
      unfold f_kauditmill_Case_Event_j1 at h77
      refine ti hK32 ?_
      refine t_seq fun K78 hK79 => ?_
      refine t_seq fun K80 hK81 => ?_
      refine t_region ?_
      refine c_p (r_mv rfl) rfl ?_
      obtain ⟨y82, hy82, h77⟩ := bs h77
      refine nx (t_ca (C40 _ _ _ _ _ _ _ hy82) Tryd.func40 nm40 rfl rfl rfl (.cons e0 .nil) (fun w Z hA => (V1 a0 hA (V1 a1 hA (V1 a2 hA V0)))) rfl fun t83 => ?_)
      refine c_p (r_not rfl) rfl ?_
      refine t_nil ?_
      refine t_then hK81 ?_
      rcases Bool.eq_false_or_eq_true y82.1 with hb84 | hb84
      · replace h77 := itT hb84 h77
        refine t_F rfl (congrArg Bool.not hb84) ?_
        refine t_skip ?_
        refine t_then hK79 ?_
        refine t_seq fun K92 hK93 => ?_
        refine t_region ?_
        refine c_s (r_ldA a3 Tryd.underlying58 rfl ti58 rfl rfl) rfl ?_
        refine nx (t_st u1 ti58 rfl rfl rfl rfl rfl (.t (.s (.s (.s (.s (.s .z)))))) ?_)
        refine t_nil ?_
        refine t_then hK93 ?_
        refine t_ret ?_
        exact ret1 rfl (v_N rfl a1 Tryd.underlying58 rfl ti58 rfl) (t_leave (hQ _ (Option.some.inj h77)) (p72, m73, c74) rfl (fun w Z hA => V0) (.cons e0 (.cons e1 .nil)))
      · replace h77 := itF hb84 h77
        refine t_T rfl (congrArg Bool.not hb84) ?_
        refine t_draw mixed (fun w_ => Bk g11 [.int .i64 y9.Boot, .int .i64 y9.Serial, .int .i64 y9.Time, .slice p72 m73 c74, .bool y9.Complete] w_ ∧ True) [1] [4, 5, 6, 8, 10] rfl ?_
        refine q_p 0 (panic_then panic_body) rfl (by kernel_rfl) W0 (r_fa (off' := 3) Tryd.underlying58 rfl ti56 rfl rfl) rfl ?_
        refine q_s 1 (panic_then panic_body) rfl (by kernel_rfl) W0 (by kernel_rfl) (fun w H => ⟨bk a3 H, trivial⟩) (b_ld (fun _ h => h.1) Tryd.underlying56 rfl rfl rfl) rfl ?_
        refine q_p 2 (panic_then panic_body) rfl (by kernel_rfl) W0 (r_mv rfl) rfl ?_
        refine q_p 3 (panic_then panic_body) rfl (by kernel_rfl) W0 (r_mv rfl) rfl ?_
        refine d1 4 rfl (by kernel_rfl) (by kernel_rfl) ?_
        obtain ⟨y87, hy87, h77⟩ := bs h77
        refine t_ca (C43 _ _ _ _ hy87) Tryd.func43 nm43 rfl rfl rfl .nil (fun w Z hA => (V1 a1 hA (V1 a2 hA V0))) rfl fun t88 => ?_
        refine dk (fun w H => ⟨bk a4 H, trivial⟩) ?_
        refine d1 5 rfl (by kernel_rfl) (by kernel_rfl) ?_
        refine t_bs (ps := [(0, .agg #[.int .i64 y87.Type_, .int .i64 y87.Time, .int .i64 y87.Serial, .slice t88.1 t88.2.1 t88.2.2])]) (cs := [.int .i64 y87.Type_, .int .i64 y87.Time, .int .i64 y87.Serial, .slice t88.1 t88.2.1 t88.2.2]) Tryd.underlying56 ti72 rfl rfl (by kernel_rfl) rfl fun g89 => ?_
        refine dk (fun w H => ⟨bk a5 H, trivial⟩) ?_
        refine d1 6 rfl (by kernel_rfl) (by kernel_rfl) ?_
        obtain ⟨hc90, h77⟩ := ck_out h77
        refine t_app (Kd := k_api_Record) (xs := x75) (ys := [y87]) (.cons e4 (.cons e1 .nil)) rfl rfl Tryd.underlying56 Tryd.underlying56 ti72 rfl rfl hc90 (srcB a0 (fun w Z S hA hN => (eoC (x := y87) (t := (t88.1, t88.2.1, t88.2.2)) k_api_Record_shutsO trivial eoN) S hN)) rfl fun t91 => ?_
        refine dn (by kernel_rfl) ?_
        refine q_p 7 (panic_then panic_body) rfl (by kernel_rfl) W0 (r_fa (off' := 3) Tryd.underlying58 rfl ti56 rfl rfl) rfl ?_
        refine d1 8 rfl (by kernel_rfl) (by kernel_rfl) ?_
        refine t_st u4 ti56 rfl rfl rfl rfl rfl (.s (.s (.s (.t (.s .z))))) ?_
        refine dn (by kernel_rfl) ?_
        refine q_p 9 (panic_then panic_body) rfl (by kernel_rfl) W0 (r_fa (off' := 4) Tryd.underlying58 rfl ti4 rfl rfl) rfl ?_
        refine d1 10 rfl (by kernel_rfl) (by kernel_rfl) ?_
        refine t_st u4 ti4 rfl rfl rfl rfl rfl (.s (.s (.s (.s (.t (.s .z)))))) ?_
        refine dn (by kernel_rfl) ?_
        refine dz (by kernel_rfl) ?_
        refine t_then hK79 ?_
        refine t_seq fun K94 hK95 => ?_
        refine t_region ?_
        refine c_s (r_ldA a4 Tryd.underlying58 rfl ti58 rfl rfl) rfl ?_
        refine nx (t_st u3 ti58 rfl rfl rfl rfl rfl (.t (.s (.s (.s (.s (.s .z)))))) ?_)
        refine t_nil ?_
        refine t_then hK95 ?_
        refine t_ret ?_
        exact ret1 rfl (v_N rfl a3 Tryd.underlying58 rfl ti58 rfl) (t_leave (hQ _ (Option.some.inj h77)) (t91.1, t91.2.1, t91.2.2) rfl (fun w Z hA => V0) (.cons e2 (.cons e0 .nil)))
    refine t_seq fun K33 hK34 => ?_
    refine t_region ?_
    refine c_p (r_mv rfl) rfl ?_
    obtain ⟨y35, hy35, h⟩ := bs h
    refine nx (t_ca (C40 _ _ _ _ _ _ _ hy35) Tryd.func40 nm40 rfl rfl rfl (.cons e1 .nil) (fun w Z hA => (V1 a0 hA (V1 a1 hA (V1 a2 hA V0)))) rfl fun t36 => ?_)
    refine t_nil ?_
    refine t_then hK34 ?_
    rcases Bool.eq_false_or_eq_true y35.1 with hb37 | hb37
    · replace h := itT hb37 h
      refine t_T rfl hb37 ?_
      refine t_seq fun K38 hK39 => ?_
      refine t_region ?_
      refine c_p (r_mv rfl) rfl ?_
      refine c_p (r_mv rfl) rfl ?_
      obtain ⟨y40, hy40, h⟩ := bs h
      refine nx (t_ca (C43 _ _ _ _ hy40) Tryd.func43 nm43 rfl rfl rfl .nil (fun w Z hA => (V1 a1 hA (V1 a2 hA V0))) rfl fun t41 => ?_)
      refine nx (t_al (cs := [.int .i64 0, .int .i64 0, .int .i64 0, .slice none 0 0]) ti72 rfl rfl fun g42 => ?_)
      refine nx (t_st u0 ti72 rfl rfl rfl rfl rfl (.t (.s (.s (.s (.s .z))))) ?_)
      refine t_nil ?_
      refine t_then hK39 ?_
      refine t_seq fun K43 hK44 => ?_
      refine t_region ?_
      obtain ⟨y45, hy45, h⟩ := bs h
      refine nx (t_ca (C44 _ _ _ hy45) Tryd.func44 nm44 rfl rfl rfl .nil (fun w Z hA => (V1 a1 hA (V1 a2 hA V0))) rfl fun t46 => ?_)
      refine c_p (r_mv rfl) rfl ?_
      obtain ⟨y47, hy47, h⟩ := bs h
      refine nx (t_ca (C46 _ _ _ _ _ _ hy47) Tryd.func46 nm46 rfl rfl rfl (.cons e2 .nil) (fun w Z hA => (V1 a0 hA (V1 a1 hA (V1 a2 hA V0)))) rfl fun t48 => ?_)
      obtain ⟨y49, hy49, h⟩ := bs h
      refine nx (t_ca (C45 _ _ _ hy49) Tryd.func45 nm45 rfl rfl rfl .nil (fun w Z hA => (V1 a1 hA (V1 a2 hA V0))) rfl fun t50 => ?_)
      refine c_p (r_mv rfl) rfl ?_
      refine nx (t_bs (ps := [(0, .int .i64 420), (1, .int .i64 493), (2, .int .i64 (-1))]) (cs := [.int .i64 420, .int .i64 493, .int .i64 (-1)]) Tryd.underlying49 ti3 rfl rfl (by kernel_rfl) rfl fun g51 => ?_)
      refine t_tr (Kd := (kInt .i64)) (xs := [420, 493, (-1)]) (.cons e0 .nil) rfl (fun w Z S hA hN => flat_EO (S := Nil) (flatK_int .i64) (er1 (c1 := [.int .i64 420]) rfl (er1 (c1 := [.int .i64 493]) rfl (er1 (c1 := [.int .i64 (-1)]) rfl er0)))) ?_
      obtain ⟨y52, hy52, h⟩ := bs h
      refine nx (t_cf (C22 _ _ _ _ _ _ _ _ _ _ hy52) (fun _ => (flat_blk flat_nil)) Tryd.func22 nm22 rfl rfl rfl (.cons e1 .nil) (fun w Z S hA hL => (F1 a0 hA (FL a0 hL (F1 a1 hA (F1 a2 hA F0))))) rfl fun t53 => ?_)
      obtain ⟨y54, hy54, h⟩ := bs h
      refine nx (t_ca (C44 _ _ _ hy54) Tryd.func44 nm44 rfl rfl rfl .nil (fun w Z hA => (V1 a1 hA (V1 a2 hA V0))) rfl fun t55 => ?_)
      refine c_p (r_mv rfl) rfl ?_
      obtain ⟨y56, hy56, h⟩ := bs h
      refine nx (t_ca (C47 _ _ _ _ _ _ hy56) Tryd.func47 nm47 rfl rfl rfl (.cons e0 .nil) (fun w Z hA => (V1 a0 hA (V1 a1 hA (V1 a2 hA V0)))) rfl fun t57 => ?_)
      obtain ⟨y58, hy58, h⟩ := bs h
      refine nx (t_ca (C44 _ _ _ hy58) Tryd.func44 nm44 rfl rfl rfl .nil (fun w Z hA => (V1 a1 hA (V1 a2 hA V0))) rfl fun t59 => ?_)
      refine c_p (r_mv rfl) rfl ?_
      obtain ⟨y60, hy60, h⟩ := bs h
      refine nx (t_ca (C17 _ _ _ _ _ _ _ hy60) Tryd.func17 nm17 rfl rfl rfl (.cons e0 .nil) (fun w Z hA => (V1 a0 hA (V1 a1 hA (V1 a2 hA V0)))) rfl fun t61 => ?_)
      obtain ⟨y62, hy62, h⟩ := bs h
      refine nx (t_ca (C44 _ _ _ hy62) Tryd.func44 nm44 rfl rfl rfl .nil (fun w Z hA => (V1 a1 hA (V1 a2 hA V0))) rfl fun t63 => ?_)
      obtain ⟨y64, hy64, h⟩ := bs h
      refine nx (t_ca (C45 _ _ _ hy64) Tryd.func45 nm45 rfl rfl rfl .nil (fun w Z hA => (V1 a1 hA (V1 a2 hA V0))) rfl fun t65 => ?_)
      refine nx (t_bs (ps := [(0, .agg #[.string y45.Name, .int .i64 y45.Kind, .int .i64 y45.Num, .string y45.Text]), (1, .agg #[.string y49.Name, .int .i64 y49.Kind, .int .i64 y49.Num, .string y49.Text]), (2, .agg #[.string y54.Name, .int .i64 y54.Kind, .int .i64 y54.Num, .string y54.Text]), (3, .agg #[.string y58.Name, .int .i64 y58.Kind, .int .i64 y58.Num, .string y58.Text]), (4, .agg #[.string y62.Name, .int .i64 y62.Kind, .int .i64 y62.Num, .string y62.Text]), (5, .agg #[.string y64.Name, .int .i64 y64.Kind, .int .i64 y64.Num, .string y64.Text])]) (cs := [.string y45.Name, .int .i64 y45.Kind, .int .i64 y45.Num, .string y45.Text, .string y49.Name, .int .i64 y49.Kind, .int .i64 y49.Num, .string y49.Text, .string y54.Name, .int .i64 y54.Kind, .int .i64 y54.Num, .string y54.Text, .string y58.Name, .int .i64 y58.Kind, .int .i64 y58.Num, .string y58.Text, .string y62.Name, .int .i64 y62.Kind, .int .i64 y62.Num, .string y62.Text, .string y64.Name, .int .i64 y64.Kind, .int .i64 y64.Num, .string y64.Text]) Tryd.underlying70 ti76 rfl rfl (by kernel_rfl) rfl fun g66 => ?_)
      refine c_p (r_fa (off' := 3) Tryd.underlying72 rfl ti70 rfl rfl) rfl ?_
      refine nx (t_st u3 ti70 rfl rfl rfl rfl rfl (.s (.s (.s (.t (.s .z))))) ?_)
      refine t_nil ?_
      refine t_then hK44 ?_
      refine t_region ?_
      refine c_p (r_fa (off' := 3) Tryd.underlying58 rfl ti56 rfl rfl) rfl ?_
      refine c_s (r_ld a7 Tryd.underlying56 rfl rfl rfl) rfl ?_
      refine c_s (r_ldA a3 Tryd.underlying72 rfl ti72 rfl rfl) rfl ?_
      refine nx (t_bs (ps := [(0, .agg #[.int .i64 y40.Type_, .int .i64 y40.Time, .int .i64 y40.Serial, .slice (some ⟨g66, 0, none⟩) 6 6])]) (cs := [.int .i64 y40.Type_, .int .i64 y40.Time, .int .i64 y40.Serial, .slice (some ⟨g66, 0, none⟩) 6 6]) Tryd.underlying56 ti72 rfl rfl (by kernel_rfl) rfl fun g67 => ?_)
      refine t_tr (Kd := k_api_Record) (xs := [y28.1]) (.cons e6 (.cons e6 .nil)) rfl (fun w Z S hA hN => (eoC (x := y28.1) (t := (t29.1, t29.2.1, t29.2.2)) k_api_Record_shutsO trivial eoN) S hN) ?_
      refine t_tr (Kd := k_api_Pair) (xs := [y45, y49, y54, y58, y62, y64]) (.cons e2 .nil) rfl (fun w Z S hA hN => flat_EO (S := Nil) k_api_Pair_flatK (er1 (c1 := [.string y45.Name, .int .i64 y45.Kind, .int .i64 y45.Num, .string y45.Text]) (k_api_Pair_shuts (x := y45) (t := ()) trivial) (er1 (c1 := [.string y49.Name, .int .i64 y49.Kind, .int .i64 y49.Num, .string y49.Text]) (k_api_Pair_shuts (x := y49) (t := ()) trivial) (er1 (c1 := [.string y54.Name, .int .i64 y54.Kind, .int .i64 y54.Num, .string y54.Text]) (k_api_Pair_shuts (x := y54) (t := ()) trivial) (er1 (c1 := [.string y58.Name, .int .i64 y58.Kind, .int .i64 y58.Num, .string y58.Text]) (k_api_Pair_shuts (x := y58) (t := ()) trivial) (er1 (c1 := [.string y62.Name, .int .i64 y62.Kind, .int .i64 y62.Num, .string y62.Text]) (k_api_Pair_shuts (x := y62) (t := ()) trivial) (er1 (c1 := [.string y64.Name, .int .i64 y64.Kind, .int .i64 y64.Num, .string y64.Text]) (k_api_Pair_shuts (x := y64) (t := ()) trivial) er0))))))) ?_
      obtain ⟨hc68, h⟩ := ck_out h
      refine nx (t_app (Kd := k_api_Record) (xs := [y28.1]) (ys := [(⟨y40.Type_, y40.Time, y40.Serial, [y45, y49, y54, y58, y62, y64]⟩ : api_Record)]) (.cons e1 (.cons e0 .nil)) rfl rfl Tryd.underlying56 Tryd.underlying56 ti72 rfl rfl hc68 (srcB a2 (fun w Z S hA hN => (eoC (x := (⟨y40.Type_, y40.Time, y40.Serial, [y45, y49, y54, y58, y62, y64]⟩ : api_Record)) (t := ((some ⟨g66, 0, none⟩), 6, 6)) k_api_Record_shutsO trivial eoN) S hN)) rfl fun t69 => ?_)
      refine c_p (r_fa (off' := 3) Tryd.underlying58 rfl ti56 rfl rfl) rfl ?_
      refine nx (t_st u6 ti56 rfl rfl rfl rfl rfl (.s (.s (.s (.t (.s .z))))) ?_)
      refine t_nil ?_
      exact t_norm (t_go (J76 y60.2 t69.1 t69.2.1 t69.2.2 ([y28.1] ++ [(⟨y40.Type_, y40.Time, y40.Serial, [y45, y49, y54, y58, y62, y64]⟩ : api_Record)]) h) ⟨rfl, rfl, rfl, rfl, rfl, trivial⟩ (.cons e2 (.cons e7 (.cons e0 (.cons e4 .nil)))) (fun w Z hA => V1 a0 hA (V1 a1 hA (V1 a2 hA (V0)))))
    · replace h := itF hb37 h
      refine t_F rfl hb37 ?_
      refine t_skip ?_
      refine t_tr (Kd := k_api_Record) (xs := [y28.1]) (.cons e1 (.cons e1 .nil)) rfl (fun w Z S hA hN => (eoC (x := y28.1) (t := (t29.1, t29.2.1, t29.2.2)) k_api_Record_shutsO trivial eoN) S hN) ?_
      exact t_norm (t_go (J76 y35.2 (some ⟨g30, 0, none⟩) 1 1 [y28.1] h) ⟨rfl, rfl, rfl, rfl, rfl, trivial⟩ (.cons e1 (.cons e3 (.cons e0 (.cons e0 .nil)))) (fun w Z hA => V1 a0 hA (V1 a1 hA (V1 a2 hA (V0)))))
end
end Go.Proofs.YthmjklpmamfncaaDoor.Gx

/- Function 31, kaudit/kauditlaw40.loss: what it answers as a plain function, and that the Go code comes to exactly that (where the plain function gives an answer). -/
set_option linter.unusedVariables false
set_option linter.unusedSimpArgs false
namespace Go.Proofs.YthmjklpmamfncaaDoor.Gx
open Go.Gx Go.RowKit
noncomputable section
/-! ### kaudit/kauditlaw40.loss: function 31 -/
def f_kauditlaw40_loss (z0 : Int) (z1 : Int) (z2 : Int) : Option (api_Event) := (f_kauditmill_Num (⟨#[102, 105, 114, 115, 116]⟩ : ByteArray) z1).bind fun y6 => (f_kauditmill_Num (⟨#[108, 97, 115, 116]⟩ : ByteArray) z2).bind fun y8 => some (⟨1, z0, 0, [(⟨1331, 0, z0, [y6, y8]⟩ : api_Record)], true⟩ : api_Event)
set_option maxHeartbeats 4000000 in
set_option maxRecDepth 100000 in
theorem C31 (z0 : Int) (z1 : Int) (z2 : Int) (r : api_Event) (h : f_kauditlaw40_loss z0 z1 z2 = some r) : FunG Tryd.prog 31 #[.int .i64 z0, .int .i64 z1, .int .i64 z2] [g_pow10, g_kinds] [] (fun t : (Option Addr × Nat × Nat) => .agg #[.int .i64 r.Boot, .int .i64 r.Serial, .int .i64 r.Time, .slice t.1 t.2.1 t.2.2, .bool r.Complete]) (fun t => []) (fun t => [[row 72 k_api_Record r.Records (.slice t.1 t.2.1 t.2.2)]]) := by
  unfold f_kauditlaw40_loss at h
  refine t_begin (args := [.int .i64 z0, .int .i64 z1, .int .i64 z2]) Tryd.func31 rfl Tryd.ntmps31 rfl fun c R hR => ?_
  have hQ : ∀ X, X = r → ∀ w2 (t : (Option Addr × Nat × Nat)), PostG c.w0 w2 c.M c.Y [] [[row 72 k_api_Record X.Records (.slice t.1 t.2.1 t.2.2)]] → R (.returned (.agg #[.int .i64 X.Boot, .int .i64 X.Serial, .int .i64 X.Time, .slice t.1 t.2.1 t.2.2, .bool X.Complete])) w2 := fun X e => by subst e; exact hR
  refine t_seq fun K1 hK2 => ?_
  refine t_region ?_
  refine nx (t_al (cs := [.int .i64 0, .int .i64 0, .int .i64 0, .slice none 0 0, .bool false]) ti58 rfl rfl fun g3 => ?_)
  refine t_nil ?_
  refine t_then hK2 ?_
  refine t_seq fun K4 hK5 => ?_
  refine t_region ?_
  refine c_p (r_mv rfl) rfl ?_
  refine c_p (r_mv rfl) rfl ?_
  refine c_p (r_mv rfl) rfl ?_
  obtain ⟨y6, hy6, h⟩ := bs h
  refine nx (t_ca (C44 _ _ _ hy6) Tryd.func44 nm44 rfl rfl rfl .nil (fun w Z hA => (V1 a0 hA (V1 a1 hA V0))) rfl fun t7 => ?_)
  refine c_p (r_mv rfl) rfl ?_
  obtain ⟨y8, hy8, h⟩ := bs h
  refine nx (t_ca (C44 _ _ _ hy8) Tryd.func44 nm44 rfl rfl rfl .nil (fun w Z hA => (V1 a0 hA (V1 a1 hA V0))) rfl fun t9 => ?_)
  refine nx (t_bs (ps := [(0, .agg #[.string y6.Name, .int .i64 y6.Kind, .int .i64 y6.Num, .string y6.Text]), (1, .agg #[.string y8.Name, .int .i64 y8.Kind, .int .i64 y8.Num, .string y8.Text])]) (cs := [.string y6.Name, .int .i64 y6.Kind, .int .i64 y6.Num, .string y6.Text, .string y8.Name, .int .i64 y8.Kind, .int .i64 y8.Num, .string y8.Text]) Tryd.underlying70 ti76 rfl rfl (by kernel_rfl) rfl fun g10 => ?_)
  refine c_p (r_bu (ps := [(0, .int .i64 1331), (2, .int .i64 z0), (3, .slice (some ⟨g10, 0, none⟩) 2 2)]) (cs := [.int .i64 1331, .int .i64 0, .int .i64 z0, .slice (some ⟨g10, 0, none⟩) 2 2]) rfl (by kernel_rfl)) rfl ?_
  refine nx (t_bs (ps := [(0, .agg #[.int .i64 1331, .int .i64 0, .int .i64 z0, .slice (some ⟨g10, 0, none⟩) 2 2])]) (cs := [.int .i64 1331, .int .i64 0, .int .i64 z0, .slice (some ⟨g10, 0, none⟩) 2 2]) Tryd.underlying56 ti72 rfl rfl (by kernel_rfl) rfl fun g11 => ?_)
  refine c_p (r_bu (ps := [(0, .int .i64 1), (1, .int .i64 z0), (4, .bool true), (3, .slice (some ⟨g11, 0, none⟩) 1 1)]) (cs := [.int .i64 1, .int .i64 z0, .int .i64 0, .slice (some ⟨g11, 0, none⟩) 1 1, .bool true]) rfl (by kernel_rfl)) rfl ?_
  refine nx (t_st u2 ti58 rfl rfl rfl rfl rfl (.t (.s (.s (.s (.s (.s .z)))))) ?_)
  refine t_nil ?_
  refine t_then hK5 ?_
  refine t_ret ?_
  refine t_tr (Kd := k_api_Pair) (xs := [y6, y8]) (.cons e1 .nil) rfl (fun w Z S hA hN => flat_EO (S := Nil) k_api_Pair_flatK (er1 (c1 := [.string y6.Name, .int .i64 y6.Kind, .int .i64 y6.Num, .string y6.Text]) (k_api_Pair_shuts (x := y6) (t := ()) trivial) (er1 (c1 := [.string y8.Name, .int .i64 y8.Kind, .int .i64 y8.Num, .string y8.Text]) (k_api_Pair_shuts (x := y8) (t := ()) trivial) er0))) ?_
  refine t_tr (Kd := k_api_Record) (xs := [(⟨1331, 0, z0, [y6, y8]⟩ : api_Record)]) (.cons e1 (.cons e0 .nil)) rfl (fun w Z S hA hN => (eoC (x := (⟨1331, 0, z0, [y6, y8]⟩ : api_Record)) (t := ((some ⟨g10, 0, none⟩), 2, 2)) k_api_Record_shutsO trivial eoN) S hN) ?_
  exact ret1 rfl (v_N rfl a1 Tryd.underlying58 rfl ti58 rfl) (t_leave (hQ _ (Option.some.inj h)) ((some ⟨g11, 0, none⟩), 1, 1) rfl (fun w Z hA => V0) (.cons e0 .nil))
end
end Go.Proofs.YthmjklpmamfncaaDoor.Gx

/- Function 20, kaudit/kauditlaw40.begun: what it answers as a plain function, and that the Go code comes to exactly that (where the plain function gives an answer). -/
set_option linter.unusedVariables false
set_option linter.unusedSimpArgs false
namespace Go.Proofs.YthmjklpmamfncaaDoor.Gx
open Go.Gx Go.RowKit
noncomputable section
/-! ### kaudit/kauditlaw40.begun: function 20 -/
def f_kauditlaw40_begun : Option (Bool) := (f_kauditmill_Case_Event (⟨([] : List Int), 0⟩ : kauditmill_Case) 1 1 1).bind fun y18 => (f_kauditlaw40_loss 4 2 2).bind fun y20 => (f_coverage_Of [y18.1, y20] 1 0).bind fun y23 => if (decide ((y23.length : Int) ≥ 3)) = true then ((f_coverage_Count y23 3).bind fun y28 => if (y28 == 1) = true then ((f_coverage_Count y23 4).bind fun y31 => if (y31 == 1) = true then ((at_ y23 (IntKind.wrap .i64 ((y23.length : Int) - 1))).bind fun el37 => if (el37.To == 4) = true then ((f_coverage_Format (⟨#[97]⟩ : ByteArray) 1 [(⟨1, 4, 1⟩ : api_Span), (⟨5, 7, 3⟩ : api_Span)]).bind fun y43 => some (y43.toList == (⟨#[97, 32, 49, 32, 53, 45, 55, 32, 108, 111, 115, 116, 10]⟩ : ByteArray).toList)) else (some false)) else (some false)) else (some false)) else (some false)
set_option maxHeartbeats 4000000 in
set_option maxRecDepth 100000 in
theorem C20 (r : Bool) (h : f_kauditlaw40_begun = some r) : FunG Tryd.prog 20 #[] [g_pow10, g_kinds] [] (fun (_ : Unit) => .bool r) (fun _ => []) (fun _ => []) := by
  unfold f_kauditlaw40_begun at h
  refine t_begin (args := []) Tryd.func20 rfl Tryd.ntmps20 rfl fun c R hR => ?_
  have hQ : ∀ X, X = r → ∀ w2 (_ : Unit), PostG c.w0 w2 c.M c.Y [] [] → R (.returned (.bool X)) w2 := fun X e => by subst e; exact hR
  refine t_seq fun K1 hK2 => ?_
  refine t_region ?_
  refine c_p (r_as rfl) rfl ?_
  refine t_nil ?_
  refine t_then hK2 ?_
  refine t_seq fun K3 hK4 => ?_
  refine t_region ?_
  refine nx (t_in (args := [.slice none 0 0, .int .i64 0]) (cap := []) (all := [.slice none 0 0, .int .i64 0]) rfl rfl Tryd.func5 nm5 rfl rfl rfl Tryd.ntmps5 rfl fun R5 k6 hk7 hR8 => ?_)
  refine t_seq fun K9 hK10 => ?_
  refine t_region ?_
  refine c_p (r_as rfl) rfl ?_
  refine t_nil ?_
  refine t_then hK10 ?_
  refine t_seq fun K11 hK12 => ?_
  refine t_seq fun K13 hK14 => ?_
  refine t_region ?_
  refine c_p (r_mv rfl) rfl ?_
  refine c_p (r_ln0 Tryd.underlying22 rfl) rfl ?_
  refine c_p (r_mv rfl) rfl ?_
  refine c_p (r_i rfl rfl rfl) rfl ?_
  refine t_nil ?_
  refine t_then hK14 ?_
  refine t_F rfl rfl ?_
  refine t_skip ?_
  refine t_then hK12 ?_
  refine t_seq fun K15 hK16 => ?_
  refine t_region ?_
  refine c_p (r_mv rfl) rfl ?_
  refine c_p (r_bu (ps := [(0, .slice none 0 0)]) (cs := [.slice none 0 0, .int .i64 0]) rfl (by kernel_rfl)) rfl ?_
  refine nx (t_bx (cs := [.slice none 0 0, .int .i64 0]) rfl rfl rfl fun g17 => ?_)
  refine c_p (r_as rfl) rfl ?_
  refine t_nil ?_
  refine t_then hK16 ?_
  refine t_ret ?_
  refine ret1 rfl (v_t rfl) (t_bk hR8 ?_)
  refine ti hk7 ?_
  obtain ⟨y18, hy18, h⟩ := bs h
  refine nx (t_ca (C30 _ _ _ _ _ _ _ _ _ hy18) Tryd.func30 nm30 rfl rfl rfl (.cons e0 .nil) (fun w Z hA => (VN 5 (V1 a0 hA (V1 a1 hA V0)))) rfl fun t19 => ?_)
  obtain ⟨y20, hy20, h⟩ := bs h
  refine nx (t_ca (C31 _ _ _ _ hy20) Tryd.func31 nm31 rfl rfl rfl .nil (fun w Z hA => (V1 a0 hA (V1 a1 hA V0))) rfl fun t21 => ?_)
  refine nx (t_bs (ps := [(0, .agg #[.int .i64 y18.1.Boot, .int .i64 y18.1.Serial, .int .i64 y18.1.Time, .slice t19.1 t19.2.1 t19.2.2, .bool y18.1.Complete]), (1, .agg #[.int .i64 y20.Boot, .int .i64 y20.Serial, .int .i64 y20.Time, .slice t21.1 t21.2.1 t21.2.2, .bool y20.Complete])]) (cs := [.int .i64 y18.1.Boot, .int .i64 y18.1.Serial, .int .i64 y18.1.Time, .slice t19.1 t19.2.1 t19.2.2, .bool y18.1.Complete, .int .i64 y20.Boot, .int .i64 y20.Serial, .int .i64 y20.Time, .slice t21.1 t21.2.1 t21.2.2, .bool y20.Complete]) Tryd.underlying60 ti58 rfl rfl (by kernel_rfl) rfl fun g22 => ?_)
  refine t_tr (Kd := k_api_Event) (xs := [y18.1, y20]) (.cons e0 (.cons e2 (.cons e0 .nil))) rfl (fun w Z S hA hN => (eoC (x := y18.1) (t := (t19.1, t19.2.1, t19.2.2)) k_api_Event_shutsO trivial (eoC (x := y20) (t := (t21.1, t21.2.1, t21.2.2)) k_api_Event_shutsO trivial eoN)) S hN) ?_
  obtain ⟨y23, hy23, h⟩ := bs h
  refine nx (t_cf (C29 _ _ _ _ _ _ _ hy23) (fun _ => (flat_cons (indK_slice 46 k_api_Span_indK) flat_nil)) Tryd.func29 nm29 rfl rfl rfl .nil (fun w Z S hA hL => (FL a0 hL (F1 a0 hA (F1 a1 hA F0)))) rfl fun t24 => ?_)
  refine c_p (r_as rfl) rfl ?_
  refine t_nil ?_
  refine t_then hK4 ?_
  refine t_seq fun K25 hK26 => ?_
  refine t_region ?_
  refine c_p (r_mv rfl) rfl ?_
  refine c_s (r_lnL a0 Tryd.underlying23 rfl) rfl ?_
  refine c_p (r_i rfl rfl rfl) rfl ?_
  refine c_p (r_mv rfl) rfl ?_
  rcases Bool.eq_false_or_eq_true (decide ((y23.length : Int) ≥ 3)) with hb27 | hb27
  · replace h := itT hb27 h
    refine nx (gd rfl rfl hb27 (sp (r_mv rfl) rfl ?_))
    obtain ⟨y28, hy28, h⟩ := bs h
    refine nx (gd rfl rfl hb27 (t_cf (C15 _ _ _ _ _ _ hy28) (fun _ => flat_nil) Tryd.func15 nm15 rfl rfl rfl .nil (fun w Z S hA hL => (FL a0 hL (F1 a0 hA (F1 a1 hA F0)))) rfl fun t29 => ?_))
    refine nx (gd rfl rfl hb27 (sp (r_i rfl rfl rfl) rfl ?_))
    refine c_p (r_pT rfl hb27 rfl) rfl ?_
    refine c_p (r_mv rfl) rfl ?_
    rcases Bool.eq_false_or_eq_true (y28 == 1) with hb30 | hb30
    · replace h := itT hb30 h
      refine nx (gd rfl rfl hb30 (sp (r_mv rfl) rfl ?_))
      obtain ⟨y31, hy31, h⟩ := bs h
      refine nx (gd rfl rfl hb30 (t_cf (C15 _ _ _ _ _ _ hy31) (fun _ => flat_nil) Tryd.func15 nm15 rfl rfl rfl .nil (fun w Z S hA hL => (FL a0 hL (F1 a0 hA (F1 a1 hA F0)))) rfl fun t32 => ?_))
      refine nx (gd rfl rfl hb30 (sp (r_i rfl rfl rfl) rfl ?_))
      refine c_p (r_pT rfl hb30 rfl) rfl ?_
      refine c_p (r_mv rfl) rfl ?_
      rcases Bool.eq_false_or_eq_true (y31 == 1) with hb33 | hb33
      · replace h := itT hb33 h
        refine nx (gd rfl rfl hb33 (sp (r_mv rfl) rfl ?_))
        refine nx (gd rfl rfl hb33 (sp (r_mv rfl) rfl ?_))
        refine nx (gd rfl rfl hb33 (ss (r_lnL a0 Tryd.underlying23 rfl) rfl ?_))
        refine nx (gd rfl rfl hb33 (sp (r_i rfl rfl rfl) rfl ?_))
        obtain ⟨el37, hel37, h⟩ := bs h
        refine t_qL a0 hel37 fun q34 hq35 hm36 => ?_
        refine nx (gd rfl rfl hb33 (sp (r_idx hq35 hm36 hel37 Tryd.underlying23 ti46 rfl rfl) rfl ?_))
        refine t_qf hq35 1 fun q38 hq39 => ?_
        refine nx (gd rfl rfl hb33 (sp (r_fai hq35 hq39 Tryd.underlying46 rfl ti3 rfl rfl) rfl ?_))
        refine t_oI k_api_Span_opensO e0 hel37 fun t40 => ?_
        refine nx (gd rfl rfl hb33 (ss (r_h1 a0 hq39 Tryd.underlying3 rfl rfl rfl) rfl ?_))
        refine nx (gd rfl rfl hb33 (sp (r_i rfl rfl rfl) rfl ?_))
        refine c_p (r_pT rfl hb33 rfl) rfl ?_
        refine c_p (r_mv rfl) rfl ?_
        rcases Bool.eq_false_or_eq_true (el37.To == 4) with hb41 | hb41
        · replace h := itT hb41 h
          refine nx (gd rfl rfl hb41 (sp (r_bu (ps := [(0, .int .i64 1), (1, .int .i64 4), (2, .int .i64 1)]) (cs := [.int .i64 1, .int .i64 4, .int .i64 1]) rfl (by kernel_rfl)) rfl ?_))
          refine nx (gd rfl rfl hb41 (sp (r_bu (ps := [(0, .int .i64 5), (1, .int .i64 7), (2, .int .i64 3)]) (cs := [.int .i64 5, .int .i64 7, .int .i64 3]) rfl (by kernel_rfl)) rfl ?_))
          refine nx (gd rfl rfl hb41 (t_bs (ps := [(0, .agg #[.int .i64 1, .int .i64 4, .int .i64 1]), (1, .agg #[.int .i64 5, .int .i64 7, .int .i64 3])]) (cs := [.int .i64 1, .int .i64 4, .int .i64 1, .int .i64 5, .int .i64 7, .int .i64 3]) Tryd.underlying23 ti46 rfl rfl (by kernel_rfl) rfl fun g42 => ?_))
          refine t_tr (Kd := k_api_Span) (xs := [(⟨1, 4, 1⟩ : api_Span), (⟨5, 7, 3⟩ : api_Span)]) (.cons e0 .nil) rfl (fun w Z S hA hN => flat_EO (S := Nil) k_api_Span_flatK (er1 (c1 := [.int .i64 1, .int .i64 4, .int .i64 1]) (k_api_Span_shuts (x := (⟨1, 4, 1⟩ : api_Span)) (t := ()) trivial) (er1 (c1 := [.int .i64 5, .int .i64 7, .int .i64 3]) (k_api_Span_shuts (x := (⟨5, 7, 3⟩ : api_Span)) (t := ()) trivial) er0))) ?_
          obtain ⟨y43, hy43, h⟩ := bs h
          refine nx (gd rfl rfl hb41 (t_cf (C13 _ _ _ _ _ _ _ hy43) (fun _ => flat_nil) Tryd.func13 nm13 rfl rfl rfl .nil (fun w Z S hA hL => (FL a0 hL (F1 a0 hA (F1 a1 hA F0)))) rfl fun t44 => ?_))
          refine nx (gd rfl rfl hb41 (sp (r_s rfl rfl rfl) rfl ?_))
          refine c_p (r_pT rfl hb41 rfl) rfl ?_
          refine c_p (r_as rfl) rfl ?_
          refine t_nil ?_
          refine t_then hK26 ?_
          refine t_ret ?_
          refine t_cS (u := el37) (t := ()) k_api_Span_shutsO hel37 (.cons e1 .nil) rfl (fun w Z hA => trivial) ?_
          exact ret1 rfl (v_t rfl) (t_leave (hQ _ (Option.some.inj h)) () rfl (fun w Z hA => V0) .nil)
        · replace h := itF hb41 h
          refine nx (pass rfl rfl hb41 rfl ?_)
          refine nx (pass rfl rfl hb41 rfl ?_)
          refine nx (pass rfl rfl hb41 rfl ?_)
          refine nx (pass rfl rfl hb41 rfl ?_)
          refine nx (pass rfl rfl hb41 rfl ?_)
          refine c_p (r_pF rfl hb41 rfl) rfl ?_
          refine c_p (r_as rfl) rfl ?_
          refine t_nil ?_
          refine t_then hK26 ?_
          refine t_ret ?_
          refine t_cS (u := el37) (t := ()) k_api_Span_shutsO hel37 (.cons e0 .nil) rfl (fun w Z hA => trivial) ?_
          exact ret1 rfl (v_t rfl) (t_leave (hQ _ (Option.some.inj h)) () rfl (fun w Z hA => V0) .nil)
      · replace h := itF hb33 h
        refine nx (pass rfl rfl hb33 rfl ?_)
        refine nx (pass rfl rfl hb33 rfl ?_)
        refine nx (pass rfl rfl hb33 rfl ?_)
        refine nx (pass rfl rfl hb33 rfl ?_)
        refine nx (pass rfl rfl hb33 rfl ?_)
        refine nx (pass rfl rfl hb33 rfl ?_)
        refine nx (pass rfl rfl hb33 rfl ?_)
        refine nx (pass rfl rfl hb33 rfl ?_)
        refine c_p (r_pF rfl hb33 rfl) rfl ?_
        refine c_p (r_mv rfl) rfl ?_
        refine nx (pass rfl rfl rfl rfl ?_)
        refine nx (pass rfl rfl rfl rfl ?_)
        refine nx (pass rfl rfl rfl rfl ?_)
        refine nx (pass rfl rfl rfl rfl ?_)
        refine nx (pass rfl rfl rfl rfl ?_)
        refine c_p (r_pF rfl rfl rfl) rfl ?_
        refine c_p (r_as rfl) rfl ?_
        refine t_nil ?_
        refine t_then hK26 ?_
        refine t_ret ?_
        exact ret1 rfl (v_t rfl) (t_leave (hQ _ (Option.some.inj h)) () rfl (fun w Z hA => V0) .nil)
    · replace h := itF hb30 h
      refine nx (pass rfl rfl hb30 rfl ?_)
      refine nx (pass rfl rfl hb30 rfl ?_)
      refine nx (pass rfl rfl hb30 rfl ?_)
      refine c_p (r_pF rfl hb30 rfl) rfl ?_
      refine c_p (r_mv rfl) rfl ?_
      refine nx (pass rfl rfl rfl rfl ?_)
      refine nx (pass rfl rfl rfl rfl ?_)
      refine nx (pass rfl rfl rfl rfl ?_)
      refine nx (pass rfl rfl rfl rfl ?_)
      refine nx (pass rfl rfl rfl rfl ?_)
      refine nx (pass rfl rfl rfl rfl ?_)
      refine nx (pass rfl rfl rfl rfl ?_)
      refine nx (pass rfl rfl rfl rfl ?_)
      refine c_p (r_pF rfl rfl rfl) rfl ?_
      refine c_p (r_mv rfl) rfl ?_
      refine nx (pass rfl rfl rfl rfl ?_)
      refine nx (pass rfl rfl rfl rfl ?_)
      refine nx (pass rfl rfl rfl rfl ?_)
      refine nx (pass rfl rfl rfl rfl ?_)
      refine nx (pass rfl rfl rfl rfl ?_)
      refine c_p (r_pF rfl rfl rfl) rfl ?_
      refine c_p (r_as rfl) rfl ?_
      refine t_nil ?_
      refine t_then hK26 ?_
      refine t_ret ?_
      exact ret1 rfl (v_t rfl) (t_leave (hQ _ (Option.some.inj h)) () rfl (fun w Z hA => V0) .nil)
  · replace h := itF hb27 h
    refine nx (pass rfl rfl hb27 rfl ?_)
    refine nx (pass rfl rfl hb27 rfl ?_)
    refine nx (pass rfl rfl hb27 rfl ?_)
    refine c_p (r_pF rfl hb27 rfl) rfl ?_
    refine c_p (r_mv rfl) rfl ?_
    refine nx (pass rfl rfl rfl rfl ?_)
    refine nx (pass rfl rfl rfl rfl ?_)
    refine nx (pass rfl rfl rfl rfl ?_)
    refine c_p (r_pF rfl rfl rfl) rfl ?_
    refine c_p (r_mv rfl) rfl ?_
    refine nx (pass rfl rfl rfl rfl ?_)
    refine nx (pass rfl rfl rfl rfl ?_)
    refine nx (pass rfl rfl rfl rfl ?_)
    refine nx (pass rfl rfl rfl rfl ?_)
    refine nx (pass rfl rfl rfl rfl ?_)
    refine nx (pass rfl rfl rfl rfl ?_)
    refine nx (pass rfl rfl rfl rfl ?_)
    refine nx (pass rfl rfl rfl rfl ?_)
    refine c_p (r_pF rfl rfl rfl) rfl ?_
    refine c_p (r_mv rfl) rfl ?_
    refine nx (pass rfl rfl rfl rfl ?_)
    refine nx (pass rfl rfl rfl rfl ?_)
    refine nx (pass rfl rfl rfl rfl ?_)
    refine nx (pass rfl rfl rfl rfl ?_)
    refine nx (pass rfl rfl rfl rfl ?_)
    refine c_p (r_pF rfl rfl rfl) rfl ?_
    refine c_p (r_as rfl) rfl ?_
    refine t_nil ?_
    refine t_then hK26 ?_
    refine t_ret ?_
    exact ret1 rfl (v_t rfl) (t_leave (hQ _ (Option.some.inj h)) () rfl (fun w Z hA => V0) .nil)
end
end Go.Proofs.YthmjklpmamfncaaDoor.Gx

/- The chapter's example, by reckoning: whatever order a map is gone through in. -/
set_option linter.unusedVariables false
set_option maxRecDepth 100000
namespace Go.Proofs.YthmjklpmamfncaaDoor.Gx
open Go.Gx Go.RowKit
theorem sort_eq {l r : List Int} (hp : l.Perm r) (hs : r.Pairwise (· ≤ ·)) : l.mergeSort (fun x y => decide (x ≤ y)) = r := by
  have h1 : (l.mergeSort (fun x y => decide (x ≤ y))).Pairwise (fun a b => decide (a ≤ b) = true) := List.pairwise_mergeSort (fun a b c h1 h2 => by simp at *; omega) (fun a b => by simp; omega) l
  have h2 : (l.mergeSort (fun x y => decide (x ≤ y))).Perm r := (List.mergeSort_perm l _).trans hp
  refine List.Perm.eq_of_pairwise (le := fun a b => a ≤ b) (fun a b _ _ h h' => by omega) ?_ hs h2
  exact h1.imp fun h => by simpa using h
theorem ex_of {e1 e2 : api_Event} (h : f_coverage_Of [e1, e2] 1 0 = f_coverage_Of_j4 [(1, 1), (4, 1)] [⟨2, 2, 0⟩] 4) : f_coverage_Of [e1, e2] 1 0 = some [⟨1, 1, 1⟩, ⟨2, 2, 3⟩, ⟨3, 3, 4⟩, ⟨4, 4, 1⟩] := by
  rw [h]
  have fin : ∀ l : List Int, l.Perm [1, 1, 2, 2, 3, 4, 5] → l.length = 7 → f_coverage_Of_j6 [(1, 1), (4, 1)] [⟨2, 2, 0⟩] 4 l = some [⟨1, 1, 1⟩, ⟨2, 2, 3⟩, ⟨3, 3, 4⟩, ⟨4, 4, 1⟩] := by
    intro l hp hl
    unfold f_coverage_Of_j6 f_slices_Sort_int_int
    refine bind_of (ck_of (by omega) rfl) ?_
    rw [sort_eq hp (by decide)]
    kernel_rfl
  have e0 : f_coverage_Of_j4 [(1, 1), (4, 1)] [⟨2, 2, 0⟩] 4 = f_coverage_Of_l2 [(1, 1), (4, 1)] [⟨2, 2, 0⟩] 4 (2 + 1) [1, 4] [1] := rfl
  rw [e0, f_coverage_Of_l2]
  refine ite_f rfl (anyOf_in (by simp) fun k hk => ck_of rfl ?_)
  simp only [List.mem_cons, List.not_mem_nil, or_false] at hk
  rcases hk with rfl | rfl
  · have e1 : f_coverage_Of_l2 [(1, 1), (4, 1)] [⟨2, 2, 0⟩] 4 2 (without [1, 4] 1) ([1] ++ [1, IntKind.wrap .i64 (1 + 1)]) = f_coverage_Of_l2 [(1, 1), (4, 1)] [⟨2, 2, 0⟩] 4 (1 + 1) [4] [1, 1, 2] := by kernel_rfl
    rw [e1, f_coverage_Of_l2]
    refine ite_f rfl (anyOf_in (by simp) fun k hk => ck_of rfl ?_)
    simp only [List.mem_cons, List.not_mem_nil, or_false] at hk
    subst hk
    have e2 : f_coverage_Of_l2 [(1, 1), (4, 1)] [⟨2, 2, 0⟩] 4 1 (without [4] 4) ([1, 1, 2] ++ [4, IntKind.wrap .i64 (4 + 1)]) = f_coverage_Of_j6 [(1, 1), (4, 1)] [⟨2, 2, 0⟩] 4 [1, 1, 2, 4, 5, 2, 3] := by kernel_rfl
    rw [e2]
    exact fin _ (by decide) rfl
  · have e1 : f_coverage_Of_l2 [(1, 1), (4, 1)] [⟨2, 2, 0⟩] 4 2 (without [1, 4] 4) ([1] ++ [4, IntKind.wrap .i64 (4 + 1)]) = f_coverage_Of_l2 [(1, 1), (4, 1)] [⟨2, 2, 0⟩] 4 (1 + 1) [1] [1, 4, 5] := by kernel_rfl
    rw [e1, f_coverage_Of_l2]
    refine ite_f rfl (anyOf_in (by simp) fun k hk => ck_of rfl ?_)
    simp only [List.mem_cons, List.not_mem_nil, or_false] at hk
    subst hk
    have e2 : f_coverage_Of_l2 [(1, 1), (4, 1)] [⟨2, 2, 0⟩] 4 1 (without [1] 1) ([1, 4, 5] ++ [1, IntKind.wrap .i64 (1 + 1)]) = f_coverage_Of_j6 [(1, 1), (4, 1)] [⟨2, 2, 0⟩] 4 [1, 4, 5, 1, 2, 2, 3] := by kernel_rfl
    rw [e2]
    exact fin _ (by decide) rfl
theorem begun_ok : f_kauditlaw40_begun = some true := by
  obtain ⟨e1, c1, h1, h1'⟩ : ∃ e c, f_kauditmill_Case_Event (⟨([] : List Int), 0⟩ : kauditmill_Case) 1 1 1 = some (e, c) ∧ f_coverage_Of [e, ⟨1, 4, 0, [⟨1331, 0, 4, [⟨⟨#[102, 105, 114, 115, 116]⟩, 1, 2, ⟨#[]⟩⟩, ⟨⟨#[108, 97, 115, 116]⟩, 1, 2, ⟨#[]⟩⟩]⟩], true⟩] 1 0 = f_coverage_Of_j4 [(1, 1), (4, 1)] [⟨2, 2, 0⟩] 4 := ⟨_, _, rfl, by kernel_rfl⟩
  unfold f_kauditlaw40_begun
  refine bind_of h1 (bind_of rfl (bind_of (ex_of h1') ?_))
  kernel_rfl
end Go.Proofs.YthmjklpmamfncaaDoor.Gx

/- Function 7, kaudit/kauditlaw40.spoilt: what it answers as a plain function, and that the Go code comes to exactly that (where the plain function gives an answer). -/
set_option linter.unusedVariables false
set_option linter.unusedSimpArgs false
namespace Go.Proofs.YthmjklpmamfncaaDoor.Gx
open Go.Gx Go.RowKit
noncomputable section
/-! ### kaudit/kauditlaw40.spoilt: function 7 -/
def f_kauditlaw40_spoilt (z0 : kauditmill_Case) (z1 : (List api_Span)) : Option ((List api_Span) × Int) := ck (fits (([] : List api_Span).length + z1.length) 24 = true) <| if (((([] : List api_Span) ++ z1).length : Int) == 0) = true then ((f_kauditmill_Case_Int z0 3).bind fun y20 => (f_kauditmill_Case_Int (⟨z0.codes, y20.2⟩ : kauditmill_Case) 3).bind fun y22 => (f_kauditmill_Case_Int (⟨z0.codes, y22.2⟩ : kauditmill_Case) 6).bind fun y24 => some ([(⟨y20.1, y22.1, y24.1⟩ : api_Span)], y24.2)) else ((f_kauditmill_Case_Int z0 ((([] : List api_Span) ++ z1).length : Int)).bind fun y29 => (at_ (([] : List api_Span) ++ z1) y29.1).bind fun el34 => (f_kauditmill_Case_Int (⟨z0.codes, y29.2⟩ : kauditmill_Case) 4).bind fun y39 => if (y39.1 == 0) = true then ((f_kauditmill_Case_Pick (⟨z0.codes, y39.2⟩ : kauditmill_Case) [1, (-1)]).bind fun y55 => some (((([] : List api_Span) ++ z1).set y29.1.toNat (⟨(IntKind.wrap .i64 (el34.From + y55.1)), el34.To, el34.Kind⟩ : api_Span)), y55.2)) else (if (y39.1 == 1) = true then ((f_kauditmill_Case_Pick (⟨z0.codes, y39.2⟩ : kauditmill_Case) [1, (-1), 4611686018427387904]).bind fun y77 => some (((([] : List api_Span) ++ z1).set y29.1.toNat (⟨el34.From, (IntKind.wrap .i64 (el34.To + y77.1)), el34.Kind⟩ : api_Span)), y77.2)) else (if (y39.1 == 2) = true then ((f_kauditmill_Case_Int (⟨z0.codes, y39.2⟩ : kauditmill_Case) 6).bind fun y88 => some (((([] : List api_Span) ++ z1).set y29.1.toNat (⟨el34.From, el34.To, y88.1⟩ : api_Span)), y88.2)) else (some (((([] : List api_Span) ++ z1).set y29.1.toNat (⟨el34.To, el34.From, el34.Kind⟩ : api_Span)), y39.2)))))
set_option maxHeartbeats 4000000 in
set_option maxRecDepth 100000 in
theorem C7 (z0 : kauditmill_Case) (z1 : (List api_Span)) (g_ : Nat) (p1 : Option Addr) (m2 : Nat) (c3 : Nat) (p4 : Option Addr) (m5 : Nat) (c6 : Nat) (r : (List api_Span) × Int) (h : f_kauditlaw40_spoilt z0 z1 = some r) : FunG Tryd.prog 7 #[.pointer (some ⟨g_, 0, none⟩), .slice p4 m5 c6] [vw (kSlice 5 (kInt .u8)) z0.codes [.slice p1 m2 c3], vw (kSlice 46 k_api_Span) z1 [.slice p4 m5 c6], g_pow10, g_kinds] [[blk g_ [.slice p1 m2 c3, .int .i64 z0.at_] 43]] (fun t : (Option Addr × Nat × Nat) => .slice t.1 t.2.1 t.2.2) (fun t => []) (fun t => [[blk g_ [.slice p1 m2 c3, .int .i64 r.2] 43], [row 46 k_api_Span r.1 (.slice t.1 t.2.1 t.2.2)]]) := by
  unfold f_kauditlaw40_spoilt at h
  refine t_begin (args := [.pointer (some ⟨g_, 0, none⟩), .slice p4 m5 c6]) Tryd.func7 rfl Tryd.ntmps7 rfl fun c R hR => ?_
  have hQ : ∀ X, X = r → ∀ w2 (t : (Option Addr × Nat × Nat)), PostG c.w0 w2 c.M c.Y [] [[blk g_ [.slice p1 m2 c3, .int .i64 X.2] 43], [row 46 k_api_Span X.1 (.slice t.1 t.2.1 t.2.2)]] → R (.returned (.slice t.1 t.2.1 t.2.2)) w2 := fun X e => by subst e; exact hR
  refine t_seq fun K7 hK8 => ?_
  refine t_region ?_
  refine c_p (r_as rfl) rfl ?_
  refine t_nil ?_
  refine t_then hK8 ?_
  refine t_seq fun K9 hK10 => ?_
  refine t_region ?_
  refine c_p (r_mv rfl) rfl ?_
  refine t_nr 46 k_api_Span ?_
  obtain ⟨hc11, h⟩ := ck_out h
  refine nx (t_app (Kd := k_api_Span) (xs := ([] : List api_Span)) (ys := z1) (.cons e0 .nil) rfl rfl Tryd.underlying23 Tryd.underlying23 ti46 rfl rfl hc11 (srcA k_api_Span_flatK a1) rfl fun t12 => ?_)
  refine c_p (r_as rfl) rfl ?_
  refine t_nil ?_
  refine t_then hK10 ?_
  refine t_seq fun K13 hK14 => ?_
  refine t_seq fun K15 hK16 => ?_
  refine t_region ?_
  refine c_p (r_mv rfl) rfl ?_
  refine c_s (r_lnL a0 Tryd.underlying23 rfl) rfl ?_
  refine c_p (r_i rfl rfl rfl) rfl ?_
  refine t_nil ?_
  refine t_then hK16 ?_
  rcases Bool.eq_false_or_eq_true (((([] : List api_Span) ++ z1).length : Int) == 0) with hb17 | hb17
  · replace h := itT hb17 h
    refine t_T rfl hb17 ?_
    refine t_seq fun K18 hK19 => ?_
    refine t_region ?_
    refine c_p (r_mv rfl) rfl ?_
    obtain ⟨y20, hy20, h⟩ := bs h
    refine nx (t_ca (C17 _ _ _ _ _ _ _ hy20) Tryd.func17 nm17 rfl rfl rfl (.cons e1 .nil) (fun w Z hA => (V1 a0 hA (V1 a2 hA (V1 a3 hA V0)))) rfl fun t21 => ?_)
    refine c_p (r_mv rfl) rfl ?_
    obtain ⟨y22, hy22, h⟩ := bs h
    refine nx (t_ca (C17 _ _ _ _ _ _ _ hy22) Tryd.func17 nm17 rfl rfl rfl (.cons e0 .nil) (fun w Z hA => (V1 a0 hA (V1 a2 hA (V1 a3 hA V0)))) rfl fun t23 => ?_)
    refine c_p (r_mv rfl) rfl ?_
    obtain ⟨y24, hy24, h⟩ := bs h
    refine nx (t_ca (C17 _ _ _ _ _ _ _ hy24) Tryd.func17 nm17 rfl rfl rfl (.cons e0 .nil) (fun w Z hA => (V1 a0 hA (V1 a2 hA (V1 a3 hA V0)))) rfl fun t25 => ?_)
    refine c_p (r_bu (ps := [(0, .int .i64 y20.1), (1, .int .i64 y22.1), (2, .int .i64 y24.1)]) (cs := [.int .i64 y20.1, .int .i64 y22.1, .int .i64 y24.1]) rfl (by kernel_rfl)) rfl ?_
    refine nx (t_bs (ps := [(0, .agg #[.int .i64 y20.1, .int .i64 y22.1, .int .i64 y24.1])]) (cs := [.int .i64 y20.1, .int .i64 y22.1, .int .i64 y24.1]) Tryd.underlying23 ti46 rfl rfl (by kernel_rfl) rfl fun g26 => ?_)
    refine c_p (r_as rfl) rfl ?_
    refine t_nil ?_
    refine t_then hK19 ?_
    refine t_ret ?_
    refine t_tr (Kd := k_api_Span) (xs := [(⟨y20.1, y22.1, y24.1⟩ : api_Span)]) (.cons e0 .nil) rfl (fun w Z S hA hN => flat_EO (S := Nil) k_api_Span_flatK (er1 (c1 := [.int .i64 y20.1, .int .i64 y22.1, .int .i64 y24.1]) (k_api_Span_shuts (x := (⟨y20.1, y22.1, y24.1⟩ : api_Span)) (t := ()) trivial) er0)) ?_
    exact tr (ret1 rfl (v_t rfl) (t_leave (hQ _ (Option.some.inj h)) ((some ⟨g26, 0, none⟩), 1, 1) rfl (fun w Z hA => V0) (.cons e1 (.cons e0 .nil))))
  · replace h := itF hb17 h
    refine t_F rfl hb17 ?_
    refine t_skip ?_
    refine t_then hK14 ?_
    refine t_seq fun K27 hK28 => ?_
    refine t_region ?_
    refine c_p (r_mv rfl) rfl ?_
    refine c_p (r_mv rfl) rfl ?_
    refine c_p (r_mv rfl) rfl ?_
    refine c_s (r_lnL a0 Tryd.underlying23 rfl) rfl ?_
    obtain ⟨y29, hy29, h⟩ := bs h
    refine nx (t_ca (C17 _ _ _ _ _ _ _ hy29) Tryd.func17 nm17 rfl rfl rfl (.cons e1 .nil) (fun w Z hA => (V1 a0 hA (V1 a2 hA (V1 a3 hA V0)))) rfl fun t30 => ?_)
    obtain ⟨el34, hel34, h⟩ := bs h
    refine t_qL a1 hel34 fun q31 hq32 hm33 => ?_
    refine c_p (r_idx hq32 hm33 hel34 Tryd.underlying23 ti46 rfl rfl) rfl ?_
    refine c_p (r_as rfl) rfl ?_
    refine t_nil ?_
    refine t_then hK28 ?_
    refine t_seq fun K35 hK36 => ?_
    refine t_seq fun K37 hK38 => ?_
    refine t_region ?_
    refine c_p (r_mv rfl) rfl ?_
    obtain ⟨y39, hy39, h⟩ := bs h
    refine nx (t_ca (C17 _ _ _ _ _ _ _ hy39) Tryd.func17 nm17 rfl rfl rfl (.cons e0 .nil) (fun w Z hA => (V1 a0 hA (V1 a2 hA (V1 a3 hA V0)))) rfl fun t40 => ?_)
    refine t_nil ?_
    refine t_then hK38 ?_
    refine t_block ?_
    refine t_seq fun K41 hK42 => ?_
    refine t_region ?_
    refine c_p (r_i rfl rfl rfl) rfl ?_
    refine c_p (r_as rfl) rfl ?_
    refine t_nil ?_
    refine t_then hK42 ?_
    rcases Bool.eq_false_or_eq_true (y39.1 == 0) with hb43 | hb43
    · replace h := itT hb43 h
      refine t_T rfl hb43 ?_
      refine t_draw mixed (fun w_ => True) [] [3, 5, 6, 10] rfl ?_
      refine t_nameW (fun w_ => True) [] [3, 5, 6, 10] fun W44 hW45 => ?_
      have J62 : ∀ (y55 : Int × Int) (hy55 : f_kauditmill_Case_Pick (⟨z0.codes, y39.2⟩ : kauditmill_Case) [1, (-1)] = some y55) (q57 : Addr) (hq58 : Idx t12.1 y29.1 (k_api_Span).n 0 q57), (some (((([] : List api_Span) ++ z1).set y29.1.toNat (⟨(IntKind.wrap .i64 (el34.From + y55.1)), el34.To, el34.Kind⟩ : api_Span)), y55.2)) = some r → T 73 c [vw (kSlice 5 (kInt .u8)) z0.codes [.slice p1 m2 c3], vw (kSlice 46 k_api_Span) z1 [.slice p4 m5 c6], g_pow10, g_kinds] [[blk g_ [.slice p1 m2 c3, .int .i64 y55.2] 43], [hole 46 k_api_Span (([] : List api_Span) ++ z1) y29.1.toNat [.int .i64 el34.From, .int .i64 el34.To, .int .i64 el34.Kind] (.slice t12.1 t12.2.1 t12.2.2)]] [(1, .slice t12.1 t12.2.1 t12.2.2), (50, .int .i64 (IntKind.wrap .i64 (el34.From + y55.1))), (52, .pointer (some q57))] (W44 1 #[true, true, true, true, true, true, true, true, true, true, false]) := by
        intro y55 hy55 q57 hq58 h
        refine t_W hW45 ?_
        refine d1 10 rfl (by kernel_rfl) (by kernel_rfl) ?_
        refine t_hs u1 hq58 ti3 rfl rfl rfl rfl rfl (.t (.s .z)) ?_
        refine dn (by kernel_rfl) ?_
        refine dz (by kernel_rfl) ?_
        refine t_blockN ?_
        refine t_then hK36 ?_
        refine t_seq fun K104 hK105 => ?_
        refine t_region ?_
        refine c_p (r_mv rfl) rfl ?_
        refine c_p (r_as rfl) rfl ?_
        refine t_nil ?_
        refine t_then hK105 ?_
        refine t_ret ?_
        refine t_cI (u := (⟨(IntKind.wrap .i64 (el34.From + y55.1)), el34.To, el34.Kind⟩ : api_Span)) (t := ()) k_api_Span_shutsO (.cons e1 .nil) rfl (fun w Z hA => trivial) ?_
        have hn112 := at_set (u' := (⟨(IntKind.wrap .i64 (el34.From + y55.1)), el34.To, el34.Kind⟩ : api_Span)) hel34
        exact ret1 rfl (v_t rfl) (t_leave (hQ _ (Option.some.inj h)) (t12.1, t12.2.1, t12.2.2) rfl (fun w Z hA => V0) (.cons e1 (.cons e0 .nil)))
      have J54 : ∀ (g50 : Nat), ((f_kauditmill_Case_Pick (⟨z0.codes, y39.2⟩ : kauditmill_Case) [1, (-1)]).bind fun y55 => some (((([] : List api_Span) ++ z1).set y29.1.toNat (⟨(IntKind.wrap .i64 (el34.From + y55.1)), el34.To, el34.Kind⟩ : api_Span)), y55.2)) = some r → T 73 c [vw (kSlice 5 (kInt .u8)) z0.codes [.slice p1 m2 c3], vw (kSlice 46 k_api_Span) z1 [.slice p4 m5 c6], g_pow10, g_kinds] [[blk g50 [.int .i64 1, .int .i64 (-1)] 3], [hole 46 k_api_Span (([] : List api_Span) ++ z1) y29.1.toNat [.int .i64 el34.From, .int .i64 el34.To, .int .i64 el34.Kind] (.slice t12.1 t12.2.1 t12.2.2)], [blk g_ [.slice p1 m2 c3, .int .i64 y39.2] 43]] [(1, .slice t12.1 t12.2.1 t12.2.2), (43, .pointer (some q31)), (46, .int .i64 el34.From), (47, .pointer (some ⟨g_, 0, none⟩)), (48, .slice (some ⟨g50, 0, none⟩) 2 2)] (W44 5 #[true, true, true, true, true, true, false, false, false, false, false]) := by
        intro g50 h
        refine t_W hW45 ?_
        refine d1 6 rfl (by kernel_rfl) (by kernel_rfl) ?_
        refine t_tr (Kd := (kInt .i64)) (xs := [1, (-1)]) (.cons e0 .nil) rfl (fun w Z S hA hN => flat_EO (S := Nil) (flatK_int .i64) (er1 (c1 := [.int .i64 1]) rfl (er1 (c1 := [.int .i64 (-1)]) rfl er0))) ?_
        obtain ⟨y55, hy55, h⟩ := bs h
        refine t_cf (C22 _ _ _ _ _ _ _ _ _ _ hy55) (fun _ => (flat_blk flat_nil)) Tryd.func22 nm22 rfl rfl rfl (.cons e2 .nil) (fun w Z S hA hL => (F1 a0 hA (FL a0 hL (F1 a2 hA (F1 a3 hA F0))))) rfl fun t56 => ?_
        refine dn (by kernel_rfl) ?_
        refine q_p 7 (panic_block (panic_then panic_body)) rfl (by kernel_rfl) W0 (r_i rfl rfl rfl) rfl ?_
        refine q_p 8 (panic_block (panic_then panic_body)) rfl (by kernel_rfl) W0 (r_nc rfl) rfl ?_
        refine t_qf hq32 0 fun q57 hq58 => ?_
        refine q_p 9 (panic_block (panic_then panic_body)) rfl (by kernel_rfl) W0 (r_fai hq32 hq58 Tryd.underlying46 rfl ti3 rfl rfl) rfl ?_
        exact dW hW45 (by kernel_rfl) (t_go (J62 y55 hy55 q57 hq58 h) ⟨rfl, rfl, rfl, trivial⟩ (.cons e0 (.cons e1 .nil)) (fun w Z hA => V1 a0 hA (V1 a1 hA (V1 a2 hA (V1 a3 hA (V0))))))
      refine q_p 0 (panic_block (panic_then panic_body)) rfl (by kernel_rfl) W0 (r_mv rfl) rfl ?_
      refine q_p 1 (panic_block (panic_then panic_body)) rfl (by kernel_rfl) W0 (r_nc rfl) rfl ?_
      refine t_qf hq32 0 fun q46 hq47 => ?_
      refine q_p 2 (panic_block (panic_then panic_body)) rfl (by kernel_rfl) W0 (r_fai hq32 hq47 Tryd.underlying46 rfl ti3 rfl rfl) rfl ?_
      refine q_p 4 (panic_block (panic_then panic_body)) rfl (by kernel_rfl) W0 (r_mv rfl) rfl ?_
      refine dm 3 [5] (by kernel_rfl) (dmc 3 rfl (by kernel_rfl) ?_ (dmc 5 rfl (by kernel_rfl) ?_ dmz))
      · refine t_oI k_api_Span_opensO e1 hel34 fun t48 => ?_
        refine ss (r_h1 a0 hq47 Tryd.underlying3 rfl rfl rfl) rfl ?_
        refine dn (by kernel_rfl) ?_
        refine d1 5 rfl (by kernel_rfl) (by kernel_rfl) ?_
        refine t_bs (ps := [(0, .int .i64 1), (1, .int .i64 (-1))]) (cs := [.int .i64 1, .int .i64 (-1)]) Tryd.underlying49 ti3 rfl rfl (by kernel_rfl) rfl fun g50 => ?_
        refine dn (by kernel_rfl) ?_
        exact dW hW45 (by kernel_rfl) (t_go (J54 g50 h) ⟨rfl, rfl, rfl, rfl, rfl, trivial⟩ (.cons e0 (.cons e0 (.cons e0 .nil))) (fun w Z hA => V1 a0 hA (V1 a1 hA (V1 a2 hA (V1 a3 hA (V0))))))
      · refine t_bs (ps := [(0, .int .i64 1), (1, .int .i64 (-1))]) (cs := [.int .i64 1, .int .i64 (-1)]) Tryd.underlying49 ti3 rfl rfl (by kernel_rfl) rfl fun g49 => ?_
        refine dn (by kernel_rfl) ?_
        refine dm 3 [6] (by kernel_rfl) (dmc 3 rfl (by kernel_rfl) ?_ (dmc 6 rfl (by kernel_rfl) ?_ dmz))
        · refine t_oI k_api_Span_opensO e2 hel34 fun t51 => ?_
          refine ss (r_h1 a0 hq47 Tryd.underlying3 rfl rfl rfl) rfl ?_
          refine dn (by kernel_rfl) ?_
          exact dW hW45 (by kernel_rfl) (t_go (J54 g49 h) ⟨rfl, rfl, rfl, rfl, rfl, trivial⟩ (.cons e1 (.cons e0 (.cons e0 .nil))) (fun w Z hA => V1 a0 hA (V1 a1 hA (V1 a2 hA (V1 a3 hA (V0))))))
        · refine t_tr (Kd := (kInt .i64)) (xs := [1, (-1)]) (.cons e0 .nil) rfl (fun w Z S hA hN => flat_EO (S := Nil) (flatK_int .i64) (er1 (c1 := [.int .i64 1]) rfl (er1 (c1 := [.int .i64 (-1)]) rfl er0))) ?_
          obtain ⟨y52, hy52, h⟩ := bs h
          refine t_cf (C22 _ _ _ _ _ _ _ _ _ _ hy52) (fun _ => (flat_blk flat_nil)) Tryd.func22 nm22 rfl rfl rfl (.cons e1 .nil) (fun w Z S hA hL => (F1 a0 hA (FL a0 hL (F1 a2 hA (F1 a3 hA F0))))) rfl fun t53 => ?_
          refine dn (by kernel_rfl) ?_
          refine d1 3 rfl (by kernel_rfl) (by kernel_rfl) ?_
          refine t_oI k_api_Span_opensO e2 hel34 fun t59 => ?_
          refine ss (r_h1 a0 hq47 Tryd.underlying3 rfl rfl rfl) rfl ?_
          refine dn (by kernel_rfl) ?_
          refine q_p 7 (panic_block (panic_then panic_body)) rfl (by kernel_rfl) W0 (r_i rfl rfl rfl) rfl ?_
          refine q_p 8 (panic_block (panic_then panic_body)) rfl (by kernel_rfl) W0 (r_nc rfl) rfl ?_
          refine t_qf hq32 0 fun q60 hq61 => ?_
          refine q_p 9 (panic_block (panic_then panic_body)) rfl (by kernel_rfl) W0 (r_fai hq32 hq61 Tryd.underlying46 rfl ti3 rfl rfl) rfl ?_
          exact dW hW45 (by kernel_rfl) (t_go (J62 y52 hy52 q60 hq61 h) ⟨rfl, rfl, rfl, trivial⟩ (.cons e1 (.cons e0 .nil)) (fun w Z hA => V1 a0 hA (V1 a1 hA (V1 a2 hA (V1 a3 hA (V0))))))
    · replace h := itF hb43 h
      refine t_F rfl hb43 ?_
      refine t_seq fun K63 hK64 => ?_
      refine t_region ?_
      refine c_p (r_i rfl rfl rfl) rfl ?_
      refine c_p (r_as rfl) rfl ?_
      refine t_nil ?_
      refine t_then hK64 ?_
      rcases Bool.eq_false_or_eq_true (y39.1 == 1) with hb65 | hb65
      · replace h := itT hb65 h
        refine t_T rfl hb65 ?_
        refine t_draw mixed (fun w_ => True) [] [3, 5, 6, 10] rfl ?_
        refine t_nameW (fun w_ => True) [] [3, 5, 6, 10] fun W66 hW67 => ?_
        have J84 : ∀ (y77 : Int × Int) (hy77 : f_kauditmill_Case_Pick (⟨z0.codes, y39.2⟩ : kauditmill_Case) [1, (-1), 4611686018427387904] = some y77) (q79 : Addr) (hq80 : Idx t12.1 y29.1 (k_api_Span).n 1 q79), (some (((([] : List api_Span) ++ z1).set y29.1.toNat (⟨el34.From, (IntKind.wrap .i64 (el34.To + y77.1)), el34.Kind⟩ : api_Span)), y77.2)) = some r → T 73 c [vw (kSlice 5 (kInt .u8)) z0.codes [.slice p1 m2 c3], vw (kSlice 46 k_api_Span) z1 [.slice p4 m5 c6], g_pow10, g_kinds] [[blk g_ [.slice p1 m2 c3, .int .i64 y77.2] 43], [hole 46 k_api_Span (([] : List api_Span) ++ z1) y29.1.toNat [.int .i64 el34.From, .int .i64 el34.To, .int .i64 el34.Kind] (.slice t12.1 t12.2.1 t12.2.2)]] [(1, .slice t12.1 t12.2.1 t12.2.2), (62, .int .i64 (IntKind.wrap .i64 (el34.To + y77.1))), (64, .pointer (some q79))] (W66 1 #[true, true, true, true, true, true, true, true, true, true, false]) := by
          intro y77 hy77 q79 hq80 h
          refine t_W hW67 ?_
          refine d1 10 rfl (by kernel_rfl) (by kernel_rfl) ?_
          refine t_hs u1 hq80 ti3 rfl rfl rfl rfl rfl (.s (.t (.s .z))) ?_
          refine dn (by kernel_rfl) ?_
          refine dz (by kernel_rfl) ?_
          refine t_blockN ?_
          refine t_then hK36 ?_
          refine t_seq fun K106 hK107 => ?_
          refine t_region ?_
          refine c_p (r_mv rfl) rfl ?_
          refine c_p (r_as rfl) rfl ?_
          refine t_nil ?_
          refine t_then hK107 ?_
          refine t_ret ?_
          refine t_cI (u := (⟨el34.From, (IntKind.wrap .i64 (el34.To + y77.1)), el34.Kind⟩ : api_Span)) (t := ()) k_api_Span_shutsO (.cons e1 .nil) rfl (fun w Z hA => trivial) ?_
          have hn113 := at_set (u' := (⟨el34.From, (IntKind.wrap .i64 (el34.To + y77.1)), el34.Kind⟩ : api_Span)) hel34
          exact ret1 rfl (v_t rfl) (t_leave (hQ _ (Option.some.inj h)) (t12.1, t12.2.1, t12.2.2) rfl (fun w Z hA => V0) (.cons e1 (.cons e0 .nil)))
        have J76 : ∀ (g72 : Nat), ((f_kauditmill_Case_Pick (⟨z0.codes, y39.2⟩ : kauditmill_Case) [1, (-1), 4611686018427387904]).bind fun y77 => some (((([] : List api_Span) ++ z1).set y29.1.toNat (⟨el34.From, (IntKind.wrap .i64 (el34.To + y77.1)), el34.Kind⟩ : api_Span)), y77.2)) = some r → T 73 c [vw (kSlice 5 (kInt .u8)) z0.codes [.slice p1 m2 c3], vw (kSlice 46 k_api_Span) z1 [.slice p4 m5 c6], g_pow10, g_kinds] [[blk g72 [.int .i64 1, .int .i64 (-1), .int .i64 4611686018427387904] 3], [hole 46 k_api_Span (([] : List api_Span) ++ z1) y29.1.toNat [.int .i64 el34.From, .int .i64 el34.To, .int .i64 el34.Kind] (.slice t12.1 t12.2.1 t12.2.2)], [blk g_ [.slice p1 m2 c3, .int .i64 y39.2] 43]] [(1, .slice t12.1 t12.2.1 t12.2.2), (55, .pointer (some q31)), (58, .int .i64 el34.To), (59, .pointer (some ⟨g_, 0, none⟩)), (60, .slice (some ⟨g72, 0, none⟩) 3 3)] (W66 5 #[true, true, true, true, true, true, false, false, false, false, false]) := by
          intro g72 h
          refine t_W hW67 ?_
          refine d1 6 rfl (by kernel_rfl) (by kernel_rfl) ?_
          refine t_tr (Kd := (kInt .i64)) (xs := [1, (-1), 4611686018427387904]) (.cons e0 .nil) rfl (fun w Z S hA hN => flat_EO (S := Nil) (flatK_int .i64) (er1 (c1 := [.int .i64 1]) rfl (er1 (c1 := [.int .i64 (-1)]) rfl (er1 (c1 := [.int .i64 4611686018427387904]) rfl er0)))) ?_
          obtain ⟨y77, hy77, h⟩ := bs h
          refine t_cf (C22 _ _ _ _ _ _ _ _ _ _ hy77) (fun _ => (flat_blk flat_nil)) Tryd.func22 nm22 rfl rfl rfl (.cons e2 .nil) (fun w Z S hA hL => (F1 a0 hA (FL a0 hL (F1 a2 hA (F1 a3 hA F0))))) rfl fun t78 => ?_
          refine dn (by kernel_rfl) ?_
          refine q_p 7 (panic_block (panic_then panic_body)) rfl (by kernel_rfl) W0 (r_i rfl rfl rfl) rfl ?_
          refine q_p 8 (panic_block (panic_then panic_body)) rfl (by kernel_rfl) W0 (r_nc rfl) rfl ?_
          refine t_qf hq32 1 fun q79 hq80 => ?_
          refine q_p 9 (panic_block (panic_then panic_body)) rfl (by kernel_rfl) W0 (r_fai hq32 hq80 Tryd.underlying46 rfl ti3 rfl rfl) rfl ?_
          exact dW hW67 (by kernel_rfl) (t_go (J84 y77 hy77 q79 hq80 h) ⟨rfl, rfl, rfl, trivial⟩ (.cons e0 (.cons e1 .nil)) (fun w Z hA => V1 a0 hA (V1 a1 hA (V1 a2 hA (V1 a3 hA (V0))))))
        refine q_p 0 (panic_block (panic_then panic_body)) rfl (by kernel_rfl) W0 (r_mv rfl) rfl ?_
        refine q_p 1 (panic_block (panic_then panic_body)) rfl (by kernel_rfl) W0 (r_nc rfl) rfl ?_
        refine t_qf hq32 1 fun q68 hq69 => ?_
        refine q_p 2 (panic_block (panic_then panic_body)) rfl (by kernel_rfl) W0 (r_fai hq32 hq69 Tryd.underlying46 rfl ti3 rfl rfl) rfl ?_
        refine q_p 4 (panic_block (panic_then panic_body)) rfl (by kernel_rfl) W0 (r_mv rfl) rfl ?_
        refine dm 3 [5] (by kernel_rfl) (dmc 3 rfl (by kernel_rfl) ?_ (dmc 5 rfl (by kernel_rfl) ?_ dmz))
        · refine t_oI k_api_Span_opensO e1 hel34 fun t70 => ?_
          refine ss (r_h1 a0 hq69 Tryd.underlying3 rfl rfl rfl) rfl ?_
          refine dn (by kernel_rfl) ?_
          refine d1 5 rfl (by kernel_rfl) (by kernel_rfl) ?_
          refine t_bs (ps := [(0, .int .i64 1), (1, .int .i64 (-1)), (2, .int .i64 4611686018427387904)]) (cs := [.int .i64 1, .int .i64 (-1), .int .i64 4611686018427387904]) Tryd.underlying49 ti3 rfl rfl (by kernel_rfl) rfl fun g72 => ?_
          refine dn (by kernel_rfl) ?_
          exact dW hW67 (by kernel_rfl) (t_go (J76 g72 h) ⟨rfl, rfl, rfl, rfl, rfl, trivial⟩ (.cons e0 (.cons e0 (.cons e0 .nil))) (fun w Z hA => V1 a0 hA (V1 a1 hA (V1 a2 hA (V1 a3 hA (V0))))))
        · refine t_bs (ps := [(0, .int .i64 1), (1, .int .i64 (-1)), (2, .int .i64 4611686018427387904)]) (cs := [.int .i64 1, .int .i64 (-1), .int .i64 4611686018427387904]) Tryd.underlying49 ti3 rfl rfl (by kernel_rfl) rfl fun g71 => ?_
          refine dn (by kernel_rfl) ?_
          refine dm 3 [6] (by kernel_rfl) (dmc 3 rfl (by kernel_rfl) ?_ (dmc 6 rfl (by kernel_rfl) ?_ dmz))
          · refine t_oI k_api_Span_opensO e2 hel34 fun t73 => ?_
            refine ss (r_h1 a0 hq69 Tryd.underlying3 rfl rfl rfl) rfl ?_
            refine dn (by kernel_rfl) ?_
            exact dW hW67 (by kernel_rfl) (t_go (J76 g71 h) ⟨rfl, rfl, rfl, rfl, rfl, trivial⟩ (.cons e1 (.cons e0 (.cons e0 .nil))) (fun w Z hA => V1 a0 hA (V1 a1 hA (V1 a2 hA (V1 a3 hA (V0))))))
          · refine t_tr (Kd := (kInt .i64)) (xs := [1, (-1), 4611686018427387904]) (.cons e0 .nil) rfl (fun w Z S hA hN => flat_EO (S := Nil) (flatK_int .i64) (er1 (c1 := [.int .i64 1]) rfl (er1 (c1 := [.int .i64 (-1)]) rfl (er1 (c1 := [.int .i64 4611686018427387904]) rfl er0)))) ?_
            obtain ⟨y74, hy74, h⟩ := bs h
            refine t_cf (C22 _ _ _ _ _ _ _ _ _ _ hy74) (fun _ => (flat_blk flat_nil)) Tryd.func22 nm22 rfl rfl rfl (.cons e1 .nil) (fun w Z S hA hL => (F1 a0 hA (FL a0 hL (F1 a2 hA (F1 a3 hA F0))))) rfl fun t75 => ?_
            refine dn (by kernel_rfl) ?_
            refine d1 3 rfl (by kernel_rfl) (by kernel_rfl) ?_
            refine t_oI k_api_Span_opensO e2 hel34 fun t81 => ?_
            refine ss (r_h1 a0 hq69 Tryd.underlying3 rfl rfl rfl) rfl ?_
            refine dn (by kernel_rfl) ?_
            refine q_p 7 (panic_block (panic_then panic_body)) rfl (by kernel_rfl) W0 (r_i rfl rfl rfl) rfl ?_
            refine q_p 8 (panic_block (panic_then panic_body)) rfl (by kernel_rfl) W0 (r_nc rfl) rfl ?_
            refine t_qf hq32 1 fun q82 hq83 => ?_
            refine q_p 9 (panic_block (panic_then panic_body)) rfl (by kernel_rfl) W0 (r_fai hq32 hq83 Tryd.underlying46 rfl ti3 rfl rfl) rfl ?_
            exact dW hW67 (by kernel_rfl) (t_go (J84 y74 hy74 q82 hq83 h) ⟨rfl, rfl, rfl, trivial⟩ (.cons e1 (.cons e0 .nil)) (fun w Z hA => V1 a0 hA (V1 a1 hA (V1 a2 hA (V1 a3 hA (V0))))))
      · replace h := itF hb65 h
        refine t_F rfl hb65 ?_
        refine t_seq fun K85 hK86 => ?_
        refine t_region ?_
        refine c_p (r_i rfl rfl rfl) rfl ?_
        refine c_p (r_as rfl) rfl ?_
        refine t_nil ?_
        refine t_then hK86 ?_
        rcases Bool.eq_false_or_eq_true (y39.1 == 2) with hb87 | hb87
        · replace h := itT hb87 h
          refine t_T rfl hb87 ?_
          refine t_region ?_
          refine c_p (r_mv rfl) rfl ?_
          refine c_p (r_mv rfl) rfl ?_
          obtain ⟨y88, hy88, h⟩ := bs h
          refine nx (t_ca (C17 _ _ _ _ _ _ _ hy88) Tryd.func17 nm17 rfl rfl rfl (.cons e0 .nil) (fun w Z hA => (V1 a0 hA (V1 a2 hA (V1 a3 hA V0)))) rfl fun t89 => ?_)
          refine c_p (r_nc rfl) rfl ?_
          refine t_qf hq32 2 fun q90 hq91 => ?_
          refine c_p (r_fai hq32 hq91 Tryd.underlying46 rfl ti3 rfl rfl) rfl ?_
          refine t_oI k_api_Span_opensO e1 hel34 fun t92 => ?_
          refine nx (t_hs u0 hq91 ti3 rfl rfl rfl rfl rfl (.s (.s (.t (.s .z)))) ?_)
          refine t_nil ?_
          refine t_blockN ?_
          refine t_then hK36 ?_
          refine t_seq fun K108 hK109 => ?_
          refine t_region ?_
          refine c_p (r_mv rfl) rfl ?_
          refine c_p (r_as rfl) rfl ?_
          refine t_nil ?_
          refine t_then hK109 ?_
          refine t_ret ?_
          refine t_cI (u := (⟨el34.From, el34.To, y88.1⟩ : api_Span)) (t := ()) k_api_Span_shutsO (.cons e0 .nil) rfl (fun w Z hA => trivial) ?_
          have hn114 := at_set (u' := (⟨el34.From, el34.To, y88.1⟩ : api_Span)) hel34
          exact ret1 rfl (v_t rfl) (t_leave (hQ _ (Option.some.inj h)) (t12.1, t12.2.1, t12.2.2) rfl (fun w Z hA => V0) (.cons e1 (.cons e0 .nil)))
        · replace h := itF hb87 h
          refine t_F rfl hb87 ?_
          refine t_draw mixed (fun w_ => True) [] [12, 15] rfl ?_
          refine q_p 0 (panic_block (panic_then panic_body)) rfl (by kernel_rfl) W0 (r_mv rfl) rfl ?_
          refine q_p 1 (panic_block (panic_then panic_body)) rfl (by kernel_rfl) W0 (r_mv rfl) rfl ?_
          refine q_p 2 (panic_block (panic_then panic_body)) rfl (by kernel_rfl) W0 (r_mv rfl) rfl ?_
          refine q_p 3 (panic_block (panic_then panic_body)) rfl (by kernel_rfl) W0 (r_nc rfl) rfl ?_
          refine t_qf hq32 1 fun q95 hq96 => ?_
          refine q_p 4 (panic_block (panic_then panic_body)) rfl (by kernel_rfl) W0 (r_fai hq32 hq96 Tryd.underlying46 rfl ti3 rfl rfl) rfl ?_
          refine t_oI k_api_Span_opensO e1 hel34 fun t97 => ?_
          refine q_u 5 (panic_block (panic_then panic_body)) rfl (by kernel_rfl) W0 (by kernel_rfl) (r_h1 a0 hq96 Tryd.underlying3 rfl rfl rfl) rfl ?_
          refine q_p 6 (panic_block (panic_then panic_body)) rfl (by kernel_rfl) W0 (r_mv rfl) rfl ?_
          refine q_p 7 (panic_block (panic_then panic_body)) rfl (by kernel_rfl) W0 (r_nc rfl) rfl ?_
          refine t_qf hq32 0 fun q98 hq99 => ?_
          refine q_p 8 (panic_block (panic_then panic_body)) rfl (by kernel_rfl) W0 (r_fai hq32 hq99 Tryd.underlying46 rfl ti3 rfl rfl) rfl ?_
          refine q_u 9 (panic_block (panic_then panic_body)) rfl (by kernel_rfl) W0 (by kernel_rfl) (r_h1 a0 hq99 Tryd.underlying3 rfl rfl rfl) rfl ?_
          refine q_p 10 (panic_block (panic_then panic_body)) rfl (by kernel_rfl) W0 (r_nc rfl) rfl ?_
          refine t_qf hq32 0 fun q100 hq101 => ?_
          refine q_p 11 (panic_block (panic_then panic_body)) rfl (by kernel_rfl) W0 (r_fai hq32 hq101 Tryd.underlying46 rfl ti3 rfl rfl) rfl ?_
          refine d1 12 rfl (by kernel_rfl) (by kernel_rfl) ?_
          refine t_hs u0 hq101 ti3 rfl rfl rfl rfl rfl (.t (.s .z)) ?_
          refine dn (by kernel_rfl) ?_
          refine q_p 13 (panic_block (panic_then panic_body)) rfl (by kernel_rfl) W0 (r_nc rfl) rfl ?_
          refine t_qf hq32 1 fun q102 hq103 => ?_
          refine q_p 14 (panic_block (panic_then panic_body)) rfl (by kernel_rfl) W0 (r_fai hq32 hq103 Tryd.underlying46 rfl ti3 rfl rfl) rfl ?_
          refine d1 15 rfl (by kernel_rfl) (by kernel_rfl) ?_
          refine t_hs u0 hq103 ti3 rfl rfl rfl rfl rfl (.s (.t (.s .z))) ?_
          refine dn (by kernel_rfl) ?_
          refine dz (by kernel_rfl) ?_
          refine t_blockN ?_
          refine t_then hK36 ?_
          refine t_seq fun K110 hK111 => ?_
          refine t_region ?_
          refine c_p (r_mv rfl) rfl ?_
          refine c_p (r_as rfl) rfl ?_
          refine t_nil ?_
          refine t_then hK111 ?_
          refine t_ret ?_
          refine t_cI (u := (⟨el34.To, el34.From, el34.Kind⟩ : api_Span)) (t := ()) k_api_Span_shutsO (.cons e0 .nil) rfl (fun w Z hA => trivial) ?_
          have hn115 := at_set (u' := (⟨el34.To, el34.From, el34.Kind⟩ : api_Span)) hel34
          exact ret1 rfl (v_t rfl) (t_leave (hQ _ (Option.some.inj h)) (t12.1, t12.2.1, t12.2.2) rfl (fun w Z hA => V0) (.cons e1 (.cons e0 .nil)))
end
end Go.Proofs.YthmjklpmamfncaaDoor.Gx
