/- Function 27, kaudit/rotate.Numbers: what it answers as a plain function, and that the Go code comes to exactly that (where the plain function gives an answer). -/
import Derived.Test.YtgcigcbhilcgoaaDoorYT
import Derived.Test.YtgcigcbhilcgoaaDoorY21
import Derived.Test.YtgcigcbhilcgoaaDoorY30
set_option linter.unusedVariables false
set_option linter.unusedSimpArgs false
namespace Go.Proofs.YtgcigcbhilcgoaaDoor.Gx
open Go.Gx Go.RowKit
/-! ### kaudit/rotate.Numbers: function 27 -/
def f_rotate_Numbers_j1 (x108 : List Int) : Option ((List Int)) := (f_rotate_unique_int x108).bind fun y113 => some y113
def f_rotate_Numbers_l1 (z0 : (List ByteArray)) : Nat → List Int → Int → Option ((List Int))
  | 0, _, _ => none
  | k79 + 1, x75, x76 => if (decide (x76 < (z0.length : Int))) = true then ((at_ z0 x76).bind fun el93 => (f_rotate_Number el93).bind fun y97 => if y97.2.1 = true then (ck (fits (x75.length + [y97.1].length) 8 = true) <| f_rotate_Numbers_l1 z0 k79 (x75 ++ [y97.1]) (IntKind.wrap .i64 (x76 + 1))) else (f_rotate_Numbers_l1 z0 k79 x75 (IntKind.wrap .i64 (x76 + 1)))) else (f_rotate_Numbers_j1 x75)
def f_rotate_Numbers (z0 : (List ByteArray)) : Option ((List Int)) := f_rotate_Numbers_l1 z0 ((((z0.length : Int) : Int) - (0)).toNat + 1) ([] : List Int) 0
set_option maxHeartbeats 4000000 in
set_option maxRecDepth 100000 in
theorem C27 (z0 : (List ByteArray)) (p1 : Option Addr) (m2 : Nat) (c3 : Nat) (r : (List Int)) (h : f_rotate_Numbers z0 = some r) : FunG Tryd.prog 27 #[.slice p1 m2 c3] [vw (kSlice 9 kStr) z0 [.slice p1 m2 c3], g_pow10, g_errs] [] (fun t : (Option Addr × Nat × Nat) => .slice t.1 t.2.1 t.2.2) (fun t => []) (fun t => [[row 3 (kInt .i64) r (.slice t.1 t.2.1 t.2.2)]]) := by
  unfold f_rotate_Numbers at h
  refine t_begin (args := [.slice p1 m2 c3]) Tryd.func27 rfl Tryd.ntmps27 rfl fun c R hR => ?_
  have hQ : ∀ X, X = r → ∀ w2 (t : (Option Addr × Nat × Nat)), PostG c.w0 w2 c.M c.Y [] [[row 3 (kInt .i64) X (.slice t.1 t.2.1 t.2.2)]] → R (.returned (.slice t.1 t.2.1 t.2.2)) w2 := fun X e => by subst e; exact hR
  refine t_seq fun K4 hK5 => ?_
  refine t_region ?_
  refine c_p (r_as rfl) rfl ?_
  refine t_nil ?_
  refine t_then hK5 ?_
  refine t_seq fun K6 hK7 => ?_
  refine t_region ?_
  refine c_p (r_as rfl) rfl ?_
  refine t_nil ?_
  refine t_then hK7 ?_
  refine t_seq fun K8 hK9 => ?_
  have J109 : ∀ (p105 : Option Addr) (m106 : Nat) (c107 : Nat) (x108 : List Int), f_rotate_Numbers_j1 x108 = some r → T 29 c [g_pow10, g_errs] [[row 3 (kInt .i64) x108 (.slice p105 m106 c107)]] [(3, .slice p105 m106 c107)] K8 := by
    intro p105 m106 c107 x108 h110
    unfold f_rotate_Numbers_j1 at h110
    refine ti hK9 ?_
    refine t_seq fun K111 hK112 => ?_
    refine t_region ?_
    refine c_p (r_mv rfl) rfl ?_
    obtain ⟨y113, hy113, h110⟩ := bs h110
    refine nx (t_cf (C30 _ _ _ _ _ hy113) (fun _ => (flat_cons (indK_slice 3 (indK_int .i64)) flat_nil)) Tryd.func30 nm30 rfl rfl rfl .nil (fun w Z S hA hL => (FL a0 hL (F1 a0 hA (F1 a1 hA F0)))) rfl fun t114 => ?_)
    refine c_p (r_as rfl) rfl ?_
    refine t_nil ?_
    refine t_then hK112 ?_
    refine t_ret ?_
    exact ret1 rfl (v_t rfl) (t_leave (hQ _ (Option.some.inj h110)) (t114.1, t114.2.1, t114.2.2) rfl (fun w Z hA => V0) (.cons e0 .nil))
  refine t_seq fun K10 hK11 => ?_
  refine t_region ?_
  refine c_p (r_mv rfl) rfl ?_
  refine c_s (r_lnA a0 Tryd.underlying43 rfl) rfl ?_
  refine c_p (r_mv rfl) rfl ?_
  refine t_nil ?_
  refine t_then hK11 ?_
  refine t_block ?_
  refine t_nr 3 (kInt .i64) ?_
  refine t_lp fun k70 hk71 => ?_
  have LP77 : ∀ (k79 : Nat) (p72 : Option Addr) (m73 : Nat) (c74 : Nat) (x75 : List Int) (x76 : Int), f_rotate_Numbers_l1 z0 k79 x75 x76 = some r → T 29 c [vw (kSlice 9 kStr) z0 [.slice p1 m2 c3], g_pow10, g_errs] [[row 3 (kInt .i64) x75 (.slice p72 m73 c74)]] [(3, .slice p72 m73 c74), (9, .slice p1 m2 c3), (10, .int .i64 (z0.length : Int)), (11, .int .i64 x76)] k70 := by
    intro k79
    induction k79 with
    | zero => intro p72 m73 c74 x75 x76 h78; rewrite [f_rotate_Numbers_l1] at h78; cases h78
    | succ k79 ih80 =>
      intro p72 m73 c74 x75 x76 h78
      rewrite [f_rotate_Numbers_l1] at h78
      refine ti hk71 ?_
      refine t_seq fun K81 hK82 => ?_
      refine t_region ?_
      refine c_p (r_i rfl rfl rfl) rfl ?_
      refine t_nil ?_
      refine t_then hK82 ?_
      refine t_seq fun K83 hK84 => ?_
      rcases Bool.eq_false_or_eq_true (decide (x76 < (z0.length : Int))) with hb85 | hb85
      · replace h78 := itT hb85 h78
        refine t_T rfl hb85 ?_
        refine t_skip ?_
        refine t_then hK84 ?_
        refine t_seq fun K86 hK87 => ?_
        refine t_block ?_
        refine t_seq fun K88 hK89 => ?_
        refine t_region ?_
        obtain ⟨el93, hel93, h78⟩ := bs h78
        refine t_q a0 hel93 fun q90 hq91 hm92 => ?_
        refine c_p (r_idx hq91 hm92 hel93 Tryd.underlying43 ti9 rfl rfl) rfl ?_
        refine t_op opens_str a0 hel93 fun t94 => ?_
        refine c_s (r_e1 a0 hq91 Tryd.underlying9 rfl rfl rfl) rfl ?_
        refine c_p (r_as rfl) rfl ?_
        refine t_nil ?_
        refine t_then hK89 ?_
        refine t_seq fun K95 hK96 => ?_
        refine t_region ?_
        refine c_p (r_mv rfl) rfl ?_
        obtain ⟨y97, hy97, h78⟩ := bs h78
        refine nx (t_ca (C21 _ _ hy97) Tryd.func21 nm21 rfl rfl rfl .nil (fun w Z hA => (V1 a2 hA (V1 a3 hA V0))) rfl fun t98 => ?_)
        refine c_p (r_mv rfl) rfl ?_
        refine c_p (r_ex rfl rfl) rfl ?_
        refine c_p (r_ex rfl rfl) rfl ?_
        refine c_p (r_ex rfl rfl) rfl ?_
        refine c_p (r_as rfl) rfl ?_
        refine c_p (r_as rfl) rfl ?_
        refine c_p (r_as rfl) rfl ?_
        refine t_nil ?_
        refine t_then hK96 ?_
        refine t_seq fun K99 hK100 => ?_
        refine t_region ?_
        refine c_p (r_mv rfl) rfl ?_
        refine t_nil ?_
        refine t_then hK100 ?_
        rcases Bool.eq_false_or_eq_true y97.2.1 with hb101 | hb101
        · replace h78 := itT hb101 h78
          refine t_T rfl hb101 ?_
          refine t_region ?_
          refine c_p (r_mv rfl) rfl ?_
          refine c_p (r_mv rfl) rfl ?_
          refine nx (t_bs (ps := [(0, .int .i64 y97.1)]) (cs := [.int .i64 y97.1]) Tryd.underlying36 ti3 rfl rfl (by kernel_rfl) rfl fun g102 => ?_)
          obtain ⟨hc103, h78⟩ := ck_out h78
          refine nx (t_app (Kd := (kInt .i64)) (xs := x75) (ys := [y97.1]) (.cons e1 .nil) rfl rfl Tryd.underlying36 Tryd.underlying36 ti3 rfl rfl hc103 (srcB a0 (fun w Z S hA hN => flat_EO (S := Nil) (flatK_int .i64) (er1 (c1 := [.int .i64 y97.1]) rfl er0))) rfl fun t104 => ?_)
          refine c_p (r_as rfl) rfl ?_
          refine t_nil ?_
          refine t_blockN ?_
          refine t_then hK87 ?_
          refine t_region ?_
          refine c_p (r_i rfl rfl rfl) rfl ?_
          refine c_p (r_mv rfl) rfl ?_
          refine t_nil ?_
          exact t_norm (t_go (ih80 t104.1 t104.2.1 t104.2.2 (x75 ++ [y97.1]) (IntKind.wrap .i64 (x76 + 1)) h78) ⟨rfl, rfl, rfl, rfl, trivial⟩ (.cons e0 .nil) (fun w Z hA => V1 a1 hA (V1 a2 hA (V1 a3 hA (V0)))))
        · replace h78 := itF hb101 h78
          refine t_F rfl hb101 ?_
          refine t_skip ?_
          refine t_blockN ?_
          refine t_then hK87 ?_
          refine t_region ?_
          refine c_p (r_i rfl rfl rfl) rfl ?_
          refine c_p (r_mv rfl) rfl ?_
          refine t_nil ?_
          exact t_norm (t_go (ih80 p72 m73 c74 x75 (IntKind.wrap .i64 (x76 + 1)) h78) ⟨rfl, rfl, rfl, rfl, trivial⟩ (.cons e0 .nil) (fun w Z hA => V1 a1 hA (V1 a2 hA (V1 a3 hA (V0)))))
      · replace h78 := itF hb85 h78
        refine t_F rfl hb85 ?_
        refine t_exit ?_
        refine te (te (bx ?_))
        exact t_norm (t_go (J109 p72 m73 c74 x75 h78) ⟨rfl, trivial⟩ (.cons e0 .nil) (fun w Z hA => V1 a1 hA (V1 a2 hA (V0))))
  exact t_go (LP77 ((((z0.length : Int) : Int) - (0)).toNat + 1) none 0 0 ([] : List Int) 0 h) ⟨rfl, rfl, rfl, rfl, trivial⟩ (.cons e0 .nil) (fun w Z hA => V1 a0 hA (V1 a1 hA (V1 a2 hA (V0))))
end Go.Proofs.YtgcigcbhilcgoaaDoor.Gx
