/- Function 22, kaudit/kauditref26.Number: what it answers as a plain function, and that the Go code comes to exactly that (where the plain function gives an answer). -/
import Derived.Test.YtgcigcbhilcgoaaDoorYT
import Derived.Test.YtgcigcbhilcgoaaDoorY23
set_option linter.unusedVariables false
set_option linter.unusedSimpArgs false
namespace Go.Proofs.YtgcigcbhilcgoaaDoor.Gx
open Go.Gx Go.RowKit
/-! ### kaudit/kauditref26.Number: function 22 -/
def f_kauditref26_Number_j2 (x13 : ByteArray) (x14 : Bool) (x101 : Int) : Option (Int × Bool × Bool) := (f_kauditref26_Name x101).bind fun y108 => if (y108.toList == x13.toList) = true then (some (x101, true, x14)) else (some (0, false, false))
def f_kauditref26_Number_l1 (x13 : ByteArray) (x14 : Bool) : Nat → Int → Int → Option (Int × Bool × Bool)
  | 0, _, _ => none
  | k79 + 1, x75, x76 => if (decide (x76 < 8)) = true then ((byteAt x13 x76).bind fun ch92 => if (decide (ch92 < 48)) = true then (some (0, false, false)) else ((byteAt x13 x76).bind fun ch94 => if (decide (ch94 > 57)) = true then (some (0, false, false)) else ((byteAt x13 x76).bind fun ch100 => f_kauditref26_Number_l1 x13 x14 k79 (IntKind.wrap .i64 ((IntKind.wrap .i64 (10 * x75)) + (IntKind.wrap .i64 (IntKind.wrap .u8 (ch100 - 48))))) (IntKind.wrap .i64 (x76 + 1))))) else (f_kauditref26_Number_j2 x13 x14 x75)
def f_kauditref26_Number_j1 (x13 : ByteArray) (x14 : Bool) : Option (Int × Bool × Bool) := if ((x13.size : Int) != 8) = true then (some (0, false, false)) else (f_kauditref26_Number_l1 x13 x14 (((8 : Int) - (4)).toNat + 1) 0 4)
def f_kauditref26_Number (z0 : ByteArray) : Option (Int × Bool × Bool) := if ((z0.size : Int) == 10) = true then ((subStr z0 8 (z0.size : Int)).bind fun s10 => if (s10.toList == (⟨#[46, 122]⟩ : ByteArray).toList) = true then ((subStr z0 0 8).bind fun s12 => f_kauditref26_Number_j1 s12 true) else (f_kauditref26_Number_j1 z0 false)) else (f_kauditref26_Number_j1 z0 false)
set_option maxHeartbeats 4000000 in
set_option maxRecDepth 100000 in
theorem C22 (z0 : ByteArray) (r : Int × Bool × Bool) (h : f_kauditref26_Number z0 = some r) : FunG Tryd.prog 22 #[.string z0] [g_pow10, g_errs] [] (fun (_ : Unit) => .tuple #[.int .i64 r.1, .bool r.2.1, .bool r.2.2]) (fun _ => []) (fun _ => []) := by
  unfold f_kauditref26_Number at h
  refine t_begin (args := [.string z0]) Tryd.func22 rfl Tryd.ntmps22 rfl fun c R hR => ?_
  have hQ : ∀ X, X = r → ∀ w2 (_ : Unit), PostG c.w0 w2 c.M c.Y [] [] → R (.returned (.tuple #[.int .i64 X.1, .bool X.2.1, .bool X.2.2])) w2 := fun X e => by subst e; exact hR
  refine t_seq fun K1 hK2 => ?_
  refine t_region ?_
  refine c_p (r_as rfl) rfl ?_
  refine c_p (r_as rfl) rfl ?_
  refine c_p (r_as rfl) rfl ?_
  refine t_nil ?_
  refine t_then hK2 ?_
  refine t_seq fun K3 hK4 => ?_
  refine t_region ?_
  refine c_p (r_mv rfl) rfl ?_
  refine c_p (r_as rfl) rfl ?_
  refine c_p (r_as rfl) rfl ?_
  refine t_nil ?_
  refine t_then hK4 ?_
  refine t_seq fun K5 hK6 => ?_
  have J15 : ∀ (x13 : ByteArray) (x14 : Bool), f_kauditref26_Number_j1 x13 x14 = some r → T 51 c [g_pow10, g_errs] [] [(5, .string x13), (6, .bool x14)] K5 := by
    intro x13 x14 h16
    unfold f_kauditref26_Number_j1 at h16
    refine ti hK6 ?_
    refine t_seq fun K17 hK18 => ?_
    refine t_seq fun K19 hK20 => ?_
    refine t_region ?_
    refine c_p (r_mv rfl) rfl ?_
    refine c_p (r_lenS Tryd.underlying9 rfl) rfl ?_
    refine c_p (r_i rfl rfl rfl) rfl ?_
    refine t_nil ?_
    refine t_then hK20 ?_
    rcases Bool.eq_false_or_eq_true ((x13.size : Int) != 8) with hb21 | hb21
    · replace h16 := itT hb21 h16
      refine t_T rfl hb21 ?_
      refine t_seq fun K22 hK23 => ?_
      refine t_region ?_
      refine c_p (r_as rfl) rfl ?_
      refine c_p (r_as rfl) rfl ?_
      refine c_p (r_as rfl) rfl ?_
      refine t_nil ?_
      refine t_then hK23 ?_
      refine t_ret ?_
      exact tr (ret3 rfl (v_t rfl) (v_t rfl) (v_t rfl) (t_leave (hQ _ (Option.some.inj h16)) () rfl (fun w Z hA => V0) .nil))
    · replace h16 := itF hb21 h16
      refine t_F rfl hb21 ?_
      refine t_skip ?_
      refine t_then hK18 ?_
      refine t_seq fun K24 hK25 => ?_
      refine t_region ?_
      refine c_p (r_as rfl) rfl ?_
      refine t_nil ?_
      refine t_then hK25 ?_
      refine t_seq fun K26 hK27 => ?_
      have J102 : ∀ (x101 : Int), f_kauditref26_Number_j2 x13 x14 x101 = some r → T 51 c [g_pow10, g_errs] [] [(5, .string x13), (6, .bool x14), (7, .int .i64 x101)] K26 := by
        intro x101 h103
        unfold f_kauditref26_Number_j2 at h103
        refine ti hK27 ?_
        refine t_seq fun K104 hK105 => ?_
        refine t_seq fun K106 hK107 => ?_
        refine t_region ?_
        refine c_p (r_mv rfl) rfl ?_
        obtain ⟨y108, hy108, h103⟩ := bs h103
        refine nx (t_ca (C23 _ _ hy108) Tryd.func23 nm23 rfl rfl rfl .nil (fun w Z hA => (V1 a0 hA (V1 a1 hA V0))) rfl fun t109 => ?_)
        refine c_p (r_mv rfl) rfl ?_
        refine c_p (r_s rfl rfl rfl) rfl ?_
        refine t_nil ?_
        refine t_then hK107 ?_
        rcases Bool.eq_false_or_eq_true (y108.toList == x13.toList) with hb110 | hb110
        · replace h103 := itT hb110 h103
          refine t_F rfl (congrArg Bool.not hb110) ?_
          refine t_skip ?_
          refine t_then hK105 ?_
          refine t_seq fun K113 hK114 => ?_
          refine t_region ?_
          refine c_p (r_mv rfl) rfl ?_
          refine c_p (r_mv rfl) rfl ?_
          refine c_p (r_as rfl) rfl ?_
          refine c_p (r_as rfl) rfl ?_
          refine c_p (r_as rfl) rfl ?_
          refine t_nil ?_
          refine t_then hK114 ?_
          refine t_ret ?_
          exact ret3 rfl (v_t rfl) (v_t rfl) (v_t rfl) (t_leave (hQ _ (Option.some.inj h103)) () rfl (fun w Z hA => V0) .nil)
        · replace h103 := itF hb110 h103
          refine t_T rfl (congrArg Bool.not hb110) ?_
          refine t_seq fun K111 hK112 => ?_
          refine t_region ?_
          refine c_p (r_as rfl) rfl ?_
          refine c_p (r_as rfl) rfl ?_
          refine c_p (r_as rfl) rfl ?_
          refine t_nil ?_
          refine t_then hK112 ?_
          refine t_ret ?_
          exact tr (ret3 rfl (v_t rfl) (v_t rfl) (v_t rfl) (t_leave (hQ _ (Option.some.inj h103)) () rfl (fun w Z hA => V0) .nil))
      refine t_seq fun K28 hK29 => ?_
      refine t_region ?_
      refine c_p (r_as rfl) rfl ?_
      refine t_nil ?_
      refine t_then hK29 ?_
      refine t_block ?_
      refine t_lp fun k73 hk74 => ?_
      have LP77 : ∀ (k79 : Nat) (x75 : Int) (x76 : Int), f_kauditref26_Number_l1 x13 x14 k79 x75 x76 = some r → T 51 c [g_pow10, g_errs] [] [(5, .string x13), (6, .bool x14), (7, .int .i64 x75), (8, .int .i64 x76)] k73 := by
        intro k79
        induction k79 with
        | zero => intro x75 x76 h78; rewrite [f_kauditref26_Number_l1] at h78; cases h78
        | succ k79 ih80 =>
          intro x75 x76 h78
          rewrite [f_kauditref26_Number_l1] at h78
          refine ti hk74 ?_
          refine t_seq fun K81 hK82 => ?_
          refine t_seq fun K83 hK84 => ?_
          refine t_region ?_
          refine c_p (r_mv rfl) rfl ?_
          refine c_p (r_i rfl rfl rfl) rfl ?_
          refine t_nil ?_
          refine t_then hK84 ?_
          rcases Bool.eq_false_or_eq_true (decide (x76 < 8)) with hb85 | hb85
          · replace h78 := itT hb85 h78
            refine t_T rfl hb85 ?_
            refine t_skip ?_
            refine t_then hK82 ?_
            refine t_seq fun K86 hK87 => ?_
            refine t_block ?_
            refine t_seq fun K88 hK89 => ?_
            refine t_seq fun K90 hK91 => ?_
            refine t_region ?_
            refine c_p (r_mv rfl) rfl ?_
            refine c_p (r_mv rfl) rfl ?_
            obtain ⟨ch92, hch92, h78⟩ := bs h78
            refine c_p (r_at Tryd.underlying9 rfl rfl hch92) rfl ?_
            refine c_p (r_i rfl rfl rfl) rfl ?_
            refine c_p (r_mv rfl) rfl ?_
            rcases Bool.eq_false_or_eq_true (decide (ch92 < 48)) with hb93 | hb93
            · replace h78 := itT hb93 h78
              refine nx (pass rfl rfl hb93 rfl ?_)
              refine nx (pass rfl rfl hb93 rfl ?_)
              refine nx (pass rfl rfl hb93 rfl ?_)
              refine nx (pass rfl rfl hb93 rfl ?_)
              refine c_p (r_pT rfl hb93 rfl) rfl ?_
              refine t_nil ?_
              refine t_then hK91 ?_
              refine t_T rfl rfl ?_
              refine t_seq fun K95 hK96 => ?_
              refine t_region ?_
              refine c_p (r_as rfl) rfl ?_
              refine c_p (r_as rfl) rfl ?_
              refine c_p (r_as rfl) rfl ?_
              refine t_nil ?_
              refine t_then hK96 ?_
              refine t_ret ?_
              exact tr (br (tr (tr (br (tr (ret3 rfl (v_t rfl) (v_t rfl) (v_t rfl) (t_leave (hQ _ (Option.some.inj h78)) () rfl (fun w Z hA => V0) .nil)))))))
            · replace h78 := itF hb93 h78
              refine nx (gd rfl rfl hb93 (sp (r_mv rfl) rfl ?_))
              refine nx (gd rfl rfl hb93 (sp (r_mv rfl) rfl ?_))
              obtain ⟨ch94, hch94, h78⟩ := bs h78
              refine nx (gd rfl rfl hb93 (sp (r_at Tryd.underlying9 rfl rfl hch94) rfl ?_))
              refine nx (gd rfl rfl hb93 (sp (r_i rfl rfl rfl) rfl ?_))
              refine c_p (r_pF rfl hb93 rfl) rfl ?_
              refine t_nil ?_
              refine t_then hK91 ?_
              rcases Bool.eq_false_or_eq_true (decide (ch94 > 57)) with hb97 | hb97
              · replace h78 := itT hb97 h78
                refine t_T rfl hb97 ?_
                refine t_seq fun K98 hK99 => ?_
                refine t_region ?_
                refine c_p (r_as rfl) rfl ?_
                refine c_p (r_as rfl) rfl ?_
                refine c_p (r_as rfl) rfl ?_
                refine t_nil ?_
                refine t_then hK99 ?_
                refine t_ret ?_
                exact tr (br (tr (tr (br (tr (ret3 rfl (v_t rfl) (v_t rfl) (v_t rfl) (t_leave (hQ _ (Option.some.inj h78)) () rfl (fun w Z hA => V0) .nil)))))))
              · replace h78 := itF hb97 h78
                refine t_F rfl hb97 ?_
                refine t_skip ?_
                refine t_then hK89 ?_
                refine t_region ?_
                refine c_p (r_mv rfl) rfl ?_
                refine c_p (r_i rfl rfl rfl) rfl ?_
                refine c_p (r_mv rfl) rfl ?_
                refine c_p (r_mv rfl) rfl ?_
                obtain ⟨ch100, hch100, h78⟩ := bs h78
                refine c_p (r_at Tryd.underlying9 rfl rfl hch100) rfl ?_
                refine c_p (r_i rfl rfl rfl) rfl ?_
                refine c_p (r_ci Tryd.underlying5 Tryd.underlying3 rfl) rfl ?_
                refine c_p (r_i rfl rfl rfl) rfl ?_
                refine c_p (r_as rfl) rfl ?_
                refine t_nil ?_
                refine t_blockN ?_
                refine t_then hK87 ?_
                refine t_region ?_
                refine c_p (r_mv rfl) rfl ?_
                refine c_p (r_i rfl rfl rfl) rfl ?_
                refine c_p (r_as rfl) rfl ?_
                refine t_nil ?_
                exact t_norm (t_go (ih80 (IntKind.wrap .i64 ((IntKind.wrap .i64 (10 * x75)) + (IntKind.wrap .i64 (IntKind.wrap .u8 (ch100 - 48))))) (IntKind.wrap .i64 (x76 + 1)) h78) ⟨rfl, rfl, rfl, rfl, trivial⟩ .nil (fun w Z hA => V1 a0 hA (V1 a1 hA (V0))))
          · replace h78 := itF hb85 h78
            refine t_F rfl hb85 ?_
            refine t_exit ?_
            refine te (te (bx ?_))
            exact t_norm (t_go (J102 x75 h78) ⟨rfl, rfl, rfl, trivial⟩ .nil (fun w Z hA => V1 a0 hA (V1 a1 hA (V0))))
      exact t_go (LP77 (((8 : Int) - (4)).toNat + 1) 0 4 h16) ⟨rfl, rfl, rfl, rfl, trivial⟩ .nil (fun w Z hA => V1 a0 hA (V1 a1 hA (V0)))
  refine t_seq fun K7 hK8 => ?_
  refine t_region ?_
  refine c_p (r_mv rfl) rfl ?_
  refine c_p (r_lenS Tryd.underlying9 rfl) rfl ?_
  refine c_p (r_i rfl rfl rfl) rfl ?_
  refine c_p (r_mv rfl) rfl ?_
  rcases Bool.eq_false_or_eq_true ((z0.size : Int) == 10) with hb9 | hb9
  · replace h := itT hb9 h
    refine nx (gd rfl rfl hb9 (sp (r_mv rfl) rfl ?_))
    obtain ⟨s10, hs10, h⟩ := bs h
    refine nx (gd rfl rfl hb9 (sp (r_subF Tryd.underlying9 rfl rfl hs10) rfl ?_))
    refine nx (gd rfl rfl hb9 (sp (r_s rfl rfl rfl) rfl ?_))
    refine c_p (r_pT rfl hb9 rfl) rfl ?_
    refine t_nil ?_
    refine t_then hK8 ?_
    rcases Bool.eq_false_or_eq_true (s10.toList == (⟨#[46, 122]⟩ : ByteArray).toList) with hb11 | hb11
    · replace h := itT hb11 h
      refine t_T rfl hb11 ?_
      refine t_region ?_
      refine c_p (r_mv rfl) rfl ?_
      obtain ⟨s12, hs12, h⟩ := bs h
      refine c_p (r_subT Tryd.underlying9 rfl rfl hs12) rfl ?_
      refine c_p (r_as rfl) rfl ?_
      refine c_p (r_as rfl) rfl ?_
      refine t_nil ?_
      exact t_norm (t_go (J15 s12 true h) ⟨rfl, rfl, trivial⟩ .nil (fun w Z hA => V1 a0 hA (V1 a1 hA (V0))))
    · replace h := itF hb11 h
      refine t_F rfl hb11 ?_
      refine t_skip ?_
      exact t_norm (t_go (J15 z0 false h) ⟨rfl, rfl, trivial⟩ .nil (fun w Z hA => V1 a0 hA (V1 a1 hA (V0))))
  · replace h := itF hb9 h
    refine nx (pass rfl rfl hb9 rfl ?_)
    refine nx (pass rfl rfl hb9 rfl ?_)
    refine nx (pass rfl rfl hb9 rfl ?_)
    refine c_p (r_pF rfl hb9 rfl) rfl ?_
    refine t_nil ?_
    refine t_then hK8 ?_
    refine t_F rfl rfl ?_
    refine t_skip ?_
    exact t_norm (t_go (J15 z0 false h) ⟨rfl, rfl, trivial⟩ .nil (fun w Z hA => V1 a0 hA (V1 a1 hA (V0))))
end Go.Proofs.YtgcigcbhilcgoaaDoor.Gx
