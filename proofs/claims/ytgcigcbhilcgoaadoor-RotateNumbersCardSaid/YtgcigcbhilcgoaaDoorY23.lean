/- Function 23, kaudit/kauditref26.Name: what it answers as a plain function, and that the Go code comes to exactly that (where the plain function gives an answer). -/
import Derived.Test.YtgcigcbhilcgoaaDoorYT
set_option linter.unusedVariables false
set_option linter.unusedSimpArgs false
namespace Go.Proofs.YtgcigcbhilcgoaaDoor.Gx
open Go.Gx Go.RowKit
/-! ### kaudit/kauditref26.Name: function 23 -/
def f_kauditref26_Name_l1 (z0 : Int) : Nat → ByteArray → Int → Option (ByteArray)
  | 0, _, _ => none
  | k63 + 1, x59, x60 => if (decide (x60 < 4)) = true then ((at_ [1000, 100, 10, 1] x60).bind fun el77 => ck (el77 ≠ 0) <| ck (x59.size + (Utf8.encode (IntKind.wrap .i32 (IntKind.wrap .i64 (48 + (((IntKind.wrap .i64 ((z0 : Int).tdiv el77)) : Int).tmod 10))))).size ≤ maxStr) <| f_kauditref26_Name_l1 z0 k63 (x59 ++ (Utf8.encode (IntKind.wrap .i32 (IntKind.wrap .i64 (48 + (((IntKind.wrap .i64 ((z0 : Int).tdiv el77)) : Int).tmod 10)))))) (IntKind.wrap .i64 (x60 + 1))) else (some x59)
def f_kauditref26_Name (z0 : Int) : Option (ByteArray) := if (decide (z0 < 1)) = true then (some (⟨#[]⟩ : ByteArray)) else (if (decide (z0 > 1000)) = true then (some (⟨#[]⟩ : ByteArray)) else (f_kauditref26_Name_l1 z0 (((4 : Int) - (0)).toNat + 1) (⟨#[108, 111, 103, 45]⟩ : ByteArray) 0))
set_option maxHeartbeats 4000000 in
set_option maxRecDepth 100000 in
theorem C23 (z0 : Int) (r : ByteArray) (h : f_kauditref26_Name z0 = some r) : FunG Tryd.prog 23 #[.int .i64 z0] [g_pow10, g_errs] [] (fun (_ : Unit) => .string r) (fun _ => []) (fun _ => []) := by
  unfold f_kauditref26_Name at h
  refine t_begin (args := [.int .i64 z0]) Tryd.func23 rfl Tryd.ntmps23 rfl fun c R hR => ?_
  have hQ : ∀ X, X = r → ∀ w2 (_ : Unit), PostG c.w0 w2 c.M c.Y [] [] → R (.returned (.string X)) w2 := fun X e => by subst e; exact hR
  refine t_seq fun K1 hK2 => ?_
  refine t_region ?_
  refine c_p (r_as rfl) rfl ?_
  refine t_nil ?_
  refine t_then hK2 ?_
  refine t_seq fun K3 hK4 => ?_
  refine t_seq fun K5 hK6 => ?_
  refine t_region ?_
  refine c_p (r_mv rfl) rfl ?_
  refine c_p (r_i rfl rfl rfl) rfl ?_
  refine c_p (r_mv rfl) rfl ?_
  rcases Bool.eq_false_or_eq_true (decide (z0 < 1)) with hb7 | hb7
  · replace h := itT hb7 h
    refine nx (pass rfl rfl hb7 rfl ?_)
    refine nx (pass rfl rfl hb7 rfl ?_)
    refine c_p (r_pT rfl hb7 rfl) rfl ?_
    refine t_nil ?_
    refine t_then hK6 ?_
    refine t_T rfl rfl ?_
    refine t_seq fun K8 hK9 => ?_
    refine t_region ?_
    refine c_p (r_as rfl) rfl ?_
    refine t_nil ?_
    refine t_then hK9 ?_
    refine t_ret ?_
    exact tr (ret1 rfl (v_t rfl) (t_leave (hQ _ (Option.some.inj h)) () rfl (fun w Z hA => V0) .nil))
  · replace h := itF hb7 h
    refine nx (gd rfl rfl hb7 (sp (r_mv rfl) rfl ?_))
    refine nx (gd rfl rfl hb7 (sp (r_i rfl rfl rfl) rfl ?_))
    refine c_p (r_pF rfl hb7 rfl) rfl ?_
    refine t_nil ?_
    refine t_then hK6 ?_
    rcases Bool.eq_false_or_eq_true (decide (z0 > 1000)) with hb10 | hb10
    · replace h := itT hb10 h
      refine t_T rfl hb10 ?_
      refine t_seq fun K11 hK12 => ?_
      refine t_region ?_
      refine c_p (r_as rfl) rfl ?_
      refine t_nil ?_
      refine t_then hK12 ?_
      refine t_ret ?_
      exact tr (ret1 rfl (v_t rfl) (t_leave (hQ _ (Option.some.inj h)) () rfl (fun w Z hA => V0) .nil))
    · replace h := itF hb10 h
      refine t_F rfl hb10 ?_
      refine t_skip ?_
      refine t_then hK4 ?_
      refine t_seq fun K13 hK14 => ?_
      refine t_region ?_
      refine c_p (r_as rfl) rfl ?_
      refine t_nil ?_
      refine t_then hK14 ?_
      refine t_seq fun K15 hK16 => ?_
      refine t_seq fun K17 hK18 => ?_
      refine t_region ?_
      refine nx (t_bs (ps := [(0, .int .i64 1000), (1, .int .i64 100), (2, .int .i64 10), (3, .int .i64 1)]) (cs := [.int .i64 1000, .int .i64 100, .int .i64 10, .int .i64 1]) Tryd.underlying36 ti3 rfl rfl (by kernel_rfl) rfl fun g19 => ?_)
      refine c_p (r_ln0 Tryd.underlying36 rfl) rfl ?_
      refine c_p (r_mv rfl) rfl ?_
      refine t_nil ?_
      refine t_then hK18 ?_
      refine t_block ?_
      refine t_tr (Kd := (kInt .i64)) (xs := [1000, 100, 10, 1]) (.cons e0 .nil) rfl (fun w Z S hA hN => flat_EO (S := Nil) (flatK_int .i64) (er1 (c1 := [.int .i64 1000]) rfl (er1 (c1 := [.int .i64 100]) rfl (er1 (c1 := [.int .i64 10]) rfl (er1 (c1 := [.int .i64 1]) rfl er0))))) ?_
      refine t_lp fun k57 hk58 => ?_
      have LP61 : ∀ (k63 : Nat) (x59 : ByteArray) (x60 : Int), f_kauditref26_Name_l1 z0 k63 x59 x60 = some r → T 29 c [g_pow10, g_errs] [[row 3 (kInt .i64) [1000, 100, 10, 1] (.slice (some ⟨g19, 0, none⟩) 4 4)]] [(0, .int .i64 z0), (3, .string x59), (12, .slice (some ⟨g19, 0, none⟩) 4 4), (13, .int .i64 4), (14, .int .i64 x60)] k57 := by
        intro k63
        induction k63 with
        | zero => intro x59 x60 h62; rewrite [f_kauditref26_Name_l1] at h62; cases h62
        | succ k63 ih64 =>
          intro x59 x60 h62
          rewrite [f_kauditref26_Name_l1] at h62
          refine ti hk58 ?_
          refine t_seq fun K65 hK66 => ?_
          refine t_region ?_
          refine c_p (r_i rfl rfl rfl) rfl ?_
          refine t_nil ?_
          refine t_then hK66 ?_
          refine t_seq fun K67 hK68 => ?_
          rcases Bool.eq_false_or_eq_true (decide (x60 < 4)) with hb69 | hb69
          · replace h62 := itT hb69 h62
            refine t_T rfl hb69 ?_
            refine t_skip ?_
            refine t_then hK68 ?_
            refine t_seq fun K70 hK71 => ?_
            refine t_block ?_
            refine t_seq fun K72 hK73 => ?_
            refine t_region ?_
            obtain ⟨el77, hel77, h62⟩ := bs h62
            refine t_qL a0 hel77 fun q74 hq75 hm76 => ?_
            refine c_p (r_idx hq75 hm76 hel77 Tryd.underlying36 ti3 rfl rfl) rfl ?_
            refine t_oI (opensO_int .i64) e0 hel77 fun t78 => ?_
            refine c_s (r_h1 a0 hq75 Tryd.underlying3 rfl rfl rfl) rfl ?_
            refine c_p (r_as rfl) rfl ?_
            refine t_nil ?_
            refine t_then hK73 ?_
            refine t_region ?_
            refine c_p (r_mv rfl) rfl ?_
            refine c_p (r_mv rfl) rfl ?_
            refine c_p (r_mv rfl) rfl ?_
            obtain ⟨hc79, h62⟩ := ck_out h62
            refine c_p (r_quo rfl rfl hc79) rfl ?_
            refine c_p (r_rem rfl rfl (by decide)) rfl ?_
            refine c_p (r_i rfl rfl rfl) rfl ?_
            refine c_p (r_ci Tryd.underlying3 Tryd.underlying21 rfl) rfl ?_
            refine c_p (r_crs Tryd.underlying21 Tryd.underlying9 rfl) rfl ?_
            obtain ⟨hc80, h62⟩ := ck_out h62
            refine c_p (r_cat rfl rfl hc80) rfl ?_
            refine c_p (r_as rfl) rfl ?_
            refine t_nil ?_
            refine t_blockN ?_
            refine t_then hK71 ?_
            refine t_region ?_
            refine c_p (r_i rfl rfl rfl) rfl ?_
            refine c_p (r_mv rfl) rfl ?_
            refine t_nil ?_
            refine t_cS (u := el77) (t := ()) (shutsO_int .i64) hel77 (.cons e0 .nil) rfl (fun w Z hA => trivial) ?_
            exact t_norm (t_go (ih64 (x59 ++ (Utf8.encode (IntKind.wrap .i32 (IntKind.wrap .i64 (48 + (((IntKind.wrap .i64 ((z0 : Int).tdiv el77)) : Int).tmod 10)))))) (IntKind.wrap .i64 (x60 + 1)) h62) ⟨rfl, rfl, rfl, rfl, rfl, trivial⟩ (.cons e0 .nil) (fun w Z hA => V1 a0 hA (V1 a1 hA (V0))))
          · replace h62 := itF hb69 h62
            refine t_F rfl hb69 ?_
            refine t_exit ?_
            refine te (te (bx ?_))
            refine t_then hK16 ?_
            refine t_seq fun K81 hK82 => ?_
            refine t_region ?_
            refine c_p (r_mv rfl) rfl ?_
            refine c_p (r_as rfl) rfl ?_
            refine t_nil ?_
            refine t_then hK82 ?_
            refine t_ret ?_
            exact ret1 rfl (v_t rfl) (t_leave (hQ _ (Option.some.inj h62)) () rfl (fun w Z hA => V0) .nil)
      exact t_go (LP61 (((4 : Int) - (0)).toNat + 1) (⟨#[108, 111, 103, 45]⟩ : ByteArray) 0 h) ⟨rfl, rfl, rfl, rfl, rfl, trivial⟩ (.cons e0 .nil) (fun w Z hA => V1 a0 hA (V1 a1 hA (V0)))
end Go.Proofs.YtgcigcbhilcgoaaDoor.Gx
