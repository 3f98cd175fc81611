/- Function 5, kaudit/kauditlaw26.RotateNames: what it answers as a plain function, and that the Go code comes to exactly that (where the plain function gives an answer). -/
import Derived.Test.YtgcigcbhilcgoaaDoorYT
import Derived.Test.YtgcigcbhilcgoaaDoorY15
import Derived.Test.YtgcigcbhilcgoaaDoorY19
import Derived.Test.YtgcigcbhilcgoaaDoorY20
import Derived.Test.YtgcigcbhilcgoaaDoorY21
import Derived.Test.YtgcigcbhilcgoaaDoorY22
import Derived.Test.YtgcigcbhilcgoaaDoorY23
import Derived.Test.YtgcigcbhilcgoaaDoorY24
set_option linter.unusedVariables false
set_option linter.unusedSimpArgs false
namespace Go.Proofs.YtgcigcbhilcgoaaDoor.Gx
open Go.Gx Go.RowKit
/-! ### kaudit/kauditlaw26.RotateNames: function 5 -/
def f_kauditlaw26_RotateNames_j1 (z0 : Int) (z1 : Int) : Option (Bool) := (f_rotate_Name z0).bind fun y129 => (f_kauditref26_Name z0).bind fun y131 => if (y129.toList == y131.toList) = true then ((f_rotate_Packed z0).bind fun y134 => (f_kauditref26_Packed z0).bind fun y136 => if (y134.toList == y136.toList) = true then ((f_rotate_Name (((IntKind.wrap .i64 z1) : Int).tmod 1003)).bind fun y139 => (f_kauditref26_Name (((IntKind.wrap .i64 z1) : Int).tmod 1003)).bind fun y141 => if (y139.toList == y141.toList) = true then ((f_rotate_Packed (((IntKind.wrap .i64 z1) : Int).tmod 1003)).bind fun y144 => (f_kauditref26_Packed (((IntKind.wrap .i64 z1) : Int).tmod 1003)).bind fun y146 => if (y144.toList == y146.toList) = true then ((f_kauditlaw26_begun).bind fun y149 => some y149) else (some false)) else (some false)) else (some false)) else (some false)
def f_kauditlaw26_RotateNames_l1 (z0 : Int) (z1 : Int) (z2 : ByteArray) (z3 : ByteArray) (y9 : ByteArray) (y11 : ByteArray) (y13 : ByteArray) : Nat → Int → Option (Bool)
  | 0, _ => none
  | k90 + 1, x87 => if (decide (x87 < 5)) = true then ((at_ [z2, y9, y11, (y13 ++ z3), ((⟨#[108, 111, 103, 45]⟩ : ByteArray) ++ z3)] x87).bind fun el104 => (f_rotate_Number el104).bind fun y108 => (f_kauditref26_Number el104).bind fun y112 => if (y108.1 != y112.1) = true then (some false) else (if (y108.2.1 != y112.2.1) = true then (some false) else (if (y108.2.2 != y112.2.2) = true then (some false) else (f_kauditlaw26_RotateNames_l1 z0 z1 z2 z3 y9 y11 y13 k90 (IntKind.wrap .i64 (x87 + 1)))))) else (f_kauditlaw26_RotateNames_j1 z0 z1)
def f_kauditlaw26_RotateNames (z0 : Int) (z1 : Int) (z2 : ByteArray) (z3 : ByteArray) : Option (Bool) := (f_rotate_Name (((IntKind.wrap .i64 z1) : Int).tmod 1003)).bind fun y9 => (f_rotate_Packed (((IntKind.wrap .i64 z1) : Int).tmod 1003)).bind fun y11 => (f_rotate_Name (((IntKind.wrap .i64 z1) : Int).tmod 1003)).bind fun y13 => ck (y13.size + z3.size ≤ maxStr) <| ck ((⟨#[108, 111, 103, 45]⟩ : ByteArray).size + z3.size ≤ maxStr) <| f_kauditlaw26_RotateNames_l1 z0 z1 z2 z3 y9 y11 y13 (((5 : Int) - (0)).toNat + 1) 0
set_option maxHeartbeats 4000000 in
set_option maxRecDepth 100000 in
theorem C5 (z0 : Int) (z1 : Int) (z2 : ByteArray) (z3 : ByteArray) (r : Bool) (h : f_kauditlaw26_RotateNames z0 z1 z2 z3 = some r) : FunG Tryd.prog 5 #[.int .i64 z0, .int .u16 z1, .string z2, .string z3] [g_pow10, g_errs] [] (fun (_ : Unit) => .bool r) (fun _ => []) (fun _ => []) := by
  unfold f_kauditlaw26_RotateNames at h
  refine t_begin (args := [.int .i64 z0, .int .u16 z1, .string z2, .string z3]) Tryd.func5 rfl Tryd.ntmps5 rfl fun c R hR => ?_
  have hQ : ∀ X, X = r → ∀ w2 (_ : Unit), PostG c.w0 w2 c.M c.Y [] [] → R (.returned (.bool X)) w2 := fun X e => by subst e; exact hR
  refine t_seq fun K1 hK2 => ?_
  refine t_region ?_
  refine c_p (r_as rfl) rfl ?_
  refine t_nil ?_
  refine t_then hK2 ?_
  refine t_seq fun K3 hK4 => ?_
  refine t_region ?_
  refine c_p (r_mv rfl) rfl ?_
  refine c_p (r_ci Tryd.underlying41 Tryd.underlying3 rfl) rfl ?_
  refine c_p (r_rem rfl rfl (by decide)) rfl ?_
  refine c_p (r_as rfl) rfl ?_
  refine t_nil ?_
  refine t_then hK4 ?_
  refine t_seq fun K5 hK6 => ?_
  have J125 : f_kauditlaw26_RotateNames_j1 z0 z1 = some r → T 93 c [g_pow10, g_errs] [] [(0, .int .i64 z0), (9, .int .i64 (((IntKind.wrap .i64 z1) : Int).tmod 1003))] K5 := by
    intro h126
    unfold f_kauditlaw26_RotateNames_j1 at h126
    refine ti hK6 ?_
    refine t_seq fun K127 hK128 => ?_
    refine t_region ?_
    refine c_p (r_mv rfl) rfl ?_
    obtain ⟨y129, hy129, h126⟩ := bs h126
    refine nx (t_ca (C19 _ _ hy129) Tryd.func19 nm19 rfl rfl rfl .nil (fun w Z hA => (V1 a0 hA (V1 a1 hA V0))) rfl fun t130 => ?_)
    refine c_p (r_mv rfl) rfl ?_
    obtain ⟨y131, hy131, h126⟩ := bs h126
    refine nx (t_ca (C23 _ _ hy131) Tryd.func23 nm23 rfl rfl rfl .nil (fun w Z hA => (V1 a0 hA (V1 a1 hA V0))) rfl fun t132 => ?_)
    refine c_p (r_s rfl rfl rfl) rfl ?_
    refine c_p (r_mv rfl) rfl ?_
    rcases Bool.eq_false_or_eq_true (y129.toList == y131.toList) with hb133 | hb133
    · replace h126 := itT hb133 h126
      refine nx (gd rfl rfl hb133 (sp (r_mv rfl) rfl ?_))
      obtain ⟨y134, hy134, h126⟩ := bs h126
      refine nx (gd rfl rfl hb133 (t_ca (C20 _ _ hy134) Tryd.func20 nm20 rfl rfl rfl .nil (fun w Z hA => (V1 a0 hA (V1 a1 hA V0))) rfl fun t135 => ?_))
      refine nx (gd rfl rfl hb133 (sp (r_mv rfl) rfl ?_))
      obtain ⟨y136, hy136, h126⟩ := bs h126
      refine nx (gd rfl rfl hb133 (t_ca (C24 _ _ hy136) Tryd.func24 nm24 rfl rfl rfl .nil (fun w Z hA => (V1 a0 hA (V1 a1 hA V0))) rfl fun t137 => ?_))
      refine nx (gd rfl rfl hb133 (sp (r_s rfl rfl rfl) rfl ?_))
      refine c_p (r_pT rfl hb133 rfl) rfl ?_
      refine c_p (r_mv rfl) rfl ?_
      rcases Bool.eq_false_or_eq_true (y134.toList == y136.toList) with hb138 | hb138
      · replace h126 := itT hb138 h126
        refine nx (gd rfl rfl hb138 (sp (r_mv rfl) rfl ?_))
        obtain ⟨y139, hy139, h126⟩ := bs h126
        refine nx (gd rfl rfl hb138 (t_ca (C19 _ _ hy139) Tryd.func19 nm19 rfl rfl rfl .nil (fun w Z hA => (V1 a0 hA (V1 a1 hA V0))) rfl fun t140 => ?_))
        refine nx (gd rfl rfl hb138 (sp (r_mv rfl) rfl ?_))
        obtain ⟨y141, hy141, h126⟩ := bs h126
        refine nx (gd rfl rfl hb138 (t_ca (C23 _ _ hy141) Tryd.func23 nm23 rfl rfl rfl .nil (fun w Z hA => (V1 a0 hA (V1 a1 hA V0))) rfl fun t142 => ?_))
        refine nx (gd rfl rfl hb138 (sp (r_s rfl rfl rfl) rfl ?_))
        refine c_p (r_pT rfl hb138 rfl) rfl ?_
        refine c_p (r_mv rfl) rfl ?_
        rcases Bool.eq_false_or_eq_true (y139.toList == y141.toList) with hb143 | hb143
        · replace h126 := itT hb143 h126
          refine nx (gd rfl rfl hb143 (sp (r_mv rfl) rfl ?_))
          obtain ⟨y144, hy144, h126⟩ := bs h126
          refine nx (gd rfl rfl hb143 (t_ca (C20 _ _ hy144) Tryd.func20 nm20 rfl rfl rfl .nil (fun w Z hA => (V1 a0 hA (V1 a1 hA V0))) rfl fun t145 => ?_))
          refine nx (gd rfl rfl hb143 (sp (r_mv rfl) rfl ?_))
          obtain ⟨y146, hy146, h126⟩ := bs h126
          refine nx (gd rfl rfl hb143 (t_ca (C24 _ _ hy146) Tryd.func24 nm24 rfl rfl rfl .nil (fun w Z hA => (V1 a0 hA (V1 a1 hA V0))) rfl fun t147 => ?_))
          refine nx (gd rfl rfl hb143 (sp (r_s rfl rfl rfl) rfl ?_))
          refine c_p (r_pT rfl hb143 rfl) rfl ?_
          refine c_p (r_mv rfl) rfl ?_
          rcases Bool.eq_false_or_eq_true (y144.toList == y146.toList) with hb148 | hb148
          · replace h126 := itT hb148 h126
            obtain ⟨y149, hy149, h126⟩ := bs h126
            refine nx (gd rfl rfl hb148 (t_ca (C15 _ hy149) Tryd.func15 nm15 rfl rfl rfl .nil (fun w Z hA => (V1 a0 hA (V1 a1 hA V0))) rfl fun t150 => ?_))
            refine c_p (r_pT rfl hb148 rfl) rfl ?_
            refine c_p (r_as rfl) rfl ?_
            refine t_nil ?_
            refine t_then hK128 ?_
            refine t_ret ?_
            exact ret1 rfl (v_t rfl) (t_leave (hQ _ (Option.some.inj h126)) () rfl (fun w Z hA => V0) .nil)
          · replace h126 := itF hb148 h126
            refine nx (pass rfl rfl hb148 rfl ?_)
            refine c_p (r_pF rfl hb148 rfl) rfl ?_
            refine c_p (r_as rfl) rfl ?_
            refine t_nil ?_
            refine t_then hK128 ?_
            refine t_ret ?_
            exact ret1 rfl (v_t rfl) (t_leave (hQ _ (Option.some.inj h126)) () rfl (fun w Z hA => V0) .nil)
        · replace h126 := itF hb143 h126
          refine nx (pass rfl rfl hb143 rfl ?_)
          refine nx (pass rfl rfl hb143 rfl ?_)
          refine nx (pass rfl rfl hb143 rfl ?_)
          refine nx (pass rfl rfl hb143 rfl ?_)
          refine nx (pass rfl rfl hb143 rfl ?_)
          refine c_p (r_pF rfl hb143 rfl) rfl ?_
          refine c_p (r_mv rfl) rfl ?_
          refine nx (pass rfl rfl rfl rfl ?_)
          refine c_p (r_pF rfl rfl rfl) rfl ?_
          refine c_p (r_as rfl) rfl ?_
          refine t_nil ?_
          refine t_then hK128 ?_
          refine t_ret ?_
          exact ret1 rfl (v_t rfl) (t_leave (hQ _ (Option.some.inj h126)) () rfl (fun w Z hA => V0) .nil)
      · replace h126 := itF hb138 h126
        refine nx (pass rfl rfl hb138 rfl ?_)
        refine nx (pass rfl rfl hb138 rfl ?_)
        refine nx (pass rfl rfl hb138 rfl ?_)
        refine nx (pass rfl rfl hb138 rfl ?_)
        refine nx (pass rfl rfl hb138 rfl ?_)
        refine c_p (r_pF rfl hb138 rfl) rfl ?_
        refine c_p (r_mv rfl) rfl ?_
        refine nx (pass rfl rfl rfl rfl ?_)
        refine nx (pass rfl rfl rfl rfl ?_)
        refine nx (pass rfl rfl rfl rfl ?_)
        refine nx (pass rfl rfl rfl rfl ?_)
        refine nx (pass rfl rfl rfl rfl ?_)
        refine c_p (r_pF rfl rfl rfl) rfl ?_
        refine c_p (r_mv rfl) rfl ?_
        refine nx (pass rfl rfl rfl rfl ?_)
        refine c_p (r_pF rfl rfl rfl) rfl ?_
        refine c_p (r_as rfl) rfl ?_
        refine t_nil ?_
        refine t_then hK128 ?_
        refine t_ret ?_
        exact ret1 rfl (v_t rfl) (t_leave (hQ _ (Option.some.inj h126)) () rfl (fun w Z hA => V0) .nil)
    · replace h126 := itF hb133 h126
      refine nx (pass rfl rfl hb133 rfl ?_)
      refine nx (pass rfl rfl hb133 rfl ?_)
      refine nx (pass rfl rfl hb133 rfl ?_)
      refine nx (pass rfl rfl hb133 rfl ?_)
      refine nx (pass rfl rfl hb133 rfl ?_)
      refine c_p (r_pF rfl hb133 rfl) rfl ?_
      refine c_p (r_mv rfl) rfl ?_
      refine nx (pass rfl rfl rfl rfl ?_)
      refine nx (pass rfl rfl rfl rfl ?_)
      refine nx (pass rfl rfl rfl rfl ?_)
      refine nx (pass rfl rfl rfl rfl ?_)
      refine nx (pass rfl rfl rfl rfl ?_)
      refine c_p (r_pF rfl rfl rfl) rfl ?_
      refine c_p (r_mv rfl) rfl ?_
      refine nx (pass rfl rfl rfl rfl ?_)
      refine nx (pass rfl rfl rfl rfl ?_)
      refine nx (pass rfl rfl rfl rfl ?_)
      refine nx (pass rfl rfl rfl rfl ?_)
      refine nx (pass rfl rfl rfl rfl ?_)
      refine c_p (r_pF rfl rfl rfl) rfl ?_
      refine c_p (r_mv rfl) rfl ?_
      refine nx (pass rfl rfl rfl rfl ?_)
      refine c_p (r_pF rfl rfl rfl) rfl ?_
      refine c_p (r_as rfl) rfl ?_
      refine t_nil ?_
      refine t_then hK128 ?_
      refine t_ret ?_
      exact ret1 rfl (v_t rfl) (t_leave (hQ _ (Option.some.inj h126)) () rfl (fun w Z hA => V0) .nil)
  refine t_seq fun K7 hK8 => ?_
  refine t_region ?_
  refine c_p (r_mv rfl) rfl ?_
  refine c_p (r_mv rfl) rfl ?_
  obtain ⟨y9, hy9, h⟩ := bs h
  refine nx (t_ca (C19 _ _ hy9) Tryd.func19 nm19 rfl rfl rfl .nil (fun w Z hA => (V1 a0 hA (V1 a1 hA V0))) rfl fun t10 => ?_)
  refine c_p (r_mv rfl) rfl ?_
  obtain ⟨y11, hy11, h⟩ := bs h
  refine nx (t_ca (C20 _ _ hy11) Tryd.func20 nm20 rfl rfl rfl .nil (fun w Z hA => (V1 a0 hA (V1 a1 hA V0))) rfl fun t12 => ?_)
  refine c_p (r_mv rfl) rfl ?_
  obtain ⟨y13, hy13, h⟩ := bs h
  refine nx (t_ca (C19 _ _ hy13) Tryd.func19 nm19 rfl rfl rfl .nil (fun w Z hA => (V1 a0 hA (V1 a1 hA V0))) rfl fun t14 => ?_)
  refine c_p (r_mv rfl) rfl ?_
  obtain ⟨hc15, h⟩ := ck_out h
  refine c_p (r_cat rfl rfl hc15) rfl ?_
  refine c_p (r_mv rfl) rfl ?_
  obtain ⟨hc16, h⟩ := ck_out h
  refine c_p (r_cat rfl rfl hc16) rfl ?_
  refine nx (t_bs (ps := [(0, .string z2), (1, .string y9), (2, .string y11), (3, .string (y13 ++ z3)), (4, .string ((⟨#[108, 111, 103, 45]⟩ : ByteArray) ++ z3))]) (cs := [.string z2, .string y9, .string y11, .string (y13 ++ z3), .string ((⟨#[108, 111, 103, 45]⟩ : ByteArray) ++ z3)]) Tryd.underlying43 ti9 rfl rfl (by kernel_rfl) rfl fun g17 => ?_)
  refine c_p (r_ln0 Tryd.underlying43 rfl) rfl ?_
  refine c_p (r_mv rfl) rfl ?_
  refine t_nil ?_
  refine t_then hK8 ?_
  refine t_block ?_
  refine t_tr (Kd := kStr) (xs := [z2, y9, y11, (y13 ++ z3), ((⟨#[108, 111, 103, 45]⟩ : ByteArray) ++ z3)]) (.cons e0 .nil) rfl (fun w Z S hA hN => flat_EO (S := Nil) flatK_str (er1 (c1 := [.string z2]) rfl (er1 (c1 := [.string y9]) rfl (er1 (c1 := [.string y11]) rfl (er1 (c1 := [.string (y13 ++ z3)]) rfl (er1 (c1 := [.string ((⟨#[108, 111, 103, 45]⟩ : ByteArray) ++ z3)]) rfl er0)))))) ?_
  refine t_lp fun k85 hk86 => ?_
  have LP88 : ∀ (k90 : Nat) (x87 : Int), f_kauditlaw26_RotateNames_l1 z0 z1 z2 z3 y9 y11 y13 k90 x87 = some r → T 93 c [g_pow10, g_errs] [[row 9 kStr [z2, y9, y11, (y13 ++ z3), ((⟨#[108, 111, 103, 45]⟩ : ByteArray) ++ z3)] (.slice (some ⟨g17, 0, none⟩) 5 5)]] [(0, .int .i64 z0), (9, .int .i64 (((IntKind.wrap .i64 z1) : Int).tmod 1003)), (32, .slice (some ⟨g17, 0, none⟩) 5 5), (33, .int .i64 5), (34, .int .i64 x87)] k85 := by
    intro k90
    induction k90 with
    | zero => intro x87 h89; rewrite [f_kauditlaw26_RotateNames_l1] at h89; cases h89
    | succ k90 ih91 =>
      intro x87 h89
      rewrite [f_kauditlaw26_RotateNames_l1] at h89
      refine ti hk86 ?_
      refine t_seq fun K92 hK93 => ?_
      refine t_region ?_
      refine c_p (r_i rfl rfl rfl) rfl ?_
      refine t_nil ?_
      refine t_then hK93 ?_
      refine t_seq fun K94 hK95 => ?_
      rcases Bool.eq_false_or_eq_true (decide (x87 < 5)) with hb96 | hb96
      · replace h89 := itT hb96 h89
        refine t_T rfl hb96 ?_
        refine t_skip ?_
        refine t_then hK95 ?_
        refine t_seq fun K97 hK98 => ?_
        refine t_block ?_
        refine t_seq fun K99 hK100 => ?_
        refine t_region ?_
        obtain ⟨el104, hel104, h89⟩ := bs h89
        refine t_qL a0 hel104 fun q101 hq102 hm103 => ?_
        refine c_p (r_idx hq102 hm103 hel104 Tryd.underlying43 ti9 rfl rfl) rfl ?_
        refine t_oI opensO_str e0 hel104 fun t105 => ?_
        refine c_s (r_h1 a0 hq102 Tryd.underlying9 rfl rfl rfl) rfl ?_
        refine c_p (r_as rfl) rfl ?_
        refine t_nil ?_
        refine t_then hK100 ?_
        refine t_seq fun K106 hK107 => ?_
        refine t_region ?_
        refine c_p (r_mv rfl) rfl ?_
        obtain ⟨y108, hy108, h89⟩ := bs h89
        refine nx (t_ca (C21 _ _ hy108) Tryd.func21 nm21 rfl rfl rfl .nil (fun w Z hA => (V1 a0 hA (V1 a1 hA V0))) rfl fun t109 => ?_)
        refine c_p (r_mv rfl) rfl ?_
        refine c_p (r_ex rfl rfl) rfl ?_
        refine c_p (r_ex rfl rfl) rfl ?_
        refine c_p (r_ex rfl rfl) rfl ?_
        refine c_p (r_as rfl) rfl ?_
        refine c_p (r_as rfl) rfl ?_
        refine c_p (r_as rfl) rfl ?_
        refine t_nil ?_
        refine t_then hK107 ?_
        refine t_seq fun K110 hK111 => ?_
        refine t_region ?_
        refine c_p (r_mv rfl) rfl ?_
        obtain ⟨y112, hy112, h89⟩ := bs h89
        refine nx (t_ca (C22 _ _ hy112) Tryd.func22 nm22 rfl rfl rfl .nil (fun w Z hA => (V1 a0 hA (V1 a1 hA V0))) rfl fun t113 => ?_)
        refine c_p (r_mv rfl) rfl ?_
        refine c_p (r_ex rfl rfl) rfl ?_
        refine c_p (r_ex rfl rfl) rfl ?_
        refine c_p (r_ex rfl rfl) rfl ?_
        refine c_p (r_as rfl) rfl ?_
        refine c_p (r_as rfl) rfl ?_
        refine c_p (r_as rfl) rfl ?_
        refine t_nil ?_
        refine t_then hK111 ?_
        refine t_seq fun K114 hK115 => ?_
        refine t_region ?_
        refine c_p (r_mv rfl) rfl ?_
        refine c_p (r_mv rfl) rfl ?_
        refine c_p (r_i rfl rfl rfl) rfl ?_
        refine c_p (r_mv rfl) rfl ?_
        rcases Bool.eq_false_or_eq_true (y108.1 != y112.1) with hb116 | hb116
        · replace h89 := itT hb116 h89
          refine nx (pass rfl rfl hb116 rfl ?_)
          refine nx (pass rfl rfl hb116 rfl ?_)
          refine nx (pass rfl rfl hb116 rfl ?_)
          refine c_p (r_pT rfl hb116 rfl) rfl ?_
          refine c_p (r_mv rfl) rfl ?_
          refine nx (pass rfl rfl rfl rfl ?_)
          refine nx (pass rfl rfl rfl rfl ?_)
          refine nx (pass rfl rfl rfl rfl ?_)
          refine c_p (r_pT rfl rfl rfl) rfl ?_
          refine t_nil ?_
          refine t_then hK115 ?_
          refine t_T rfl rfl ?_
          refine t_seq fun K118 hK119 => ?_
          refine t_region ?_
          refine c_p (r_as rfl) rfl ?_
          refine t_nil ?_
          refine t_then hK119 ?_
          refine t_ret ?_
          refine t_cS (u := el104) (t := ()) shutsO_str hel104 (.cons e0 .nil) rfl (fun w Z hA => trivial) ?_
          exact br (tr (tr (br (tr (ret1 rfl (v_t rfl) (t_leave (hQ _ (Option.some.inj h89)) () rfl (fun w Z hA => V0) .nil))))))
        · replace h89 := itF hb116 h89
          refine nx (gd rfl rfl hb116 (sp (r_mv rfl) rfl ?_))
          refine nx (gd rfl rfl hb116 (sp (r_mv rfl) rfl ?_))
          refine nx (gd rfl rfl hb116 (sp (r_bne Tryd.underlying4 rfl rfl) rfl ?_))
          refine c_p (r_pF rfl hb116 rfl) rfl ?_
          refine c_p (r_mv rfl) rfl ?_
          rcases Bool.eq_false_or_eq_true (y108.2.1 != y112.2.1) with hb117 | hb117
          · replace h89 := itT hb117 h89
            refine nx (pass rfl rfl hb117 rfl ?_)
            refine nx (pass rfl rfl hb117 rfl ?_)
            refine nx (pass rfl rfl hb117 rfl ?_)
            refine c_p (r_pT rfl hb117 rfl) rfl ?_
            refine t_nil ?_
            refine t_then hK115 ?_
            refine t_T rfl rfl ?_
            refine t_seq fun K120 hK121 => ?_
            refine t_region ?_
            refine c_p (r_as rfl) rfl ?_
            refine t_nil ?_
            refine t_then hK121 ?_
            refine t_ret ?_
            refine t_cS (u := el104) (t := ()) shutsO_str hel104 (.cons e0 .nil) rfl (fun w Z hA => trivial) ?_
            exact br (tr (tr (br (tr (ret1 rfl (v_t rfl) (t_leave (hQ _ (Option.some.inj h89)) () rfl (fun w Z hA => V0) .nil))))))
          · replace h89 := itF hb117 h89
            refine nx (gd rfl rfl hb117 (sp (r_mv rfl) rfl ?_))
            refine nx (gd rfl rfl hb117 (sp (r_mv rfl) rfl ?_))
            refine nx (gd rfl rfl hb117 (sp (r_bne Tryd.underlying4 rfl rfl) rfl ?_))
            refine c_p (r_pF rfl hb117 rfl) rfl ?_
            refine t_nil ?_
            refine t_then hK115 ?_
            rcases Bool.eq_false_or_eq_true (y108.2.2 != y112.2.2) with hb122 | hb122
            · replace h89 := itT hb122 h89
              refine t_T rfl hb122 ?_
              refine t_seq fun K123 hK124 => ?_
              refine t_region ?_
              refine c_p (r_as rfl) rfl ?_
              refine t_nil ?_
              refine t_then hK124 ?_
              refine t_ret ?_
              refine t_cS (u := el104) (t := ()) shutsO_str hel104 (.cons e0 .nil) rfl (fun w Z hA => trivial) ?_
              exact br (tr (tr (br (tr (ret1 rfl (v_t rfl) (t_leave (hQ _ (Option.some.inj h89)) () rfl (fun w Z hA => V0) .nil))))))
            · replace h89 := itF hb122 h89
              refine t_F rfl hb122 ?_
              refine t_skip ?_
              refine t_blockN ?_
              refine t_then hK98 ?_
              refine t_region ?_
              refine c_p (r_i rfl rfl rfl) rfl ?_
              refine c_p (r_mv rfl) rfl ?_
              refine t_nil ?_
              refine t_cS (u := el104) (t := ()) shutsO_str hel104 (.cons e0 .nil) rfl (fun w Z hA => trivial) ?_
              exact t_norm (t_go (ih91 (IntKind.wrap .i64 (x87 + 1)) h89) ⟨rfl, rfl, rfl, rfl, rfl, trivial⟩ (.cons e0 .nil) (fun w Z hA => V1 a0 hA (V1 a1 hA (V0))))
      · replace h89 := itF hb96 h89
        refine t_F rfl hb96 ?_
        refine t_exit ?_
        refine te (te (bx ?_))
        exact t_norm (t_go (J125 h89) ⟨rfl, rfl, trivial⟩ .nil (fun w Z hA => V1 a0 hA (V1 a1 hA (V0))))
  exact t_go (LP88 (((5 : Int) - (0)).toNat + 1) 0 h) ⟨rfl, rfl, rfl, rfl, rfl, trivial⟩ (.cons e0 .nil) (fun w Z hA => V1 a0 hA (V1 a1 hA (V0)))
end Go.Proofs.YtgcigcbhilcgoaaDoor.Gx
