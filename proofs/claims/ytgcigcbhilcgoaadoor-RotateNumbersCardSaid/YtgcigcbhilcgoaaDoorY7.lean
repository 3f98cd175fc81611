/- Function 7, kaudit/kauditlaw26.RotateNumbers: what it answers as a plain function, and that the Go code comes to exactly that (where the plain function gives an answer). -/
import Derived.Test.YtgcigcbhilcgoaaDoorYT
import Derived.Test.YtgcigcbhilcgoaaDoorY15
import Derived.Test.YtgcigcbhilcgoaaDoorY16
import Derived.Test.YtgcigcbhilcgoaaDoorY19
import Derived.Test.YtgcigcbhilcgoaaDoorY20
import Derived.Test.YtgcigcbhilcgoaaDoorY25
import Derived.Test.YtgcigcbhilcgoaaDoorY26
import Derived.Test.YtgcigcbhilcgoaaDoorY27
import Derived.Test.YtgcigcbhilcgoaaDoorY28
set_option linter.unusedVariables false
set_option linter.unusedSimpArgs false
namespace Go.Proofs.YtgcigcbhilcgoaaDoor.Gx
open Go.Gx Go.RowKit
/-! ### kaudit/kauditlaw26.RotateNumbers: function 7 -/
def f_kauditlaw26_RotateNumbers_j3 (x141 : List ByteArray) : Option (Bool) := (f_rotate_Numbers x141).bind fun y146 => (f_kauditref26_Numbers x141).bind fun y148 => (f_kauditref26_SameInts y146 y148).bind fun y150 => if y150 = true then ((f_kauditlaw26_begun).bind fun y153 => some y153) else (some false)
def f_kauditlaw26_RotateNumbers_l1 (x41 : List Int) : Nat → Int → List ByteArray → Int → Option (Bool)
  | 0, _, _, _ => none
  | k116 + 1, x108, x112, x113 => if (decide (x113 > 0)) = true then ((f_kauditmill_Case_Int (⟨x41, x108⟩ : kauditmill_Case) 9).bind fun y125 => (f_rotate_Name y125.1).bind fun y127 => (f_kauditmill_Case_Int (⟨x41, y125.2⟩ : kauditmill_Case) 9).bind fun y129 => (f_rotate_Packed y129.1).bind fun y131 => (f_kauditmill_Case_Text (⟨x41, y129.2⟩ : kauditmill_Case)).bind fun y133 => ck (fits (x112.length + [y127, y131, y133.1].length) 16 = true) <| f_kauditlaw26_RotateNumbers_l1 x41 k116 y133.2 (x112 ++ [y127, y131, y133.1]) (IntKind.wrap .i64 (x113 - 1))) else (f_kauditlaw26_RotateNumbers_j3 x112)
def f_kauditlaw26_RotateNumbers_j2 (z1 : (List ByteArray)) (x41 : List Int) : Option (Bool) := ck (fits (([] : List ByteArray).length + z1.length) 16 = true) <| (f_kauditmill_Case_Int (⟨x41, 0⟩ : kauditmill_Case) 9).bind fun y52 => f_kauditlaw26_RotateNumbers_l1 x41 (((y52.1 : Int) - (0)).toNat + 1) y52.2 (([] : List ByteArray) ++ z1) y52.1
def f_kauditlaw26_RotateNumbers_j1 (z1 : (List ByteArray)) (x34 : List Int) : Option (Bool) := f_kauditlaw26_RotateNumbers_j2 z1 x34
def f_kauditlaw26_RotateNumbers (z0 : (List Int)) (z1 : (List ByteArray)) : Option (Bool) := if (decide ((z0.length : Int) > 60)) = true then (ck (cutOk z0 0 60) <| f_kauditlaw26_RotateNumbers_j1 z1 (cut z0 0 60)) else (f_kauditlaw26_RotateNumbers_j1 z1 z0)
set_option maxHeartbeats 4000000 in
set_option maxRecDepth 100000 in
theorem C7 (z0 : (List Int)) (z1 : (List ByteArray)) (p1 : Option Addr) (m2 : Nat) (c3 : Nat) (p4 : Option Addr) (m5 : Nat) (c6 : Nat) (r : Bool) (h : f_kauditlaw26_RotateNumbers z0 z1 = some r) : FunG Tryd.prog 7 #[.slice p1 m2 c3, .slice p4 m5 c6] [vw (kSlice 5 (kInt .u8)) z0 [.slice p1 m2 c3], vw (kSlice 9 kStr) z1 [.slice p4 m5 c6], g_pow10, g_errs] [] (fun (_ : Unit) => .bool r) (fun _ => []) (fun _ => []) := by
  unfold f_kauditlaw26_RotateNumbers at h
  refine t_begin (args := [.slice p1 m2 c3, .slice p4 m5 c6]) Tryd.func7 rfl Tryd.ntmps7 rfl fun c R hR => ?_
  have hQ : ∀ X, X = r → ∀ w2 (_ : Unit), PostG c.w0 w2 c.M c.Y [] [] → R (.returned (.bool X)) w2 := fun X e => by subst e; exact hR
  refine t_seq fun K7 hK8 => ?_
  refine t_region ?_
  refine c_p (r_as rfl) rfl ?_
  refine t_nil ?_
  refine t_then hK8 ?_
  refine t_seq fun K9 hK10 => ?_
  have J42 : ∀ (g37 : Nat) (p38 : Option Addr) (m39 : Nat) (c40 : Nat) (x41 : List Int), f_kauditlaw26_RotateNumbers_j2 z1 x41 = some r → T 37 c [vw (kSlice 9 kStr) z1 [.slice p4 m5 c6], vw (kSlice 5 (kInt .u8)) x41 [.slice p38 m39 c40], g_pow10, g_errs] [[blk g37 [.slice p38 m39 c40, .int .i64 0] 53]] [(1, .slice p4 m5 c6), (5, .pointer (some ⟨g37, 0, none⟩))] K9 := by
    intro g37 p38 m39 c40 x41 h43
    unfold f_kauditlaw26_RotateNumbers_j2 at h43
    refine ti hK10 ?_
    refine t_seq fun K44 hK45 => ?_
    refine t_region ?_
    refine c_p (r_mv rfl) rfl ?_
    refine t_nr 9 kStr ?_
    obtain ⟨hc46, h43⟩ := ck_out h43
    refine nx (t_app (Kd := kStr) (xs := ([] : List ByteArray)) (ys := z1) (.cons e0 .nil) rfl rfl Tryd.underlying43 Tryd.underlying43 ti9 rfl rfl hc46 (srcA flatK_str a0) rfl fun t47 => ?_)
    refine c_p (r_as rfl) rfl ?_
    refine t_nil ?_
    refine t_then hK45 ?_
    refine t_seq fun K48 hK49 => ?_
    have J142 : ∀ (p138 : Option Addr) (m139 : Nat) (c140 : Nat) (x141 : List ByteArray), f_kauditlaw26_RotateNumbers_j3 x141 = some r → T 37 c [g_pow10, g_errs] [[row 9 kStr x141 (.slice p138 m139 c140)]] [(6, .slice p138 m139 c140)] K48 := by
      intro p138 m139 c140 x141 h143
      unfold f_kauditlaw26_RotateNumbers_j3 at h143
      refine ti hK49 ?_
      refine t_seq fun K144 hK145 => ?_
      refine t_region ?_
      refine c_p (r_mv rfl) rfl ?_
      obtain ⟨y146, hy146, h143⟩ := bs h143
      refine nx (t_cf (C27 _ _ _ _ _ hy146) (fun _ => (flat_cons (indK_slice 3 (indK_int .i64)) flat_nil)) Tryd.func27 nm27 rfl rfl rfl .nil (fun w Z S hA hL => (FL a0 hL (F1 a0 hA (F1 a1 hA F0)))) rfl fun t147 => ?_)
      refine c_p (r_mv rfl) rfl ?_
      obtain ⟨y148, hy148, h143⟩ := bs h143
      refine nx (t_cf (C28 _ _ _ _ _ hy148) (fun _ => (flat_cons (indK_slice 3 (indK_int .i64)) flat_nil)) Tryd.func28 nm28 rfl rfl rfl .nil (fun w Z S hA hL => (FL a1 hL (F1 a0 hA (F1 a1 hA F0)))) rfl fun t149 => ?_)
      obtain ⟨y150, hy150, h143⟩ := bs h143
      refine nx (t_cf (C26 _ _ _ _ _ _ _ _ _ hy150) (fun _ => flat_nil) Tryd.func26 nm26 rfl rfl rfl .nil (fun w Z S hA hL => (FL a1 hL (FL a0 hL (F1 a0 hA (F1 a1 hA F0))))) rfl fun t151 => ?_)
      refine c_p (r_mv rfl) rfl ?_
      rcases Bool.eq_false_or_eq_true y150 with hb152 | hb152
      · replace h143 := itT hb152 h143
        obtain ⟨y153, hy153, h143⟩ := bs h143
        refine nx (gd rfl rfl hb152 (t_ca (C15 _ hy153) Tryd.func15 nm15 rfl rfl rfl .nil (fun w Z hA => (V1 a0 hA (V1 a1 hA V0))) rfl fun t154 => ?_))
        refine c_p (r_pT rfl hb152 rfl) rfl ?_
        refine c_p (r_as rfl) rfl ?_
        refine t_nil ?_
        refine t_then hK145 ?_
        refine t_ret ?_
        exact ret1 rfl (v_t rfl) (t_leave (hQ _ (Option.some.inj h143)) () rfl (fun w Z hA => V0) .nil)
      · replace h143 := itF hb152 h143
        refine nx (pass rfl rfl hb152 rfl ?_)
        refine c_p (r_pF rfl hb152 rfl) rfl ?_
        refine c_p (r_as rfl) rfl ?_
        refine t_nil ?_
        refine t_then hK145 ?_
        refine t_ret ?_
        exact ret1 rfl (v_t rfl) (t_leave (hQ _ (Option.some.inj h143)) () rfl (fun w Z hA => V0) .nil)
    refine t_seq fun K50 hK51 => ?_
    refine t_region ?_
    refine c_p (r_mv rfl) rfl ?_
    obtain ⟨y52, hy52, h43⟩ := bs h43
    refine nx (t_ca (C16 _ _ _ _ _ _ _ hy52) Tryd.func16 nm16 rfl rfl rfl (.cons e1 .nil) (fun w Z hA => (V1 a1 hA (V1 a2 hA (V1 a3 hA V0)))) rfl fun t53 => ?_)
    refine c_p (r_as rfl) rfl ?_
    refine t_nil ?_
    refine t_then hK51 ?_
    refine t_block ?_
    refine t_lp fun k106 hk107 => ?_
    have LP114 : ∀ (k116 : Nat) (x108 : Int) (p109 : Option Addr) (m110 : Nat) (c111 : Nat) (x112 : List ByteArray) (x113 : Int), f_kauditlaw26_RotateNumbers_l1 x41 k116 x108 x112 x113 = some r → T 37 c [vw (kSlice 5 (kInt .u8)) x41 [.slice p38 m39 c40], g_pow10, g_errs] [[blk g37 [.slice p38 m39 c40, .int .i64 x108] 53], [row 9 kStr x112 (.slice p109 m110 c111)]] [(5, .pointer (some ⟨g37, 0, none⟩)), (6, .slice p109 m110 c111), (7, .int .i64 x113)] k106 := by
      intro k116
      induction k116 with
      | zero => intro x108 p109 m110 c111 x112 x113 h115; rewrite [f_kauditlaw26_RotateNumbers_l1] at h115; cases h115
      | succ k116 ih117 =>
        intro x108 p109 m110 c111 x112 x113 h115
        rewrite [f_kauditlaw26_RotateNumbers_l1] at h115
        refine ti hk107 ?_
        refine t_seq fun K118 hK119 => ?_
        refine t_seq fun K120 hK121 => ?_
        refine t_region ?_
        refine c_p (r_mv rfl) rfl ?_
        refine c_p (r_i rfl rfl rfl) rfl ?_
        refine t_nil ?_
        refine t_then hK121 ?_
        rcases Bool.eq_false_or_eq_true (decide (x113 > 0)) with hb122 | hb122
        · replace h115 := itT hb122 h115
          refine t_T rfl hb122 ?_
          refine t_skip ?_
          refine t_then hK119 ?_
          refine t_seq fun K123 hK124 => ?_
          refine t_block ?_
          refine t_region ?_
          refine c_p (r_mv rfl) rfl ?_
          refine c_p (r_mv rfl) rfl ?_
          obtain ⟨y125, hy125, h115⟩ := bs h115
          refine nx (t_ca (C16 _ _ _ _ _ _ _ hy125) Tryd.func16 nm16 rfl rfl rfl (.cons e0 .nil) (fun w Z hA => (V1 a0 hA (V1 a1 hA (V1 a2 hA V0)))) rfl fun t126 => ?_)
          obtain ⟨y127, hy127, h115⟩ := bs h115
          refine nx (t_ca (C19 _ _ hy127) Tryd.func19 nm19 rfl rfl rfl .nil (fun w Z hA => (V1 a1 hA (V1 a2 hA V0))) rfl fun t128 => ?_)
          refine c_p (r_mv rfl) rfl ?_
          obtain ⟨y129, hy129, h115⟩ := bs h115
          refine nx (t_ca (C16 _ _ _ _ _ _ _ hy129) Tryd.func16 nm16 rfl rfl rfl (.cons e0 .nil) (fun w Z hA => (V1 a0 hA (V1 a1 hA (V1 a2 hA V0)))) rfl fun t130 => ?_)
          obtain ⟨y131, hy131, h115⟩ := bs h115
          refine nx (t_ca (C20 _ _ hy131) Tryd.func20 nm20 rfl rfl rfl .nil (fun w Z hA => (V1 a1 hA (V1 a2 hA V0))) rfl fun t132 => ?_)
          refine c_p (r_mv rfl) rfl ?_
          obtain ⟨y133, hy133, h115⟩ := bs h115
          refine nx (t_ca (C25 _ _ _ _ _ _ hy133) Tryd.func25 nm25 rfl rfl rfl (.cons e0 .nil) (fun w Z hA => (V1 a0 hA (V1 a1 hA (V1 a2 hA V0)))) rfl fun t134 => ?_)
          refine nx (t_bs (ps := [(0, .string y127), (1, .string y131), (2, .string y133.1)]) (cs := [.string y127, .string y131, .string y133.1]) Tryd.underlying43 ti9 rfl rfl (by kernel_rfl) rfl fun g135 => ?_)
          obtain ⟨hc136, h115⟩ := ck_out h115
          refine nx (t_app (Kd := kStr) (xs := x112) (ys := [y127, y131, y133.1]) (.cons e2 .nil) rfl rfl Tryd.underlying43 Tryd.underlying43 ti9 rfl rfl hc136 (srcB a0 (fun w Z S hA hN => flat_EO (S := Nil) flatK_str (er1 (c1 := [.string y127]) rfl (er1 (c1 := [.string y131]) rfl (er1 (c1 := [.string y133.1]) rfl er0))))) rfl fun t137 => ?_)
          refine c_p (r_as rfl) rfl ?_
          refine t_nil ?_
          refine t_blockN ?_
          refine t_then hK124 ?_
          refine t_region ?_
          refine c_p (r_mv rfl) rfl ?_
          refine c_p (r_i rfl rfl rfl) rfl ?_
          refine c_p (r_as rfl) rfl ?_
          refine t_nil ?_
          exact t_norm (t_go (ih117 y133.2 t137.1 t137.2.1 t137.2.2 (x112 ++ [y127, y131, y133.1]) (IntKind.wrap .i64 (x113 - 1)) h115) ⟨rfl, rfl, rfl, trivial⟩ (.cons e2 (.cons e0 .nil)) (fun w Z hA => V1 a0 hA (V1 a1 hA (V1 a2 hA (V0)))))
        · replace h115 := itF hb122 h115
          refine t_F rfl hb122 ?_
          refine t_exit ?_
          refine te (te (bx ?_))
          exact t_norm (t_go (J142 p109 m110 c111 x112 h115) ⟨rfl, trivial⟩ (.cons e1 .nil) (fun w Z hA => V1 a1 hA (V1 a2 hA (V0))))
    exact t_go (LP114 (((y52.1 : Int) - (0)).toNat + 1) y52.2 t47.1 t47.2.1 t47.2.2 (([] : List ByteArray) ++ z1) y52.1 h43) ⟨rfl, rfl, rfl, trivial⟩ (.cons e0 (.cons e0 .nil)) (fun w Z hA => V1 a1 hA (V1 a2 hA (V1 a3 hA (V0))))
  refine t_region ?_
  refine c_p (r_mv rfl) rfl ?_
  refine nx (t_in (args := [.slice p1 m2 c3, .int .i64 60]) (cap := []) (all := [.slice p1 m2 c3, .int .i64 60]) rfl rfl Tryd.func8 nm8 rfl rfl rfl Tryd.ntmps8 rfl fun R11 k12 hk13 hR14 => ?_)
  have J35 : ∀ (g30 : Nat) (p31 : Option Addr) (m32 : Nat) (c33 : Nat) (x34 : List Int), f_kauditlaw26_RotateNumbers_j1 z1 x34 = some r → T 37 c [vw (kSlice 9 kStr) z1 [.slice p4 m5 c6], vw (kSlice 5 (kInt .u8)) x34 [.slice p31 m32 c33], g_pow10, g_errs] [[blk g30 [.slice p31 m32 c33, .int .i64 0] 53]] [(1, .slice p4 m5 c6), (9, .pointer (some ⟨g30, 0, none⟩))] k12 := by
    intro g30 p31 m32 c33 x34 h36
    unfold f_kauditlaw26_RotateNumbers_j1 at h36
    refine ti hk13 ?_
    refine c_p (r_as rfl) rfl ?_
    refine t_nil ?_
    exact t_norm (t_go (J42 g30 p31 m32 c33 x34 h36) ⟨rfl, rfl, trivial⟩ (.cons e0 .nil) (fun w Z hA => V1 a0 hA (V1 a1 hA (V1 a2 hA (V1 a3 hA (V0))))))
  refine t_seq fun K15 hK16 => ?_
  refine t_region ?_
  refine c_p (r_as rfl) rfl ?_
  refine t_nil ?_
  refine t_then hK16 ?_
  refine t_seq fun K17 hK18 => ?_
  refine t_seq fun K19 hK20 => ?_
  refine t_region ?_
  refine c_p (r_mv rfl) rfl ?_
  refine c_s (r_lnA a0 Tryd.underlying24 rfl) rfl ?_
  refine c_p (r_mv rfl) rfl ?_
  refine c_p (r_i rfl rfl rfl) rfl ?_
  refine t_nil ?_
  refine t_then hK20 ?_
  rcases Bool.eq_false_or_eq_true (decide ((z0.length : Int) > 60)) with hb21 | hb21
  · replace h := itT hb21 h
    refine t_T rfl hb21 ?_
    refine t_region ?_
    refine c_p (r_mv rfl) rfl ?_
    refine c_p (r_mv rfl) rfl ?_
    obtain ⟨hc22, h⟩ := ck_out h
    refine nx (t_cutA (i := 0) (j := 60) a0 Tryd.underlying24 ti5 rfl (.inl ⟨rfl, rfl⟩) (.inr ⟨_, _, rfl, rfl⟩) hc22 rfl fun t23 => ?_)
    refine c_p (r_as rfl) rfl ?_
    refine t_nil ?_
    refine t_then hK18 ?_
    refine t_seq fun K24 hK25 => ?_
    refine t_region ?_
    refine c_p (r_mv rfl) rfl ?_
    refine c_p (r_bu (ps := [(0, .slice t23.1 t23.2.1 t23.2.2)]) (cs := [.slice t23.1 t23.2.1 t23.2.2, .int .i64 0]) rfl (by kernel_rfl)) rfl ?_
    refine nx (t_bx (cs := [.slice t23.1 t23.2.1 t23.2.2, .int .i64 0]) rfl rfl rfl fun g26 => ?_)
    refine c_p (r_as rfl) rfl ?_
    refine t_nil ?_
    refine t_then hK25 ?_
    refine t_ret ?_
    refine ret1 rfl (v_t rfl) (t_bk hR14 ?_)
    exact t_go (J35 g26 t23.1 t23.2.1 t23.2.2 (cut z0 0 60) h) ⟨rfl, rfl, trivial⟩ (.cons e0 .nil) (fun w Z hA => V1 a2 hA (V1 a0 hA (V1 a3 hA (V1 a4 hA (V0)))))
  · replace h := itF hb21 h
    refine t_F rfl hb21 ?_
    refine t_skip ?_
    refine t_then hK18 ?_
    refine t_seq fun K27 hK28 => ?_
    refine t_region ?_
    refine c_p (r_mv rfl) rfl ?_
    refine c_p (r_bu (ps := [(0, .slice p1 m2 c3)]) (cs := [.slice p1 m2 c3, .int .i64 0]) rfl (by kernel_rfl)) rfl ?_
    refine nx (t_bx (cs := [.slice p1 m2 c3, .int .i64 0]) rfl rfl rfl fun g29 => ?_)
    refine c_p (r_as rfl) rfl ?_
    refine t_nil ?_
    refine t_then hK28 ?_
    refine t_ret ?_
    refine ret1 rfl (v_t rfl) (t_bk hR14 ?_)
    exact t_go (J35 g29 p1 m2 c3 z0 h) ⟨rfl, rfl, trivial⟩ (.cons e0 .nil) (fun w Z hA => V1 a1 hA (V1 a0 hA (V1 a2 hA (V1 a3 hA (V0)))))
end Go.Proofs.YtgcigcbhilcgoaaDoor.Gx
