/- Function 17, kaudit/kauditref26.Add: what it answers as a plain function, and that the Go code comes to exactly that (where the plain function gives an answer). -/
import Derived.Test.YtgcigcbhilcgoaaDoorYT
set_option linter.unusedVariables false
set_option linter.unusedSimpArgs false
namespace Go.Proofs.YtgcigcbhilcgoaaDoor.Gx
open Go.Gx Go.RowKit
/-! ### kaudit/kauditref26.Add: function 17 -/
def f_kauditref26_Add_j1 (z1 : Int) (x104 : Int) (el121 : Int) (rec_f_kauditref26_Add_l1 : List Int → Bool → Int → Option ((List Int))) (x135 : List Int) (x136 : Bool) : Option ((List Int)) := if (el121 != z1) = true then (ck (fits (x135.length + [el121].length) 8 = true) <| rec_f_kauditref26_Add_l1 (x135 ++ [el121]) x136 (IntKind.wrap .i64 (x104 + 1))) else (rec_f_kauditref26_Add_l1 x135 x136 (IntKind.wrap .i64 (x104 + 1)))
def f_kauditref26_Add_j2 (z1 : Int) (x148 : List Int) (x149 : Bool) : Option ((List Int)) := if x149 = true then (some x148) else (ck (fits (x148.length + [z1].length) 8 = true) <| some (x148 ++ [z1]))
def f_kauditref26_Add_l1 (z0 : (List Int)) (z1 : Int) : Nat → List Int → Bool → Int → Option ((List Int))
  | 0, _, _, _ => none
  | k107 + 1, x102, x103, x104 => if (decide (x104 < (z0.length : Int))) = true then ((at_ z0 x104).bind fun el121 => if x103 = true then (f_kauditref26_Add_j1 z1 x104 el121 (f_kauditref26_Add_l1 z0 z1 k107) x102 x103) else (if (decide (z1 ≤ el121)) = true then (ck (fits (x102.length + [z1].length) 8 = true) <| f_kauditref26_Add_j1 z1 x104 el121 (f_kauditref26_Add_l1 z0 z1 k107) (x102 ++ [z1]) true) else (f_kauditref26_Add_j1 z1 x104 el121 (f_kauditref26_Add_l1 z0 z1 k107) x102 x103))) else (f_kauditref26_Add_j2 z1 x102 x103)
def f_kauditref26_Add (z0 : (List Int)) (z1 : Int) : Option ((List Int)) := f_kauditref26_Add_l1 z0 z1 ((((z0.length : Int) : Int) - (0)).toNat + 1) ([] : List Int) false 0
set_option maxHeartbeats 4000000 in
set_option maxRecDepth 100000 in
theorem C17 (z0 : (List Int)) (z1 : Int) (p1 : Option Addr) (m2 : Nat) (c3 : Nat) (r : (List Int)) (h : f_kauditref26_Add z0 z1 = some r) : FunG Tryd.prog 17 #[.slice p1 m2 c3, .int .i64 z1] [vw (kSlice 3 (kInt .i64)) z0 [.slice p1 m2 c3], g_pow10, g_errs] [] (fun t : (Option Addr × Nat × Nat) => .slice t.1 t.2.1 t.2.2) (fun t => []) (fun t => [[row 3 (kInt .i64) r (.slice t.1 t.2.1 t.2.2)]]) := by
  unfold f_kauditref26_Add at h
  refine t_begin (args := [.slice p1 m2 c3, .int .i64 z1]) Tryd.func17 rfl Tryd.ntmps17 rfl fun c R hR => ?_
  have hQ : ∀ X, X = r → ∀ w2 (t : (Option Addr × Nat × Nat)), PostG c.w0 w2 c.M c.Y [] [[row 3 (kInt .i64) X (.slice t.1 t.2.1 t.2.2)]] → R (.returned (.slice t.1 t.2.1 t.2.2)) w2 := fun X e => by subst e; exact hR
  refine t_seq fun K4 hK5 => ?_
  refine t_region ?_
  refine c_p (r_as rfl) rfl ?_
  refine t_nil ?_
  refine t_then hK5 ?_
  refine t_seq fun K6 hK7 => ?_
  refine t_region ?_
  refine c_p (r_as rfl) rfl ?_
  refine t_nil ?_
  refine t_then hK7 ?_
  refine t_seq fun K8 hK9 => ?_
  refine t_region ?_
  refine c_p (r_as rfl) rfl ?_
  refine t_nil ?_
  refine t_then hK9 ?_
  refine t_seq fun K10 hK11 => ?_
  have J150 : ∀ (p145 : Option Addr) (m146 : Nat) (c147 : Nat) (x148 : List Int) (x149 : Bool), f_kauditref26_Add_j2 z1 x148 x149 = some r → T 41 c [g_pow10, g_errs] [[row 3 (kInt .i64) x148 (.slice p145 m146 c147)]] [(1, .int .i64 z1), (5, .slice p145 m146 c147), (6, .bool x149)] K10 := by
    intro p145 m146 c147 x148 x149 h151
    unfold f_kauditref26_Add_j2 at h151
    refine ti hK11 ?_
    refine t_seq fun K152 hK153 => ?_
    refine t_seq fun K154 hK155 => ?_
    refine t_region ?_
    refine c_p (r_mv rfl) rfl ?_
    refine c_p (r_not rfl) rfl ?_
    refine t_nil ?_
    refine t_then hK155 ?_
    rcases Bool.eq_false_or_eq_true x149 with hb156 | hb156
    · replace h151 := itT hb156 h151
      refine t_F rfl (congrArg Bool.not hb156) ?_
      refine t_skip ?_
      refine t_then hK153 ?_
      refine t_seq fun K160 hK161 => ?_
      refine t_region ?_
      refine c_p (r_mv rfl) rfl ?_
      refine c_p (r_as rfl) rfl ?_
      refine t_nil ?_
      refine t_then hK161 ?_
      refine t_ret ?_
      exact ret1 rfl (v_t rfl) (t_leave (hQ _ (Option.some.inj h151)) (p145, m146, c147) rfl (fun w Z hA => V0) (.cons e0 .nil))
    · replace h151 := itF hb156 h151
      refine t_T rfl (congrArg Bool.not hb156) ?_
      refine t_region ?_
      refine c_p (r_mv rfl) rfl ?_
      refine c_p (r_mv rfl) rfl ?_
      refine nx (t_bs (ps := [(0, .int .i64 z1)]) (cs := [.int .i64 z1]) Tryd.underlying36 ti3 rfl rfl (by kernel_rfl) rfl fun g157 => ?_)
      obtain ⟨hc158, h151⟩ := ck_out h151
      refine nx (t_app (Kd := (kInt .i64)) (xs := x148) (ys := [z1]) (.cons e1 .nil) rfl rfl Tryd.underlying36 Tryd.underlying36 ti3 rfl rfl hc158 (srcB a0 (fun w Z S hA hN => flat_EO (S := Nil) (flatK_int .i64) (er1 (c1 := [.int .i64 z1]) rfl er0))) rfl fun t159 => ?_)
      refine c_p (r_as rfl) rfl ?_
      refine t_nil ?_
      refine t_then hK153 ?_
      refine t_seq fun K162 hK163 => ?_
      refine t_region ?_
      refine c_p (r_mv rfl) rfl ?_
      refine c_p (r_as rfl) rfl ?_
      refine t_nil ?_
      refine t_then hK163 ?_
      refine t_ret ?_
      exact ret1 rfl (v_t rfl) (t_leave (hQ _ (Option.some.inj h151)) (t159.1, t159.2.1, t159.2.2) rfl (fun w Z hA => V0) (.cons e0 .nil))
  refine t_seq fun K12 hK13 => ?_
  refine t_region ?_
  refine c_p (r_mv rfl) rfl ?_
  refine c_s (r_lnA a0 Tryd.underlying36 rfl) rfl ?_
  refine c_p (r_mv rfl) rfl ?_
  refine t_nil ?_
  refine t_then hK13 ?_
  refine t_block ?_
  refine t_nr 3 (kInt .i64) ?_
  refine t_lp fun k97 hk98 => ?_
  have LP105 : ∀ (k107 : Nat) (p99 : Option Addr) (m100 : Nat) (c101 : Nat) (x102 : List Int) (x103 : Bool) (x104 : Int), f_kauditref26_Add_l1 z0 z1 k107 x102 x103 x104 = some r → T 41 c [vw (kSlice 3 (kInt .i64)) z0 [.slice p1 m2 c3], g_pow10, g_errs] [[row 3 (kInt .i64) x102 (.slice p99 m100 c101)]] [(1, .int .i64 z1), (5, .slice p99 m100 c101), (6, .bool x103), (9, .slice p1 m2 c3), (10, .int .i64 (z0.length : Int)), (11, .int .i64 x104)] k97 := by
    intro k107
    induction k107 with
    | zero => intro p99 m100 c101 x102 x103 x104 h106; rewrite [f_kauditref26_Add_l1] at h106; cases h106
    | succ k107 ih108 =>
      intro p99 m100 c101 x102 x103 x104 h106
      rewrite [f_kauditref26_Add_l1] at h106
      refine ti hk98 ?_
      refine t_seq fun K109 hK110 => ?_
      refine t_region ?_
      refine c_p (r_i rfl rfl rfl) rfl ?_
      refine t_nil ?_
      refine t_then hK110 ?_
      refine t_seq fun K111 hK112 => ?_
      rcases Bool.eq_false_or_eq_true (decide (x104 < (z0.length : Int))) with hb113 | hb113
      · replace h106 := itT hb113 h106
        refine t_T rfl hb113 ?_
        refine t_skip ?_
        refine t_then hK112 ?_
        refine t_seq fun K114 hK115 => ?_
        refine t_block ?_
        refine t_seq fun K116 hK117 => ?_
        refine t_region ?_
        obtain ⟨el121, hel121, h106⟩ := bs h106
        refine t_q a0 hel121 fun q118 hq119 hm120 => ?_
        refine c_p (r_idx hq119 hm120 hel121 Tryd.underlying36 ti3 rfl rfl) rfl ?_
        refine t_op (opens_int .i64) a0 hel121 fun t122 => ?_
        refine c_s (r_e1 a0 hq119 Tryd.underlying3 rfl rfl rfl) rfl ?_
        refine c_p (r_as rfl) rfl ?_
        refine t_nil ?_
        refine t_then hK117 ?_
        refine t_seq fun K123 hK124 => ?_
        have J137 : ∀ (p132 : Option Addr) (m133 : Nat) (c134 : Nat) (x135 : List Int) (x136 : Bool), f_kauditref26_Add_j1 z1 x104 el121 (f_kauditref26_Add_l1 z0 z1 k107) x135 x136 = some r → T 41 c [vw (kSlice 3 (kInt .i64)) z0 [.slice p1 m2 c3], g_pow10, g_errs] [[row 3 (kInt .i64) x135 (.slice p132 m133 c134)]] [(1, .int .i64 z1), (5, .slice p132 m133 c134), (6, .bool x136), (8, .int .i64 el121), (9, .slice p1 m2 c3), (10, .int .i64 (z0.length : Int)), (11, .int .i64 x104)] K123 := by
          intro p132 m133 c134 x135 x136 h138
          unfold f_kauditref26_Add_j1 at h138
          refine ti hK124 ?_
          refine t_seq fun K139 hK140 => ?_
          refine t_region ?_
          refine c_p (r_mv rfl) rfl ?_
          refine c_p (r_mv rfl) rfl ?_
          refine c_p (r_i rfl rfl rfl) rfl ?_
          refine t_nil ?_
          refine t_then hK140 ?_
          rcases Bool.eq_false_or_eq_true (el121 != z1) with hb141 | hb141
          · replace h138 := itT hb141 h138
            refine t_T rfl hb141 ?_
            refine t_region ?_
            refine c_p (r_mv rfl) rfl ?_
            refine c_p (r_mv rfl) rfl ?_
            refine nx (t_bs (ps := [(0, .int .i64 el121)]) (cs := [.int .i64 el121]) Tryd.underlying36 ti3 rfl rfl (by kernel_rfl) rfl fun g142 => ?_)
            obtain ⟨hc143, h138⟩ := ck_out h138
            refine nx (t_app (Kd := (kInt .i64)) (xs := x135) (ys := [el121]) (.cons e1 .nil) rfl rfl Tryd.underlying36 Tryd.underlying36 ti3 rfl rfl hc143 (srcB a0 (fun w Z S hA hN => flat_EO (S := Nil) (flatK_int .i64) (er1 (c1 := [.int .i64 el121]) rfl er0))) rfl fun t144 => ?_)
            refine c_p (r_as rfl) rfl ?_
            refine t_nil ?_
            refine t_blockN ?_
            refine t_then hK115 ?_
            refine t_region ?_
            refine c_p (r_i rfl rfl rfl) rfl ?_
            refine c_p (r_mv rfl) rfl ?_
            refine t_nil ?_
            exact t_norm (t_go (ih108 t144.1 t144.2.1 t144.2.2 (x135 ++ [el121]) x136 (IntKind.wrap .i64 (x104 + 1)) h138) ⟨rfl, rfl, rfl, rfl, rfl, rfl, trivial⟩ (.cons e0 .nil) (fun w Z hA => V1 a0 hA (V1 a1 hA (V1 a2 hA (V0)))))
          · replace h138 := itF hb141 h138
            refine t_F rfl hb141 ?_
            refine t_skip ?_
            refine t_blockN ?_
            refine t_then hK115 ?_
            refine t_region ?_
            refine c_p (r_i rfl rfl rfl) rfl ?_
            refine c_p (r_mv rfl) rfl ?_
            refine t_nil ?_
            exact t_norm (t_go (ih108 p132 m133 c134 x135 x136 (IntKind.wrap .i64 (x104 + 1)) h138) ⟨rfl, rfl, rfl, rfl, rfl, rfl, trivial⟩ (.cons e0 .nil) (fun w Z hA => V1 a0 hA (V1 a1 hA (V1 a2 hA (V0)))))
        refine t_seq fun K125 hK126 => ?_
        refine t_region ?_
        refine c_p (r_mv rfl) rfl ?_
        refine c_p (r_not rfl) rfl ?_
        refine c_p (r_mv rfl) rfl ?_
        rcases Bool.eq_false_or_eq_true x103 with hb127 | hb127
        · replace h106 := itT hb127 h106
          refine nx (pass rfl rfl (congrArg Bool.not hb127) rfl ?_)
          refine nx (pass rfl rfl (congrArg Bool.not hb127) rfl ?_)
          refine nx (pass rfl rfl (congrArg Bool.not hb127) rfl ?_)
          refine c_p (r_pF rfl (congrArg Bool.not hb127) rfl) rfl ?_
          refine t_nil ?_
          refine t_then hK126 ?_
          refine t_F rfl rfl ?_
          refine t_skip ?_
          exact t_norm (t_go (J137 p99 m100 c101 x102 x103 h106) ⟨rfl, rfl, rfl, rfl, rfl, rfl, rfl, trivial⟩ (.cons e0 .nil) (fun w Z hA => V1 a1 hA (V1 a2 hA (V1 a3 hA (V0)))))
        · replace h106 := itF hb127 h106
          refine nx (gd rfl rfl (congrArg Bool.not hb127) (sp (r_mv rfl) rfl ?_))
          refine nx (gd rfl rfl (congrArg Bool.not hb127) (sp (r_mv rfl) rfl ?_))
          refine nx (gd rfl rfl (congrArg Bool.not hb127) (sp (r_i rfl rfl rfl) rfl ?_))
          refine c_p (r_pT rfl (congrArg Bool.not hb127) rfl) rfl ?_
          refine t_nil ?_
          refine t_then hK126 ?_
          rcases Bool.eq_false_or_eq_true (decide (z1 ≤ el121)) with hb128 | hb128
          · replace h106 := itT hb128 h106
            refine t_T rfl hb128 ?_
            refine t_region ?_
            refine c_p (r_mv rfl) rfl ?_
            refine c_p (r_mv rfl) rfl ?_
            refine nx (t_bs (ps := [(0, .int .i64 z1)]) (cs := [.int .i64 z1]) Tryd.underlying36 ti3 rfl rfl (by kernel_rfl) rfl fun g129 => ?_)
            obtain ⟨hc130, h106⟩ := ck_out h106
            refine nx (t_app (Kd := (kInt .i64)) (xs := x102) (ys := [z1]) (.cons e1 .nil) rfl rfl Tryd.underlying36 Tryd.underlying36 ti3 rfl rfl hc130 (srcB a0 (fun w Z S hA hN => flat_EO (S := Nil) (flatK_int .i64) (er1 (c1 := [.int .i64 z1]) rfl er0))) rfl fun t131 => ?_)
            refine c_p (r_as rfl) rfl ?_
            refine c_p (r_as rfl) rfl ?_
            refine t_nil ?_
            exact t_norm (t_go (J137 t131.1 t131.2.1 t131.2.2 (x102 ++ [z1]) true h106) ⟨rfl, rfl, rfl, rfl, rfl, rfl, rfl, trivial⟩ (.cons e0 .nil) (fun w Z hA => V1 a1 hA (V1 a2 hA (V1 a3 hA (V0)))))
          · replace h106 := itF hb128 h106
            refine t_F rfl hb128 ?_
            refine t_skip ?_
            exact t_norm (t_go (J137 p99 m100 c101 x102 x103 h106) ⟨rfl, rfl, rfl, rfl, rfl, rfl, rfl, trivial⟩ (.cons e0 .nil) (fun w Z hA => V1 a1 hA (V1 a2 hA (V1 a3 hA (V0)))))
      · replace h106 := itF hb113 h106
        refine t_F rfl hb113 ?_
        refine t_exit ?_
        refine te (te (bx ?_))
        exact t_norm (t_go (J150 p99 m100 c101 x102 x103 h106) ⟨rfl, rfl, rfl, trivial⟩ (.cons e0 .nil) (fun w Z hA => V1 a1 hA (V1 a2 hA (V0))))
  exact t_go (LP105 ((((z0.length : Int) : Int) - (0)).toNat + 1) none 0 0 ([] : List Int) false 0 h) ⟨rfl, rfl, rfl, rfl, rfl, rfl, trivial⟩ (.cons e0 .nil) (fun w Z hA => V1 a0 hA (V1 a1 hA (V1 a2 hA (V0))))
end Go.Proofs.YtgcigcbhilcgoaaDoor.Gx
