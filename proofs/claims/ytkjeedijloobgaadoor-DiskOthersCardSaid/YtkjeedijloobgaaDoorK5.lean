/- K5: the texts Y62, Y44, Y45, Y46, Y48, Y16, Y69, Y52, Y18, Y20, Y22, Y59, Y24, Y26, Y27, Y28, Y29, Y30, Y31, joined. -/
import Derived.Test.YtkjeedijloobgaaDoorK2
import Derived.Test.YtkjeedijloobgaaDoorK3
import Derived.Test.YtkjeedijloobgaaDoorK4
/- Function 62, kaudit/kauditref24.Valid: what it answers as a plain function, and that the Go code comes to exactly that (where the plain function gives an answer). -/
set_option linter.unusedVariables false
set_option linter.unusedSimpArgs false
namespace Go.Proofs.YtkjeedijloobgaaDoor.Gx
open Go.Gx Go.RowKit
/-! ### kaudit/kauditref24.Valid: function 62 -/
def f_kauditref24_Valid_l1 (z0 : api_Disk) : Nat → Int → Int → Option (Bool)
  | 0, _, _ => none
  | k138 + 1, x134, x135 => if (decide (x135 < (z0.Files.length : Int))) = true then ((at_ z0.Files x135).bind fun el152 => (f_kauditref24_name el152.Name).bind fun y161 => if y161 = true then (if (decide (x135 > 0)) = true then ((at_ z0.Files (IntKind.wrap .i64 (x135 - 1))).bind fun el168 => if ((Op.bytesLess el152.Name.toList el168.Name.toList) || (el152.Name.toList == el168.Name.toList)) = true then (some false) else (if (decide (el152.Safe < 0)) = true then (some false) else (if (decide (el152.Safe > (el152.Data.length : Int))) = true then (some false) else (if (decide ((el152.Data.length : Int) > x134)) = true then (some false) else (f_kauditref24_Valid_l1 z0 k138 (IntKind.wrap .i64 (x134 - (el152.Data.length : Int))) (IntKind.wrap .i64 (x135 + 1))))))) else (if (decide (el152.Safe < 0)) = true then (some false) else (if (decide (el152.Safe > (el152.Data.length : Int))) = true then (some false) else (if (decide ((el152.Data.length : Int) > x134)) = true then (some false) else (f_kauditref24_Valid_l1 z0 k138 (IntKind.wrap .i64 (x134 - (el152.Data.length : Int))) (IntKind.wrap .i64 (x135 + 1))))))) else (some false)) else (some true)
def f_kauditref24_Valid (z0 : api_Disk) : Option (Bool) := if (decide (z0.Room < 0)) = true then (some false) else (if (decide (z0.Room > 1048576)) = true then (some false) else (if (decide ((z0.Files.length : Int) > 24)) = true then (some false) else (if (decide (z0.Plan < 0)) = true then (some false) else (if (decide (z0.Plan > 10000)) = true then (some false) else (f_kauditref24_Valid_l1 z0 ((((z0.Files.length : Int) : Int) - (0)).toNat + 1) z0.Room 0)))))
set_option maxHeartbeats 4000000 in
set_option maxRecDepth 100000 in
theorem C62 (z0 : api_Disk) (p1 : Option Addr) (m2 : Nat) (c3 : Nat) (r : Bool) (h : f_kauditref24_Valid z0 = some r) : FunG Tryd.prog 62 #[.agg #[.int .i64 z0.Room, .slice p1 m2 c3, .bool z0.Off, .int .i64 z0.Plan]] [vw (kSlice 34 k_api_DiskFile) z0.Files [.slice p1 m2 c3], g_names] [] (fun (_ : Unit) => .bool r) (fun _ => []) (fun _ => []) := by
  unfold f_kauditref24_Valid at h
  refine t_begin (args := [.agg #[.int .i64 z0.Room, .slice p1 m2 c3, .bool z0.Off, .int .i64 z0.Plan]]) Tryd.func62 rfl Tryd.ntmps62 rfl fun c R hR => ?_
  have hQ : ∀ X, X = r → ∀ w2 (_ : Unit), PostG c.w0 w2 c.M c.Y [] [] → R (.returned (.bool X)) w2 := fun X e => by subst e; exact hR
  refine t_seq fun K4 hK5 => ?_
  refine t_region ?_
  refine nx (t_bx (cs := [.int .i64 z0.Room, .slice p1 m2 c3, .bool z0.Off, .int .i64 z0.Plan]) rfl rfl rfl fun g6 => ?_)
  refine c_p (r_as rfl) rfl ?_
  refine t_nil ?_
  refine t_then hK5 ?_
  refine t_seq fun K7 hK8 => ?_
  refine t_seq fun K9 hK10 => ?_
  refine t_region ?_
  refine c_p (r_fa (off' := 0) Tryd.underlying27 rfl ti3 rfl rfl) rfl ?_
  refine c_s (r_ld a0 Tryd.underlying3 rfl rfl rfl) rfl ?_
  refine c_p (r_i rfl rfl rfl) rfl ?_
  refine c_p (r_mv rfl) rfl ?_
  rcases Bool.eq_false_or_eq_true (decide (z0.Room < 0)) with hb11 | hb11
  · replace h := itT hb11 h
    refine nx (pass rfl rfl hb11 rfl ?_)
    refine nx (pass rfl rfl hb11 rfl ?_)
    refine nx (pass rfl rfl hb11 rfl ?_)
    refine c_p (r_pT rfl hb11 rfl) rfl ?_
    refine c_p (r_mv rfl) rfl ?_
    refine nx (pass rfl rfl rfl rfl ?_)
    refine nx (pass rfl rfl rfl rfl ?_)
    refine nx (pass rfl rfl rfl rfl ?_)
    refine nx (pass rfl rfl rfl rfl ?_)
    refine c_p (r_pT rfl rfl rfl) rfl ?_
    refine c_p (r_mv rfl) rfl ?_
    refine nx (pass rfl rfl rfl rfl ?_)
    refine nx (pass rfl rfl rfl rfl ?_)
    refine nx (pass rfl rfl rfl rfl ?_)
    refine c_p (r_pT rfl rfl rfl) rfl ?_
    refine c_p (r_mv rfl) rfl ?_
    refine nx (pass rfl rfl rfl rfl ?_)
    refine nx (pass rfl rfl rfl rfl ?_)
    refine nx (pass rfl rfl rfl rfl ?_)
    refine c_p (r_pT rfl rfl rfl) rfl ?_
    refine t_nil ?_
    refine t_then hK10 ?_
    refine t_T rfl rfl ?_
    refine t_seq fun K15 hK16 => ?_
    refine t_region ?_
    refine c_p (r_as rfl) rfl ?_
    refine t_nil ?_
    refine t_then hK16 ?_
    refine t_ret ?_
    exact tr (ret1 rfl (v_t rfl) (t_leave (hQ _ (Option.some.inj h)) () rfl (fun w Z hA => V0) .nil))
  · replace h := itF hb11 h
    refine nx (gd rfl rfl hb11 (sp (r_fa (off' := 0) Tryd.underlying27 rfl ti3 rfl rfl) rfl ?_))
    refine nx (gd rfl rfl hb11 (ss (r_ld a0 Tryd.underlying3 rfl rfl rfl) rfl ?_))
    refine nx (gd rfl rfl hb11 (sp (r_i rfl rfl rfl) rfl ?_))
    refine c_p (r_pF rfl hb11 rfl) rfl ?_
    refine c_p (r_mv rfl) rfl ?_
    rcases Bool.eq_false_or_eq_true (decide (z0.Room > 1048576)) with hb12 | hb12
    · replace h := itT hb12 h
      refine nx (pass rfl rfl hb12 rfl ?_)
      refine nx (pass rfl rfl hb12 rfl ?_)
      refine nx (pass rfl rfl hb12 rfl ?_)
      refine nx (pass rfl rfl hb12 rfl ?_)
      refine c_p (r_pT rfl hb12 rfl) rfl ?_
      refine c_p (r_mv rfl) rfl ?_
      refine nx (pass rfl rfl rfl rfl ?_)
      refine nx (pass rfl rfl rfl rfl ?_)
      refine nx (pass rfl rfl rfl rfl ?_)
      refine c_p (r_pT rfl rfl rfl) rfl ?_
      refine c_p (r_mv rfl) rfl ?_
      refine nx (pass rfl rfl rfl rfl ?_)
      refine nx (pass rfl rfl rfl rfl ?_)
      refine nx (pass rfl rfl rfl rfl ?_)
      refine c_p (r_pT rfl rfl rfl) rfl ?_
      refine t_nil ?_
      refine t_then hK10 ?_
      refine t_T rfl rfl ?_
      refine t_seq fun K17 hK18 => ?_
      refine t_region ?_
      refine c_p (r_as rfl) rfl ?_
      refine t_nil ?_
      refine t_then hK18 ?_
      refine t_ret ?_
      exact tr (ret1 rfl (v_t rfl) (t_leave (hQ _ (Option.some.inj h)) () rfl (fun w Z hA => V0) .nil))
    · replace h := itF hb12 h
      refine nx (gd rfl rfl hb12 (sp (r_fa (off' := 1) Tryd.underlying27 rfl ti25 rfl rfl) rfl ?_))
      refine nx (gd rfl rfl hb12 (ss (r_ld a0 Tryd.underlying25 rfl rfl rfl) rfl ?_))
      refine nx (gd rfl rfl hb12 (ss (r_lnA a0 Tryd.underlying25 rfl) rfl ?_))
      refine nx (gd rfl rfl hb12 (sp (r_i rfl rfl rfl) rfl ?_))
      refine c_p (r_pF rfl hb12 rfl) rfl ?_
      refine c_p (r_mv rfl) rfl ?_
      rcases Bool.eq_false_or_eq_true (decide ((z0.Files.length : Int) > 24)) with hb13 | hb13
      · replace h := itT hb13 h
        refine nx (pass rfl rfl hb13 rfl ?_)
        refine nx (pass rfl rfl hb13 rfl ?_)
        refine nx (pass rfl rfl hb13 rfl ?_)
        refine c_p (r_pT rfl hb13 rfl) rfl ?_
        refine c_p (r_mv rfl) rfl ?_
        refine nx (pass rfl rfl rfl rfl ?_)
        refine nx (pass rfl rfl rfl rfl ?_)
        refine nx (pass rfl rfl rfl rfl ?_)
        refine c_p (r_pT rfl rfl rfl) rfl ?_
        refine t_nil ?_
        refine t_then hK10 ?_
        refine t_T rfl rfl ?_
        refine t_seq fun K19 hK20 => ?_
        refine t_region ?_
        refine c_p (r_as rfl) rfl ?_
        refine t_nil ?_
        refine t_then hK20 ?_
        refine t_ret ?_
        exact tr (ret1 rfl (v_t rfl) (t_leave (hQ _ (Option.some.inj h)) () rfl (fun w Z hA => V0) .nil))
      · replace h := itF hb13 h
        refine nx (gd rfl rfl hb13 (sp (r_fa (off' := 3) Tryd.underlying27 rfl ti3 rfl rfl) rfl ?_))
        refine nx (gd rfl rfl hb13 (ss (r_ld a0 Tryd.underlying3 rfl rfl rfl) rfl ?_))
        refine nx (gd rfl rfl hb13 (sp (r_i rfl rfl rfl) rfl ?_))
        refine c_p (r_pF rfl hb13 rfl) rfl ?_
        refine c_p (r_mv rfl) rfl ?_
        rcases Bool.eq_false_or_eq_true (decide (z0.Plan < 0)) with hb14 | hb14
        · replace h := itT hb14 h
          refine nx (pass rfl rfl hb14 rfl ?_)
          refine nx (pass rfl rfl hb14 rfl ?_)
          refine nx (pass rfl rfl hb14 rfl ?_)
          refine c_p (r_pT rfl hb14 rfl) rfl ?_
          refine t_nil ?_
          refine t_then hK10 ?_
          refine t_T rfl rfl ?_
          refine t_seq fun K21 hK22 => ?_
          refine t_region ?_
          refine c_p (r_as rfl) rfl ?_
          refine t_nil ?_
          refine t_then hK22 ?_
          refine t_ret ?_
          exact tr (ret1 rfl (v_t rfl) (t_leave (hQ _ (Option.some.inj h)) () rfl (fun w Z hA => V0) .nil))
        · replace h := itF hb14 h
          refine nx (gd rfl rfl hb14 (sp (r_fa (off' := 3) Tryd.underlying27 rfl ti3 rfl rfl) rfl ?_))
          refine nx (gd rfl rfl hb14 (ss (r_ld a0 Tryd.underlying3 rfl rfl rfl) rfl ?_))
          refine nx (gd rfl rfl hb14 (sp (r_i rfl rfl rfl) rfl ?_))
          refine c_p (r_pF rfl hb14 rfl) rfl ?_
          refine t_nil ?_
          refine t_then hK10 ?_
          rcases Bool.eq_false_or_eq_true (decide (z0.Plan > 10000)) with hb23 | hb23
          · replace h := itT hb23 h
            refine t_T rfl hb23 ?_
            refine t_seq fun K24 hK25 => ?_
            refine t_region ?_
            refine c_p (r_as rfl) rfl ?_
            refine t_nil ?_
            refine t_then hK25 ?_
            refine t_ret ?_
            exact tr (ret1 rfl (v_t rfl) (t_leave (hQ _ (Option.some.inj h)) () rfl (fun w Z hA => V0) .nil))
          · replace h := itF hb23 h
            refine t_F rfl hb23 ?_
            refine t_skip ?_
            refine t_then hK8 ?_
            refine t_seq fun K26 hK27 => ?_
            refine t_region ?_
            refine c_p (r_fa (off' := 0) Tryd.underlying27 rfl ti3 rfl rfl) rfl ?_
            refine c_s (r_ld a0 Tryd.underlying3 rfl rfl rfl) rfl ?_
            refine c_p (r_as rfl) rfl ?_
            refine t_nil ?_
            refine t_then hK27 ?_
            refine t_seq fun K28 hK29 => ?_
            refine t_seq fun K30 hK31 => ?_
            refine t_region ?_
            refine c_p (r_fa (off' := 1) Tryd.underlying27 rfl ti25 rfl rfl) rfl ?_
            refine c_s (r_ld a0 Tryd.underlying25 rfl rfl rfl) rfl ?_
            refine c_s (r_lnA a0 Tryd.underlying25 rfl) rfl ?_
            refine c_p (r_mv rfl) rfl ?_
            refine t_nil ?_
            refine t_then hK31 ?_
            refine t_block ?_
            refine t_lp fun k132 hk133 => ?_
            have LP136 : ∀ (k138 : Nat) (x134 : Int) (x135 : Int), f_kauditref24_Valid_l1 z0 k138 x134 x135 = some r → T 86 c [vw (kSlice 34 k_api_DiskFile) z0.Files [.slice p1 m2 c3], g_names] [[blk g6 [.int .i64 z0.Room, .slice p1 m2 c3, .bool z0.Off, .int .i64 z0.Plan] 27]] [(1, .pointer (some ⟨g6, 0, none⟩)), (3, .int .i64 x134), (33, .slice p1 m2 c3), (34, .int .i64 (z0.Files.length : Int)), (35, .int .i64 x135)] k132 := by
              intro k138
              induction k138 with
              | zero => intro x134 x135 h137; rewrite [f_kauditref24_Valid_l1] at h137; cases h137
              | succ k138 ih139 =>
                intro x134 x135 h137
                rewrite [f_kauditref24_Valid_l1] at h137
                refine ti hk133 ?_
                refine t_seq fun K140 hK141 => ?_
                refine t_region ?_
                refine c_p (r_i rfl rfl rfl) rfl ?_
                refine t_nil ?_
                refine t_then hK141 ?_
                refine t_seq fun K142 hK143 => ?_
                rcases Bool.eq_false_or_eq_true (decide (x135 < (z0.Files.length : Int))) with hb144 | hb144
                · replace h137 := itT hb144 h137
                  refine t_T rfl hb144 ?_
                  refine t_skip ?_
                  refine t_then hK143 ?_
                  refine t_seq fun K145 hK146 => ?_
                  refine t_block ?_
                  refine t_seq fun K147 hK148 => ?_
                  refine t_region ?_
                  refine c_p (r_mv rfl) rfl ?_
                  obtain ⟨el152, hel152, h137⟩ := bs h137
                  refine t_q a0 hel152 fun q149 hq150 hm151 => ?_
                  refine c_p (r_idx hq150 hm151 hel152 Tryd.underlying25 ti34 rfl rfl) rfl ?_
                  refine t_op k_api_DiskFile_opens a0 hel152 fun t153 => ?_
                  refine c_s (r_eA a1 hq150 Tryd.underlying34 rfl ti34 rfl rfl) rfl ?_
                  refine nx (t_al (cs := [.string (⟨#[]⟩ : ByteArray), .slice none 0 0, .int .i64 0]) ti34 rfl rfl fun g154 => ?_)
                  refine c_p (r_as rfl) rfl ?_
                  refine nx (t_st u0 ti34 rfl rfl rfl rfl rfl (.t (.s (.s (.s .z)))) ?_)
                  refine t_nil ?_
                  refine t_then hK148 ?_
                  refine t_seq fun K155 hK156 => ?_
                  refine t_seq fun K157 hK158 => ?_
                  refine t_draw mixed (fun w_ => Bk g154 [.string el152.Name, .slice t153.1 t153.2.1 t153.2.2, .int .i64 el152.Safe] w_ ∧ Bk g6 [.int .i64 z0.Room, .slice p1 m2 c3, .bool z0.Off, .int .i64 z0.Plan] w_ ∧ True) [9, 11, 22, 27, 29, 35] [2, 16] rfl ?_
                  refine q_p 0 (panic_then (panic_then (panic_block (panic_then (panic_then (panic_block (panic_then panic_body))))))) rfl (by kernel_rfl) W0 (r_fa (off' := 0) Tryd.underlying34 rfl ti9 rfl rfl) rfl ?_
                  refine q_u 1 (panic_then (panic_then (panic_block (panic_then (panic_then (panic_block (panic_then panic_body))))))) rfl (by kernel_rfl) W0 (by kernel_rfl) (r_ld a0 Tryd.underlying9 rfl rfl rfl) rfl ?_
                  refine d1 2 rfl (by kernel_rfl) (by kernel_rfl) ?_
                  obtain ⟨y161, hy161, h137⟩ := bs h137
                  refine t_ca (C66 _ _ hy161) Tryd.func66 nm66 rfl rfl rfl .nil (fun w Z hA => (V1 a3 hA V0)) rfl fun t162 => ?_
                  refine dk (fun w H => ⟨bk a0 H, bk a1 H, trivial⟩) ?_
                  refine q_p 3 (panic_then (panic_then (panic_block (panic_then (panic_then (panic_block (panic_then panic_body))))))) rfl (by kernel_rfl) W0 (r_not rfl) rfl ?_
                  refine q_p 4 (panic_then (panic_then (panic_block (panic_then (panic_then (panic_block (panic_then panic_body))))))) rfl (by kernel_rfl) W0 (r_mv rfl) rfl ?_
                  rcases Bool.eq_false_or_eq_true y161 with hb163 | hb163
                  · replace h137 := itT hb163 h137
                    refine q_p 5 (panic_then (panic_then (panic_block (panic_then (panic_then (panic_block (panic_then panic_body))))))) rfl (by kernel_rfl) (WG rfl rfl (congrArg Bool.not hb163)) (r_mv rfl) rfl ?_
                    refine q_p 6 (panic_then (panic_then (panic_block (panic_then (panic_then (panic_block (panic_then panic_body))))))) rfl (by kernel_rfl) (WG rfl rfl (congrArg Bool.not hb163)) (r_i rfl rfl rfl) rfl ?_
                    refine q_p 7 (panic_then (panic_then (panic_block (panic_then (panic_then (panic_block (panic_then panic_body))))))) rfl (by kernel_rfl) (WG rfl rfl (congrArg Bool.not hb163)) (r_mv rfl) rfl ?_
                    rcases Bool.eq_false_or_eq_true (decide (x135 > 0)) with hb164 | hb164
                    · replace h137 := itT hb164 h137
                      refine q_p 8 (panic_then (panic_then (panic_block (panic_then (panic_then (panic_block (panic_then panic_body))))))) rfl (by kernel_rfl) (WG rfl rfl hb164) (r_fa (off' := 0) Tryd.underlying34 rfl ti9 rfl rfl) rfl ?_
                      refine q_s 9 (panic_then (panic_then (panic_block (panic_then (panic_then (panic_block (panic_then panic_body))))))) rfl (by kernel_rfl) (WG rfl rfl hb164) (by kernel_rfl) (fun w H => ⟨bk a0 H, bk a1 H, trivial⟩) (b_ld (fun _ h => h.1) Tryd.underlying9 rfl rfl rfl) rfl ?_
                      refine q_p 10 (panic_then (panic_then (panic_block (panic_then (panic_then (panic_block (panic_then panic_body))))))) rfl (by kernel_rfl) (WG rfl rfl hb164) (r_fa (off' := 1) Tryd.underlying27 rfl ti25 rfl rfl) rfl ?_
                      refine q_s 11 (panic_then (panic_then (panic_block (panic_then (panic_then (panic_block (panic_then panic_body))))))) rfl (by kernel_rfl) (WG rfl rfl hb164) (by kernel_rfl) (fun w H => ⟨bk a0 H, bk a1 H, trivial⟩) (b_ld (fun _ h => h.2.1) Tryd.underlying25 rfl rfl rfl) rfl ?_
                      refine q_p 12 (panic_then (panic_then (panic_block (panic_then (panic_then (panic_block (panic_then panic_body))))))) rfl (by kernel_rfl) (WG rfl rfl hb164) (r_mv rfl) rfl ?_
                      refine q_p 13 (panic_then (panic_then (panic_block (panic_then (panic_then (panic_block (panic_then panic_body))))))) rfl (by kernel_rfl) (WG rfl rfl hb164) (r_i rfl rfl rfl) rfl ?_
                      obtain ⟨el168, hel168, h137⟩ := bs h137
                      refine t_q a2 hel168 fun q165 hq166 hm167 => ?_
                      refine q_p 14 (panic_then (panic_then (panic_block (panic_then (panic_then (panic_block (panic_then panic_body))))))) rfl (by kernel_rfl) (WG rfl rfl hb164) (r_idx hq166 hm167 hel168 Tryd.underlying25 ti34 rfl rfl) rfl ?_
                      refine t_qf hq166 0 fun q169 hq170 => ?_
                      refine q_p 15 (panic_then (panic_then (panic_block (panic_then (panic_then (panic_block (panic_then panic_body))))))) rfl (by kernel_rfl) (WG rfl rfl hb164) (r_fai hq166 hq170 Tryd.underlying34 rfl ti9 rfl rfl) rfl ?_
                      refine d1 16 rfl (by kernel_rfl) (by kernel_rfl) ?_
                      refine t_op k_api_DiskFile_opens a2 hel168 fun t171 => ?_
                      refine gd rfl rfl hb164 (ss (r_e1 a1 hq170 Tryd.underlying9 rfl rfl rfl) rfl ?_)
                      refine dk (fun w H => ⟨bk a0 H, bk a1 H, trivial⟩) ?_
                      refine q_p 17 (panic_then (panic_then (panic_block (panic_then (panic_then (panic_block (panic_then panic_body))))))) rfl (by kernel_rfl) (WG rfl rfl hb164) (r_s rfl rfl rfl) rfl ?_
                      refine q_p 18 (panic_then (panic_then (panic_block (panic_then (panic_then (panic_block (panic_then panic_body))))))) rfl (by kernel_rfl) (WG rfl rfl (congrArg Bool.not hb163)) (r_pT rfl hb164 rfl) rfl ?_
                      refine q_p 19 (panic_then (panic_then (panic_block (panic_then (panic_then (panic_block (panic_then panic_body))))))) rfl (by kernel_rfl) W0 (r_pF rfl (congrArg Bool.not hb163) rfl) rfl ?_
                      refine q_p 20 (panic_then (panic_then (panic_block (panic_then (panic_then (panic_block (panic_then panic_body))))))) rfl (by kernel_rfl) W0 (r_mv rfl) rfl ?_
                      rcases Bool.eq_false_or_eq_true ((Op.bytesLess el152.Name.toList el168.Name.toList) || (el152.Name.toList == el168.Name.toList)) with hb172 | hb172
                      · replace h137 := itT hb172 h137
                        refine q_x 21 (panic_then (panic_then (panic_block (panic_then (panic_then (panic_block (panic_then panic_body))))))) rfl (by kernel_rfl) rfl rfl hb172 rfl ?_
                        refine q_x 22 (panic_then (panic_then (panic_block (panic_then (panic_then (panic_block (panic_then panic_body))))))) rfl (by kernel_rfl) rfl rfl hb172 rfl ?_
                        refine q_x 23 (panic_then (panic_then (panic_block (panic_then (panic_then (panic_block (panic_then panic_body))))))) rfl (by kernel_rfl) rfl rfl hb172 rfl ?_
                        refine q_p 24 (panic_then (panic_then (panic_block (panic_then (panic_then (panic_block (panic_then panic_body))))))) rfl (by kernel_rfl) W0 (r_pT rfl hb172 rfl) rfl ?_
                        refine q_p 25 (panic_then (panic_then (panic_block (panic_then (panic_then (panic_block (panic_then panic_body))))))) rfl (by kernel_rfl) W0 (r_mv rfl) rfl ?_
                        refine q_x 26 (panic_then (panic_then (panic_block (panic_then (panic_then (panic_block (panic_then panic_body))))))) rfl (by kernel_rfl) rfl rfl rfl rfl ?_
                        refine q_x 27 (panic_then (panic_then (panic_block (panic_then (panic_then (panic_block (panic_then panic_body))))))) rfl (by kernel_rfl) rfl rfl rfl rfl ?_
                        refine q_x 28 (panic_then (panic_then (panic_block (panic_then (panic_then (panic_block (panic_then panic_body))))))) rfl (by kernel_rfl) rfl rfl rfl rfl ?_
                        refine q_x 29 (panic_then (panic_then (panic_block (panic_then (panic_then (panic_block (panic_then panic_body))))))) rfl (by kernel_rfl) rfl rfl rfl rfl ?_
                        refine q_x 30 (panic_then (panic_then (panic_block (panic_then (panic_then (panic_block (panic_then panic_body))))))) rfl (by kernel_rfl) rfl rfl rfl rfl ?_
                        refine q_x 31 (panic_then (panic_then (panic_block (panic_then (panic_then (panic_block (panic_then panic_body))))))) rfl (by kernel_rfl) rfl rfl rfl rfl ?_
                        refine q_p 32 (panic_then (panic_then (panic_block (panic_then (panic_then (panic_block (panic_then panic_body))))))) rfl (by kernel_rfl) W0 (r_pT rfl rfl rfl) rfl ?_
                        refine q_p 33 (panic_then (panic_then (panic_block (panic_then (panic_then (panic_block (panic_then panic_body))))))) rfl (by kernel_rfl) W0 (r_mv rfl) rfl ?_
                        refine q_x 34 (panic_then (panic_then (panic_block (panic_then (panic_then (panic_block (panic_then panic_body))))))) rfl (by kernel_rfl) rfl rfl rfl rfl ?_
                        refine q_x 35 (panic_then (panic_then (panic_block (panic_then (panic_then (panic_block (panic_then panic_body))))))) rfl (by kernel_rfl) rfl rfl rfl rfl ?_
                        refine q_x 36 (panic_then (panic_then (panic_block (panic_then (panic_then (panic_block (panic_then panic_body))))))) rfl (by kernel_rfl) rfl rfl rfl rfl ?_
                        refine q_x 37 (panic_then (panic_then (panic_block (panic_then (panic_then (panic_block (panic_then panic_body))))))) rfl (by kernel_rfl) rfl rfl rfl rfl ?_
                        refine q_x 38 (panic_then (panic_then (panic_block (panic_then (panic_then (panic_block (panic_then panic_body))))))) rfl (by kernel_rfl) rfl rfl rfl rfl ?_
                        refine q_p 39 (panic_then (panic_then (panic_block (panic_then (panic_then (panic_block (panic_then panic_body))))))) rfl (by kernel_rfl) W0 (r_pT rfl rfl rfl) rfl ?_
                        refine dz (by kernel_rfl) ?_
                        refine t_then hK158 ?_
                        refine t_T rfl rfl ?_
                        refine t_seq fun K181 hK182 => ?_
                        refine t_region ?_
                        refine c_p (r_as rfl) rfl ?_
                        refine t_nil ?_
                        refine t_then hK182 ?_
                        refine t_ret ?_
                        exact tr (br (tr (tr (br (tr (ret1 rfl (v_t rfl) (t_leave (hQ _ (Option.some.inj h137)) () rfl (fun w Z hA => V0) .nil)))))))
                      · replace h137 := itF hb172 h137
                        refine q_p 21 (panic_then (panic_then (panic_block (panic_then (panic_then (panic_block (panic_then panic_body))))))) rfl (by kernel_rfl) (WG rfl rfl hb172) (r_fa (off' := 2) Tryd.underlying34 rfl ti3 rfl rfl) rfl ?_
                        refine q_s 22 (panic_then (panic_then (panic_block (panic_then (panic_then (panic_block (panic_then panic_body))))))) rfl (by kernel_rfl) (WG rfl rfl hb172) (by kernel_rfl) (fun w H => ⟨bk a0 H, bk a1 H, trivial⟩) (b_ld (fun _ h => h.1) Tryd.underlying3 rfl rfl rfl) rfl ?_
                        refine q_p 23 (panic_then (panic_then (panic_block (panic_then (panic_then (panic_block (panic_then panic_body))))))) rfl (by kernel_rfl) (WG rfl rfl hb172) (r_i rfl rfl rfl) rfl ?_
                        refine q_p 24 (panic_then (panic_then (panic_block (panic_then (panic_then (panic_block (panic_then panic_body))))))) rfl (by kernel_rfl) W0 (r_pF rfl hb172 rfl) rfl ?_
                        refine q_p 25 (panic_then (panic_then (panic_block (panic_then (panic_then (panic_block (panic_then panic_body))))))) rfl (by kernel_rfl) W0 (r_mv rfl) rfl ?_
                        rcases Bool.eq_false_or_eq_true (decide (el152.Safe < 0)) with hb173 | hb173
                        · replace h137 := itT hb173 h137
                          refine q_x 26 (panic_then (panic_then (panic_block (panic_then (panic_then (panic_block (panic_then panic_body))))))) rfl (by kernel_rfl) rfl rfl hb173 rfl ?_
                          refine q_x 27 (panic_then (panic_then (panic_block (panic_then (panic_then (panic_block (panic_then panic_body))))))) rfl (by kernel_rfl) rfl rfl hb173 rfl ?_
                          refine q_x 28 (panic_then (panic_then (panic_block (panic_then (panic_then (panic_block (panic_then panic_body))))))) rfl (by kernel_rfl) rfl rfl hb173 rfl ?_
                          refine q_x 29 (panic_then (panic_then (panic_block (panic_then (panic_then (panic_block (panic_then panic_body))))))) rfl (by kernel_rfl) rfl rfl hb173 rfl ?_
                          refine q_x 30 (panic_then (panic_then (panic_block (panic_then (panic_then (panic_block (panic_then panic_body))))))) rfl (by kernel_rfl) rfl rfl hb173 rfl ?_
                          refine q_x 31 (panic_then (panic_then (panic_block (panic_then (panic_then (panic_block (panic_then panic_body))))))) rfl (by kernel_rfl) rfl rfl hb173 rfl ?_
                          refine q_p 32 (panic_then (panic_then (panic_block (panic_then (panic_then (panic_block (panic_then panic_body))))))) rfl (by kernel_rfl) W0 (r_pT rfl hb173 rfl) rfl ?_
                          refine q_p 33 (panic_then (panic_then (panic_block (panic_then (panic_then (panic_block (panic_then panic_body))))))) rfl (by kernel_rfl) W0 (r_mv rfl) rfl ?_
                          refine q_x 34 (panic_then (panic_then (panic_block (panic_then (panic_then (panic_block (panic_then panic_body))))))) rfl (by kernel_rfl) rfl rfl rfl rfl ?_
                          refine q_x 35 (panic_then (panic_then (panic_block (panic_then (panic_then (panic_block (panic_then panic_body))))))) rfl (by kernel_rfl) rfl rfl rfl rfl ?_
                          refine q_x 36 (panic_then (panic_then (panic_block (panic_then (panic_then (panic_block (panic_then panic_body))))))) rfl (by kernel_rfl) rfl rfl rfl rfl ?_
                          refine q_x 37 (panic_then (panic_then (panic_block (panic_then (panic_then (panic_block (panic_then panic_body))))))) rfl (by kernel_rfl) rfl rfl rfl rfl ?_
                          refine q_x 38 (panic_then (panic_then (panic_block (panic_then (panic_then (panic_block (panic_then panic_body))))))) rfl (by kernel_rfl) rfl rfl rfl rfl ?_
                          refine q_p 39 (panic_then (panic_then (panic_block (panic_then (panic_then (panic_block (panic_then panic_body))))))) rfl (by kernel_rfl) W0 (r_pT rfl rfl rfl) rfl ?_
                          refine dz (by kernel_rfl) ?_
                          refine t_then hK158 ?_
                          refine t_T rfl rfl ?_
                          refine t_seq fun K183 hK184 => ?_
                          refine t_region ?_
                          refine c_p (r_as rfl) rfl ?_
                          refine t_nil ?_
                          refine t_then hK184 ?_
                          refine t_ret ?_
                          exact tr (br (tr (tr (br (tr (ret1 rfl (v_t rfl) (t_leave (hQ _ (Option.some.inj h137)) () rfl (fun w Z hA => V0) .nil)))))))
                        · replace h137 := itF hb173 h137
                          refine q_p 26 (panic_then (panic_then (panic_block (panic_then (panic_then (panic_block (panic_then panic_body))))))) rfl (by kernel_rfl) (WG rfl rfl hb173) (r_fa (off' := 2) Tryd.underlying34 rfl ti3 rfl rfl) rfl ?_
                          refine q_s 27 (panic_then (panic_then (panic_block (panic_then (panic_then (panic_block (panic_then panic_body))))))) rfl (by kernel_rfl) (WG rfl rfl hb173) (by kernel_rfl) (fun w H => ⟨bk a0 H, bk a1 H, trivial⟩) (b_ld (fun _ h => h.1) Tryd.underlying3 rfl rfl rfl) rfl ?_
                          refine q_p 28 (panic_then (panic_then (panic_block (panic_then (panic_then (panic_block (panic_then panic_body))))))) rfl (by kernel_rfl) (WG rfl rfl hb173) (r_fa (off' := 1) Tryd.underlying34 rfl ti22 rfl rfl) rfl ?_
                          refine q_s 29 (panic_then (panic_then (panic_block (panic_then (panic_then (panic_block (panic_then panic_body))))))) rfl (by kernel_rfl) (WG rfl rfl hb173) (by kernel_rfl) (fun w H => ⟨bk a0 H, bk a1 H, trivial⟩) (b_ld (fun _ h => h.1) Tryd.underlying22 rfl rfl rfl) rfl ?_
                          refine t_lenA a2 fun hm174 => ?_
                          refine q_p 30 (panic_then (panic_then (panic_block (panic_then (panic_then (panic_block (panic_then panic_body))))))) rfl (by kernel_rfl) (WG rfl rfl hb173) (r_lnM hm174 Tryd.underlying22 rfl) rfl ?_
                          refine q_p 31 (panic_then (panic_then (panic_block (panic_then (panic_then (panic_block (panic_then panic_body))))))) rfl (by kernel_rfl) (WG rfl rfl hb173) (r_i rfl rfl rfl) rfl ?_
                          refine q_p 32 (panic_then (panic_then (panic_block (panic_then (panic_then (panic_block (panic_then panic_body))))))) rfl (by kernel_rfl) W0 (r_pF rfl hb173 rfl) rfl ?_
                          refine q_p 33 (panic_then (panic_then (panic_block (panic_then (panic_then (panic_block (panic_then panic_body))))))) rfl (by kernel_rfl) W0 (r_mv rfl) rfl ?_
                          rcases Bool.eq_false_or_eq_true (decide (el152.Safe > (el152.Data.length : Int))) with hb175 | hb175
                          · replace h137 := itT hb175 h137
                            refine q_x 34 (panic_then (panic_then (panic_block (panic_then (panic_then (panic_block (panic_then panic_body))))))) rfl (by kernel_rfl) rfl rfl hb175 rfl ?_
                            refine q_x 35 (panic_then (panic_then (panic_block (panic_then (panic_then (panic_block (panic_then panic_body))))))) rfl (by kernel_rfl) rfl rfl hb175 rfl ?_
                            refine q_x 36 (panic_then (panic_then (panic_block (panic_then (panic_then (panic_block (panic_then panic_body))))))) rfl (by kernel_rfl) rfl rfl hb175 rfl ?_
                            refine q_x 37 (panic_then (panic_then (panic_block (panic_then (panic_then (panic_block (panic_then panic_body))))))) rfl (by kernel_rfl) rfl rfl hb175 rfl ?_
                            refine q_x 38 (panic_then (panic_then (panic_block (panic_then (panic_then (panic_block (panic_then panic_body))))))) rfl (by kernel_rfl) rfl rfl hb175 rfl ?_
                            refine q_p 39 (panic_then (panic_then (panic_block (panic_then (panic_then (panic_block (panic_then panic_body))))))) rfl (by kernel_rfl) W0 (r_pT rfl hb175 rfl) rfl ?_
                            refine dz (by kernel_rfl) ?_
                            refine t_then hK158 ?_
                            refine t_T rfl rfl ?_
                            refine t_seq fun K185 hK186 => ?_
                            refine t_region ?_
                            refine c_p (r_as rfl) rfl ?_
                            refine t_nil ?_
                            refine t_then hK186 ?_
                            refine t_ret ?_
                            exact tr (br (tr (tr (br (tr (ret1 rfl (v_t rfl) (t_leave (hQ _ (Option.some.inj h137)) () rfl (fun w Z hA => V0) .nil)))))))
                          · replace h137 := itF hb175 h137
                            refine q_p 34 (panic_then (panic_then (panic_block (panic_then (panic_then (panic_block (panic_then panic_body))))))) rfl (by kernel_rfl) (WG rfl rfl hb175) (r_fa (off' := 1) Tryd.underlying34 rfl ti22 rfl rfl) rfl ?_
                            refine q_s 35 (panic_then (panic_then (panic_block (panic_then (panic_then (panic_block (panic_then panic_body))))))) rfl (by kernel_rfl) (WG rfl rfl hb175) (by kernel_rfl) (fun w H => ⟨bk a0 H, bk a1 H, trivial⟩) (b_ld (fun _ h => h.1) Tryd.underlying22 rfl rfl rfl) rfl ?_
                            refine t_lenA a2 fun hm176 => ?_
                            refine q_p 36 (panic_then (panic_then (panic_block (panic_then (panic_then (panic_block (panic_then panic_body))))))) rfl (by kernel_rfl) (WG rfl rfl hb175) (r_lnM hm176 Tryd.underlying22 rfl) rfl ?_
                            refine q_p 37 (panic_then (panic_then (panic_block (panic_then (panic_then (panic_block (panic_then panic_body))))))) rfl (by kernel_rfl) (WG rfl rfl hb175) (r_mv rfl) rfl ?_
                            refine q_p 38 (panic_then (panic_then (panic_block (panic_then (panic_then (panic_block (panic_then panic_body))))))) rfl (by kernel_rfl) (WG rfl rfl hb175) (r_i rfl rfl rfl) rfl ?_
                            refine q_p 39 (panic_then (panic_then (panic_block (panic_then (panic_then (panic_block (panic_then panic_body))))))) rfl (by kernel_rfl) W0 (r_pF rfl hb175 rfl) rfl ?_
                            refine dz (by kernel_rfl) ?_
                            refine t_then hK158 ?_
                            rcases Bool.eq_false_or_eq_true (decide ((el152.Data.length : Int) > x134)) with hb193 | hb193
                            · replace h137 := itT hb193 h137
                              refine t_T rfl hb193 ?_
                              refine t_seq fun K194 hK195 => ?_
                              refine t_region ?_
                              refine c_p (r_as rfl) rfl ?_
                              refine t_nil ?_
                              refine t_then hK195 ?_
                              refine t_ret ?_
                              exact tr (br (tr (tr (br (tr (ret1 rfl (v_t rfl) (t_leave (hQ _ (Option.some.inj h137)) () rfl (fun w Z hA => V0) .nil)))))))
                            · replace h137 := itF hb193 h137
                              refine t_F rfl hb193 ?_
                              refine t_skip ?_
                              refine t_then hK156 ?_
                              refine t_region ?_
                              refine c_p (r_mv rfl) rfl ?_
                              refine c_p (r_fa (off' := 1) Tryd.underlying34 rfl ti22 rfl rfl) rfl ?_
                              refine c_s (r_ld a0 Tryd.underlying22 rfl rfl rfl) rfl ?_
                              refine c_s (r_lnA a2 Tryd.underlying22 rfl) rfl ?_
                              refine c_p (r_i rfl rfl rfl) rfl ?_
                              refine c_p (r_as rfl) rfl ?_
                              refine t_nil ?_
                              refine t_blockN ?_
                              refine t_then hK146 ?_
                              refine t_region ?_
                              refine c_p (r_i rfl rfl rfl) rfl ?_
                              refine c_p (r_mv rfl) rfl ?_
                              refine t_nil ?_
                              exact t_norm (t_go (ih139 (IntKind.wrap .i64 (x134 - (el152.Data.length : Int))) (IntKind.wrap .i64 (x135 + 1)) h137) ⟨rfl, rfl, rfl, rfl, rfl, trivial⟩ (.cons e1 .nil) (fun w Z hA => V1 a4 hA (V1 a5 hA (V0))))
                    · replace h137 := itF hb164 h137
                      refine q_x 8 (panic_then (panic_then (panic_block (panic_then (panic_then (panic_block (panic_then panic_body))))))) rfl (by kernel_rfl) rfl rfl hb164 rfl ?_
                      refine q_x 9 (panic_then (panic_then (panic_block (panic_then (panic_then (panic_block (panic_then panic_body))))))) rfl (by kernel_rfl) rfl rfl hb164 rfl ?_
                      refine q_x 10 (panic_then (panic_then (panic_block (panic_then (panic_then (panic_block (panic_then panic_body))))))) rfl (by kernel_rfl) rfl rfl hb164 rfl ?_
                      refine q_x 11 (panic_then (panic_then (panic_block (panic_then (panic_then (panic_block (panic_then panic_body))))))) rfl (by kernel_rfl) rfl rfl hb164 rfl ?_
                      refine q_x 12 (panic_then (panic_then (panic_block (panic_then (panic_then (panic_block (panic_then panic_body))))))) rfl (by kernel_rfl) rfl rfl hb164 rfl ?_
                      refine q_x 13 (panic_then (panic_then (panic_block (panic_then (panic_then (panic_block (panic_then panic_body))))))) rfl (by kernel_rfl) rfl rfl hb164 rfl ?_
                      refine q_x 14 (panic_then (panic_then (panic_block (panic_then (panic_then (panic_block (panic_then panic_body))))))) rfl (by kernel_rfl) rfl rfl hb164 rfl ?_
                      refine q_x 15 (panic_then (panic_then (panic_block (panic_then (panic_then (panic_block (panic_then panic_body))))))) rfl (by kernel_rfl) rfl rfl hb164 rfl ?_
                      refine d1 16 rfl (by kernel_rfl) (by kernel_rfl) ?_
                      refine pass rfl rfl hb164 rfl ?_
                      refine dk (fun w H => ⟨bk a0 H, bk a1 H, trivial⟩) ?_
                      refine q_x 17 (panic_then (panic_then (panic_block (panic_then (panic_then (panic_block (panic_then panic_body))))))) rfl (by kernel_rfl) rfl rfl hb164 rfl ?_
                      refine q_p 18 (panic_then (panic_then (panic_block (panic_then (panic_then (panic_block (panic_then panic_body))))))) rfl (by kernel_rfl) (WG rfl rfl (congrArg Bool.not hb163)) (r_pF rfl hb164 rfl) rfl ?_
                      refine q_p 19 (panic_then (panic_then (panic_block (panic_then (panic_then (panic_block (panic_then panic_body))))))) rfl (by kernel_rfl) W0 (r_pF rfl (congrArg Bool.not hb163) rfl) rfl ?_
                      refine q_p 20 (panic_then (panic_then (panic_block (panic_then (panic_then (panic_block (panic_then panic_body))))))) rfl (by kernel_rfl) W0 (r_mv rfl) rfl ?_
                      refine q_p 21 (panic_then (panic_then (panic_block (panic_then (panic_then (panic_block (panic_then panic_body))))))) rfl (by kernel_rfl) (WG rfl rfl rfl) (r_fa (off' := 2) Tryd.underlying34 rfl ti3 rfl rfl) rfl ?_
                      refine q_s 22 (panic_then (panic_then (panic_block (panic_then (panic_then (panic_block (panic_then panic_body))))))) rfl (by kernel_rfl) (WG rfl rfl rfl) (by kernel_rfl) (fun w H => ⟨bk a0 H, bk a1 H, trivial⟩) (b_ld (fun _ h => h.1) Tryd.underlying3 rfl rfl rfl) rfl ?_
                      refine q_p 23 (panic_then (panic_then (panic_block (panic_then (panic_then (panic_block (panic_then panic_body))))))) rfl (by kernel_rfl) (WG rfl rfl rfl) (r_i rfl rfl rfl) rfl ?_
                      refine q_p 24 (panic_then (panic_then (panic_block (panic_then (panic_then (panic_block (panic_then panic_body))))))) rfl (by kernel_rfl) W0 (r_pF rfl rfl rfl) rfl ?_
                      refine q_p 25 (panic_then (panic_then (panic_block (panic_then (panic_then (panic_block (panic_then panic_body))))))) rfl (by kernel_rfl) W0 (r_mv rfl) rfl ?_
                      rcases Bool.eq_false_or_eq_true (decide (el152.Safe < 0)) with hb177 | hb177
                      · replace h137 := itT hb177 h137
                        refine q_x 26 (panic_then (panic_then (panic_block (panic_then (panic_then (panic_block (panic_then panic_body))))))) rfl (by kernel_rfl) rfl rfl hb177 rfl ?_
                        refine q_x 27 (panic_then (panic_then (panic_block (panic_then (panic_then (panic_block (panic_then panic_body))))))) rfl (by kernel_rfl) rfl rfl hb177 rfl ?_
                        refine q_x 28 (panic_then (panic_then (panic_block (panic_then (panic_then (panic_block (panic_then panic_body))))))) rfl (by kernel_rfl) rfl rfl hb177 rfl ?_
                        refine q_x 29 (panic_then (panic_then (panic_block (panic_then (panic_then (panic_block (panic_then panic_body))))))) rfl (by kernel_rfl) rfl rfl hb177 rfl ?_
                        refine q_x 30 (panic_then (panic_then (panic_block (panic_then (panic_then (panic_block (panic_then panic_body))))))) rfl (by kernel_rfl) rfl rfl hb177 rfl ?_
                        refine q_x 31 (panic_then (panic_then (panic_block (panic_then (panic_then (panic_block (panic_then panic_body))))))) rfl (by kernel_rfl) rfl rfl hb177 rfl ?_
                        refine q_p 32 (panic_then (panic_then (panic_block (panic_then (panic_then (panic_block (panic_then panic_body))))))) rfl (by kernel_rfl) W0 (r_pT rfl hb177 rfl) rfl ?_
                        refine q_p 33 (panic_then (panic_then (panic_block (panic_then (panic_then (panic_block (panic_then panic_body))))))) rfl (by kernel_rfl) W0 (r_mv rfl) rfl ?_
                        refine q_x 34 (panic_then (panic_then (panic_block (panic_then (panic_then (panic_block (panic_then panic_body))))))) rfl (by kernel_rfl) rfl rfl rfl rfl ?_
                        refine q_x 35 (panic_then (panic_then (panic_block (panic_then (panic_then (panic_block (panic_then panic_body))))))) rfl (by kernel_rfl) rfl rfl rfl rfl ?_
                        refine q_x 36 (panic_then (panic_then (panic_block (panic_then (panic_then (panic_block (panic_then panic_body))))))) rfl (by kernel_rfl) rfl rfl rfl rfl ?_
                        refine q_x 37 (panic_then (panic_then (panic_block (panic_then (panic_then (panic_block (panic_then panic_body))))))) rfl (by kernel_rfl) rfl rfl rfl rfl ?_
                        refine q_x 38 (panic_then (panic_then (panic_block (panic_then (panic_then (panic_block (panic_then panic_body))))))) rfl (by kernel_rfl) rfl rfl rfl rfl ?_
                        refine q_p 39 (panic_then (panic_then (panic_block (panic_then (panic_then (panic_block (panic_then panic_body))))))) rfl (by kernel_rfl) W0 (r_pT rfl rfl rfl) rfl ?_
                        refine dz (by kernel_rfl) ?_
                        refine t_then hK158 ?_
                        refine t_T rfl rfl ?_
                        refine t_seq fun K187 hK188 => ?_
                        refine t_region ?_
                        refine c_p (r_as rfl) rfl ?_
                        refine t_nil ?_
                        refine t_then hK188 ?_
                        refine t_ret ?_
                        exact tr (br (tr (tr (br (tr (ret1 rfl (v_t rfl) (t_leave (hQ _ (Option.some.inj h137)) () rfl (fun w Z hA => V0) .nil)))))))
                      · replace h137 := itF hb177 h137
                        refine q_p 26 (panic_then (panic_then (panic_block (panic_then (panic_then (panic_block (panic_then panic_body))))))) rfl (by kernel_rfl) (WG rfl rfl hb177) (r_fa (off' := 2) Tryd.underlying34 rfl ti3 rfl rfl) rfl ?_
                        refine q_s 27 (panic_then (panic_then (panic_block (panic_then (panic_then (panic_block (panic_then panic_body))))))) rfl (by kernel_rfl) (WG rfl rfl hb177) (by kernel_rfl) (fun w H => ⟨bk a0 H, bk a1 H, trivial⟩) (b_ld (fun _ h => h.1) Tryd.underlying3 rfl rfl rfl) rfl ?_
                        refine q_p 28 (panic_then (panic_then (panic_block (panic_then (panic_then (panic_block (panic_then panic_body))))))) rfl (by kernel_rfl) (WG rfl rfl hb177) (r_fa (off' := 1) Tryd.underlying34 rfl ti22 rfl rfl) rfl ?_
                        refine q_s 29 (panic_then (panic_then (panic_block (panic_then (panic_then (panic_block (panic_then panic_body))))))) rfl (by kernel_rfl) (WG rfl rfl hb177) (by kernel_rfl) (fun w H => ⟨bk a0 H, bk a1 H, trivial⟩) (b_ld (fun _ h => h.1) Tryd.underlying22 rfl rfl rfl) rfl ?_
                        refine t_lenA a0 fun hm178 => ?_
                        refine q_p 30 (panic_then (panic_then (panic_block (panic_then (panic_then (panic_block (panic_then panic_body))))))) rfl (by kernel_rfl) (WG rfl rfl hb177) (r_lnM hm178 Tryd.underlying22 rfl) rfl ?_
                        refine q_p 31 (panic_then (panic_then (panic_block (panic_then (panic_then (panic_block (panic_then panic_body))))))) rfl (by kernel_rfl) (WG rfl rfl hb177) (r_i rfl rfl rfl) rfl ?_
                        refine q_p 32 (panic_then (panic_then (panic_block (panic_then (panic_then (panic_block (panic_then panic_body))))))) rfl (by kernel_rfl) W0 (r_pF rfl hb177 rfl) rfl ?_
                        refine q_p 33 (panic_then (panic_then (panic_block (panic_then (panic_then (panic_block (panic_then panic_body))))))) rfl (by kernel_rfl) W0 (r_mv rfl) rfl ?_
                        rcases Bool.eq_false_or_eq_true (decide (el152.Safe > (el152.Data.length : Int))) with hb179 | hb179
                        · replace h137 := itT hb179 h137
                          refine q_x 34 (panic_then (panic_then (panic_block (panic_then (panic_then (panic_block (panic_then panic_body))))))) rfl (by kernel_rfl) rfl rfl hb179 rfl ?_
                          refine q_x 35 (panic_then (panic_then (panic_block (panic_then (panic_then (panic_block (panic_then panic_body))))))) rfl (by kernel_rfl) rfl rfl hb179 rfl ?_
                          refine q_x 36 (panic_then (panic_then (panic_block (panic_then (panic_then (panic_block (panic_then panic_body))))))) rfl (by kernel_rfl) rfl rfl hb179 rfl ?_
                          refine q_x 37 (panic_then (panic_then (panic_block (panic_then (panic_then (panic_block (panic_then panic_body))))))) rfl (by kernel_rfl) rfl rfl hb179 rfl ?_
                          refine q_x 38 (panic_then (panic_then (panic_block (panic_then (panic_then (panic_block (panic_then panic_body))))))) rfl (by kernel_rfl) rfl rfl hb179 rfl ?_
                          refine q_p 39 (panic_then (panic_then (panic_block (panic_then (panic_then (panic_block (panic_then panic_body))))))) rfl (by kernel_rfl) W0 (r_pT rfl hb179 rfl) rfl ?_
                          refine dz (by kernel_rfl) ?_
                          refine t_then hK158 ?_
                          refine t_T rfl rfl ?_
                          refine t_seq fun K189 hK190 => ?_
                          refine t_region ?_
                          refine c_p (r_as rfl) rfl ?_
                          refine t_nil ?_
                          refine t_then hK190 ?_
                          refine t_ret ?_
                          exact tr (br (tr (tr (br (tr (ret1 rfl (v_t rfl) (t_leave (hQ _ (Option.some.inj h137)) () rfl (fun w Z hA => V0) .nil)))))))
                        · replace h137 := itF hb179 h137
                          refine q_p 34 (panic_then (panic_then (panic_block (panic_then (panic_then (panic_block (panic_then panic_body))))))) rfl (by kernel_rfl) (WG rfl rfl hb179) (r_fa (off' := 1) Tryd.underlying34 rfl ti22 rfl rfl) rfl ?_
                          refine q_s 35 (panic_then (panic_then (panic_block (panic_then (panic_then (panic_block (panic_then panic_body))))))) rfl (by kernel_rfl) (WG rfl rfl hb179) (by kernel_rfl) (fun w H => ⟨bk a0 H, bk a1 H, trivial⟩) (b_ld (fun _ h => h.1) Tryd.underlying22 rfl rfl rfl) rfl ?_
                          refine t_lenA a0 fun hm180 => ?_
                          refine q_p 36 (panic_then (panic_then (panic_block (panic_then (panic_then (panic_block (panic_then panic_body))))))) rfl (by kernel_rfl) (WG rfl rfl hb179) (r_lnM hm180 Tryd.underlying22 rfl) rfl ?_
                          refine q_p 37 (panic_then (panic_then (panic_block (panic_then (panic_then (panic_block (panic_then panic_body))))))) rfl (by kernel_rfl) (WG rfl rfl hb179) (r_mv rfl) rfl ?_
                          refine q_p 38 (panic_then (panic_then (panic_block (panic_then (panic_then (panic_block (panic_then panic_body))))))) rfl (by kernel_rfl) (WG rfl rfl hb179) (r_i rfl rfl rfl) rfl ?_
                          refine q_p 39 (panic_then (panic_then (panic_block (panic_then (panic_then (panic_block (panic_then panic_body))))))) rfl (by kernel_rfl) W0 (r_pF rfl hb179 rfl) rfl ?_
                          refine dz (by kernel_rfl) ?_
                          refine t_then hK158 ?_
                          rcases Bool.eq_false_or_eq_true (decide ((el152.Data.length : Int) > x134)) with hb196 | hb196
                          · replace h137 := itT hb196 h137
                            refine t_T rfl hb196 ?_
                            refine t_seq fun K197 hK198 => ?_
                            refine t_region ?_
                            refine c_p (r_as rfl) rfl ?_
                            refine t_nil ?_
                            refine t_then hK198 ?_
                            refine t_ret ?_
                            exact tr (br (tr (tr (br (tr (ret1 rfl (v_t rfl) (t_leave (hQ _ (Option.some.inj h137)) () rfl (fun w Z hA => V0) .nil)))))))
                          · replace h137 := itF hb196 h137
                            refine t_F rfl hb196 ?_
                            refine t_skip ?_
                            refine t_then hK156 ?_
                            refine t_region ?_
                            refine c_p (r_mv rfl) rfl ?_
                            refine c_p (r_fa (off' := 1) Tryd.underlying34 rfl ti22 rfl rfl) rfl ?_
                            refine c_s (r_ld a0 Tryd.underlying22 rfl rfl rfl) rfl ?_
                            refine c_s (r_lnA a0 Tryd.underlying22 rfl) rfl ?_
                            refine c_p (r_i rfl rfl rfl) rfl ?_
                            refine c_p (r_as rfl) rfl ?_
                            refine t_nil ?_
                            refine t_blockN ?_
                            refine t_then hK146 ?_
                            refine t_region ?_
                            refine c_p (r_i rfl rfl rfl) rfl ?_
                            refine c_p (r_mv rfl) rfl ?_
                            refine t_nil ?_
                            exact t_norm (t_go (ih139 (IntKind.wrap .i64 (x134 - (el152.Data.length : Int))) (IntKind.wrap .i64 (x135 + 1)) h137) ⟨rfl, rfl, rfl, rfl, rfl, trivial⟩ (.cons e1 .nil) (fun w Z hA => V1 a2 hA (V1 a3 hA (V0))))
                  · replace h137 := itF hb163 h137
                    refine q_x 5 (panic_then (panic_then (panic_block (panic_then (panic_then (panic_block (panic_then panic_body))))))) rfl (by kernel_rfl) rfl rfl (congrArg Bool.not hb163) rfl ?_
                    refine q_x 6 (panic_then (panic_then (panic_block (panic_then (panic_then (panic_block (panic_then panic_body))))))) rfl (by kernel_rfl) rfl rfl (congrArg Bool.not hb163) rfl ?_
                    refine q_x 7 (panic_then (panic_then (panic_block (panic_then (panic_then (panic_block (panic_then panic_body))))))) rfl (by kernel_rfl) rfl rfl (congrArg Bool.not hb163) rfl ?_
                    refine q_xU 8 (panic_then (panic_then (panic_block (panic_then (panic_then (panic_block (panic_then panic_body))))))) rfl (by kernel_rfl) rfl rfl rfl ?_
                    refine q_xU 9 (panic_then (panic_then (panic_block (panic_then (panic_then (panic_block (panic_then panic_body))))))) rfl (by kernel_rfl) rfl rfl rfl ?_
                    refine q_xU 10 (panic_then (panic_then (panic_block (panic_then (panic_then (panic_block (panic_then panic_body))))))) rfl (by kernel_rfl) rfl rfl rfl ?_
                    refine q_xU 11 (panic_then (panic_then (panic_block (panic_then (panic_then (panic_block (panic_then panic_body))))))) rfl (by kernel_rfl) rfl rfl rfl ?_
                    refine q_xU 12 (panic_then (panic_then (panic_block (panic_then (panic_then (panic_block (panic_then panic_body))))))) rfl (by kernel_rfl) rfl rfl rfl ?_
                    refine q_xU 13 (panic_then (panic_then (panic_block (panic_then (panic_then (panic_block (panic_then panic_body))))))) rfl (by kernel_rfl) rfl rfl rfl ?_
                    refine q_xU 14 (panic_then (panic_then (panic_block (panic_then (panic_then (panic_block (panic_then panic_body))))))) rfl (by kernel_rfl) rfl rfl rfl ?_
                    refine q_xU 15 (panic_then (panic_then (panic_block (panic_then (panic_then (panic_block (panic_then panic_body))))))) rfl (by kernel_rfl) rfl rfl rfl ?_
                    refine d1 16 rfl (by kernel_rfl) (by kernel_rfl) ?_
                    refine passU rfl rfl rfl ?_
                    refine dk (fun w H => ⟨bk a0 H, bk a1 H, trivial⟩) ?_
                    refine q_xU 17 (panic_then (panic_then (panic_block (panic_then (panic_then (panic_block (panic_then panic_body))))))) rfl (by kernel_rfl) rfl rfl rfl ?_
                    refine q_x 18 (panic_then (panic_then (panic_block (panic_then (panic_then (panic_block (panic_then panic_body))))))) rfl (by kernel_rfl) rfl rfl (congrArg Bool.not hb163) rfl ?_
                    refine q_p 19 (panic_then (panic_then (panic_block (panic_then (panic_then (panic_block (panic_then panic_body))))))) rfl (by kernel_rfl) W0 (r_pT rfl (congrArg Bool.not hb163) rfl) rfl ?_
                    refine q_p 20 (panic_then (panic_then (panic_block (panic_then (panic_then (panic_block (panic_then panic_body))))))) rfl (by kernel_rfl) W0 (r_mv rfl) rfl ?_
                    refine q_x 21 (panic_then (panic_then (panic_block (panic_then (panic_then (panic_block (panic_then panic_body))))))) rfl (by kernel_rfl) rfl rfl rfl rfl ?_
                    refine q_x 22 (panic_then (panic_then (panic_block (panic_then (panic_then (panic_block (panic_then panic_body))))))) rfl (by kernel_rfl) rfl rfl rfl rfl ?_
                    refine q_x 23 (panic_then (panic_then (panic_block (panic_then (panic_then (panic_block (panic_then panic_body))))))) rfl (by kernel_rfl) rfl rfl rfl rfl ?_
                    refine q_p 24 (panic_then (panic_then (panic_block (panic_then (panic_then (panic_block (panic_then panic_body))))))) rfl (by kernel_rfl) W0 (r_pT rfl rfl rfl) rfl ?_
                    refine q_p 25 (panic_then (panic_then (panic_block (panic_then (panic_then (panic_block (panic_then panic_body))))))) rfl (by kernel_rfl) W0 (r_mv rfl) rfl ?_
                    refine q_x 26 (panic_then (panic_then (panic_block (panic_then (panic_then (panic_block (panic_then panic_body))))))) rfl (by kernel_rfl) rfl rfl rfl rfl ?_
                    refine q_x 27 (panic_then (panic_then (panic_block (panic_then (panic_then (panic_block (panic_then panic_body))))))) rfl (by kernel_rfl) rfl rfl rfl rfl ?_
                    refine q_x 28 (panic_then (panic_then (panic_block (panic_then (panic_then (panic_block (panic_then panic_body))))))) rfl (by kernel_rfl) rfl rfl rfl rfl ?_
                    refine q_x 29 (panic_then (panic_then (panic_block (panic_then (panic_then (panic_block (panic_then panic_body))))))) rfl (by kernel_rfl) rfl rfl rfl rfl ?_
                    refine q_x 30 (panic_then (panic_then (panic_block (panic_then (panic_then (panic_block (panic_then panic_body))))))) rfl (by kernel_rfl) rfl rfl rfl rfl ?_
                    refine q_x 31 (panic_then (panic_then (panic_block (panic_then (panic_then (panic_block (panic_then panic_body))))))) rfl (by kernel_rfl) rfl rfl rfl rfl ?_
                    refine q_p 32 (panic_then (panic_then (panic_block (panic_then (panic_then (panic_block (panic_then panic_body))))))) rfl (by kernel_rfl) W0 (r_pT rfl rfl rfl) rfl ?_
                    refine q_p 33 (panic_then (panic_then (panic_block (panic_then (panic_then (panic_block (panic_then panic_body))))))) rfl (by kernel_rfl) W0 (r_mv rfl) rfl ?_
                    refine q_x 34 (panic_then (panic_then (panic_block (panic_then (panic_then (panic_block (panic_then panic_body))))))) rfl (by kernel_rfl) rfl rfl rfl rfl ?_
                    refine q_x 35 (panic_then (panic_then (panic_block (panic_then (panic_then (panic_block (panic_then panic_body))))))) rfl (by kernel_rfl) rfl rfl rfl rfl ?_
                    refine q_x 36 (panic_then (panic_then (panic_block (panic_then (panic_then (panic_block (panic_then panic_body))))))) rfl (by kernel_rfl) rfl rfl rfl rfl ?_
                    refine q_x 37 (panic_then (panic_then (panic_block (panic_then (panic_then (panic_block (panic_then panic_body))))))) rfl (by kernel_rfl) rfl rfl rfl rfl ?_
                    refine q_x 38 (panic_then (panic_then (panic_block (panic_then (panic_then (panic_block (panic_then panic_body))))))) rfl (by kernel_rfl) rfl rfl rfl rfl ?_
                    refine q_p 39 (panic_then (panic_then (panic_block (panic_then (panic_then (panic_block (panic_then panic_body))))))) rfl (by kernel_rfl) W0 (r_pT rfl rfl rfl) rfl ?_
                    refine dz (by kernel_rfl) ?_
                    refine t_then hK158 ?_
                    refine t_T rfl rfl ?_
                    refine t_seq fun K191 hK192 => ?_
                    refine t_region ?_
                    refine c_p (r_as rfl) rfl ?_
                    refine t_nil ?_
                    refine t_then hK192 ?_
                    refine t_ret ?_
                    exact tr (br (tr (tr (br (tr (ret1 rfl (v_t rfl) (t_leave (hQ _ (Option.some.inj h137)) () rfl (fun w Z hA => V0) .nil)))))))
                · replace h137 := itF hb144 h137
                  refine t_F rfl hb144 ?_
                  refine t_exit ?_
                  refine te (te (bx ?_))
                  refine t_then hK29 ?_
                  refine t_seq fun K199 hK200 => ?_
                  refine t_region ?_
                  refine c_p (r_as rfl) rfl ?_
                  refine t_nil ?_
                  refine t_then hK200 ?_
                  refine t_ret ?_
                  exact ret1 rfl (v_t rfl) (t_leave (hQ _ (Option.some.inj h137)) () rfl (fun w Z hA => V0) .nil)
            exact t_go (LP136 ((((z0.Files.length : Int) : Int) - (0)).toNat + 1) z0.Room 0 h) ⟨rfl, rfl, rfl, rfl, rfl, trivial⟩ (.cons e0 .nil) (fun w Z hA => V1 a0 hA (V1 a1 hA (V0)))
end Go.Proofs.YtkjeedijloobgaaDoor.Gx

/- Function 44, kaudit/kauditref24.begin: what it answers as a plain function, and that the Go code comes to exactly that (where the plain function gives an answer). -/
set_option linter.unusedVariables false
set_option linter.unusedSimpArgs false
namespace Go.Proofs.YtkjeedijloobgaaDoor.Gx
open Go.Gx Go.RowKit
/-! ### kaudit/kauditref24.begin: function 44 -/
def f_kauditref24_begin (z0 : api_Disk) (z1 : ByteArray) (z2 : ByteArray) : Option (api_Disk × Int) := (f_kauditref24_Valid z0).bind fun y12 => if y12 = true then (if z0.Off = true then ((f_kauditref24_Copy z0).bind fun y20 => some (y20, 242)) else ((f_kauditref24_name z1).bind fun y24 => if y24 = true then ((f_kauditref24_name z2).bind fun y27 => if y27 = true then (some ((⟨0, ([] : List api_DiskFile), false, 0⟩ : api_Disk), 0)) else (some ((⟨0, ([] : List api_DiskFile), false, 0⟩ : api_Disk), 243))) else (some ((⟨0, ([] : List api_DiskFile), false, 0⟩ : api_Disk), 243)))) else (some ((⟨0, ([] : List api_DiskFile), false, 0⟩ : api_Disk), 241))
set_option maxHeartbeats 4000000 in
set_option maxRecDepth 100000 in
theorem C44 (z0 : api_Disk) (z1 : ByteArray) (z2 : ByteArray) (p1 : Option Addr) (m2 : Nat) (c3 : Nat) (r : api_Disk × Int) (h : f_kauditref24_begin z0 z1 z2 = some r) : FunG Tryd.prog 44 #[.agg #[.int .i64 z0.Room, .slice p1 m2 c3, .bool z0.Off, .int .i64 z0.Plan], .string z1, .string z2] [vw (kSlice 34 k_api_DiskFile) z0.Files [.slice p1 m2 c3], g_names] [] (fun t : (Option Addr × Nat × Nat) => .tuple #[.agg #[.int .i64 r.1.Room, .slice t.1 t.2.1 t.2.2, .bool r.1.Off, .int .i64 r.1.Plan], .int .i64 r.2]) (fun t => []) (fun t => [[row 34 k_api_DiskFile r.1.Files (.slice t.1 t.2.1 t.2.2)]]) := by
  unfold f_kauditref24_begin at h
  refine t_begin (args := [.agg #[.int .i64 z0.Room, .slice p1 m2 c3, .bool z0.Off, .int .i64 z0.Plan], .string z1, .string z2]) Tryd.func44 rfl Tryd.ntmps44 rfl fun c R hR => ?_
  have hQ : ∀ X, X = r → ∀ w2 (t : (Option Addr × Nat × Nat)), PostG c.w0 w2 c.M c.Y [] [[row 34 k_api_DiskFile X.1.Files (.slice t.1 t.2.1 t.2.2)]] → R (.returned (.tuple #[.agg #[.int .i64 X.1.Room, .slice t.1 t.2.1 t.2.2, .bool X.1.Off, .int .i64 X.1.Plan], .int .i64 X.2])) w2 := fun X e => by subst e; exact hR
  refine t_seq fun K4 hK5 => ?_
  refine t_region ?_
  refine nx (t_bx (cs := [.int .i64 z0.Room, .slice p1 m2 c3, .bool z0.Off, .int .i64 z0.Plan]) rfl rfl rfl fun g6 => ?_)
  refine nx (t_al (cs := [.int .i64 0, .slice none 0 0, .bool false, .int .i64 0]) ti27 rfl rfl fun g7 => ?_)
  refine c_p (r_as rfl) rfl ?_
  refine t_nil ?_
  refine t_then hK5 ?_
  refine t_seq fun K8 hK9 => ?_
  refine t_block ?_
  refine t_seq fun K10 hK11 => ?_
  refine t_region ?_
  refine c_s (r_ldA a1 Tryd.underlying27 rfl ti27 rfl rfl) rfl ?_
  obtain ⟨y12, hy12, h⟩ := bs h
  refine nx (t_ca (C62 _ _ _ _ _ hy12) Tryd.func62 nm62 rfl rfl rfl .nil (fun w Z hA => (V1 a0 hA (V1 a1 hA V0))) rfl fun t13 => ?_)
  refine c_p (r_not rfl) rfl ?_
  refine c_p (r_as rfl) rfl ?_
  refine t_nil ?_
  refine t_then hK11 ?_
  rcases Bool.eq_false_or_eq_true y12 with hb14 | hb14
  · replace h := itT hb14 h
    refine t_F rfl (congrArg Bool.not hb14) ?_
    refine t_seq fun K15 hK16 => ?_
    refine t_region ?_
    refine c_p (r_fa (off' := 2) Tryd.underlying27 rfl ti4 rfl rfl) rfl ?_
    refine c_s (r_ld a1 Tryd.underlying4 rfl rfl rfl) rfl ?_
    refine c_p (r_as rfl) rfl ?_
    refine t_nil ?_
    refine t_then hK16 ?_
    rcases Bool.eq_false_or_eq_true z0.Off with hb17 | hb17
    · replace h := itT hb17 h
      refine t_T rfl hb17 ?_
      refine t_seq fun K18 hK19 => ?_
      refine t_region ?_
      refine c_s (r_ldA a1 Tryd.underlying27 rfl ti27 rfl rfl) rfl ?_
      obtain ⟨y20, hy20, h⟩ := bs h
      refine nx (t_ca (C47 _ _ _ _ _ hy20) Tryd.func47 nm47 rfl rfl rfl .nil (fun w Z hA => (V1 a0 hA (V1 a1 hA V0))) rfl fun t21 => ?_)
      refine nx (t_st u1 ti27 rfl rfl rfl rfl rfl (.t (.s (.s (.s (.s .z))))) ?_)
      refine c_p (r_as rfl) rfl ?_
      refine t_nil ?_
      refine t_then hK19 ?_
      refine t_ret ?_
      exact br (tr (ret2 rfl (v_N rfl a1 Tryd.underlying27 rfl ti27 rfl) (v_t rfl) (t_leave (hQ _ (Option.some.inj h)) (t21.1, t21.2.1, t21.2.2) rfl (fun w Z hA => V0) (.cons e0 .nil))))
    · replace h := itF hb17 h
      refine t_F rfl hb17 ?_
      refine t_seq fun K22 hK23 => ?_
      refine t_region ?_
      refine c_p (r_mv rfl) rfl ?_
      obtain ⟨y24, hy24, h⟩ := bs h
      refine nx (t_ca (C66 _ _ hy24) Tryd.func66 nm66 rfl rfl rfl .nil (fun w Z hA => (V1 a1 hA V0)) rfl fun t25 => ?_)
      refine c_p (r_not rfl) rfl ?_
      refine c_p (r_mv rfl) rfl ?_
      rcases Bool.eq_false_or_eq_true y24 with hb26 | hb26
      · replace h := itT hb26 h
        refine nx (gd rfl rfl (congrArg Bool.not hb26) (sp (r_mv rfl) rfl ?_))
        obtain ⟨y27, hy27, h⟩ := bs h
        refine nx (gd rfl rfl (congrArg Bool.not hb26) (t_ca (C66 _ _ hy27) Tryd.func66 nm66 rfl rfl rfl .nil (fun w Z hA => (V1 a1 hA V0)) rfl fun t28 => ?_))
        refine nx (gd rfl rfl (congrArg Bool.not hb26) (sp (r_not rfl) rfl ?_))
        refine c_p (r_pF rfl (congrArg Bool.not hb26) rfl) rfl ?_
        refine c_p (r_as rfl) rfl ?_
        refine t_nil ?_
        refine t_then hK23 ?_
        rcases Bool.eq_false_or_eq_true y27 with hb29 | hb29
        · replace h := itT hb29 h
          refine t_F rfl (congrArg Bool.not hb29) ?_
          refine t_skip ?_
          refine t_blockN ?_
          refine t_then hK9 ?_
          refine t_seq fun K36 hK37 => ?_
          refine t_region ?_
          refine c_p (r_bu (ps := []) (cs := [.int .i64 0, .slice none 0 0, .bool false, .int .i64 0]) rfl (by kernel_rfl)) rfl ?_
          refine nx (t_st u0 ti27 rfl rfl rfl rfl rfl (.t (.s (.s (.s (.s .z))))) ?_)
          refine c_p (r_as rfl) rfl ?_
          refine t_nil ?_
          refine t_then hK37 ?_
          refine t_ret ?_
          refine t_nr 34 k_api_DiskFile ?_
          exact ret2 rfl (v_N rfl a1 Tryd.underlying27 rfl ti27 rfl) (v_t rfl) (t_leave (hQ _ (Option.some.inj h)) (none, 0, 0) rfl (fun w Z hA => V0) (.cons e0 .nil))
        · replace h := itF hb29 h
          refine t_T rfl (congrArg Bool.not hb29) ?_
          refine t_seq fun K30 hK31 => ?_
          refine t_region ?_
          refine c_p (r_bu (ps := []) (cs := [.int .i64 0, .slice none 0 0, .bool false, .int .i64 0]) rfl (by kernel_rfl)) rfl ?_
          refine nx (t_st u0 ti27 rfl rfl rfl rfl rfl (.t (.s (.s (.s (.s .z))))) ?_)
          refine c_p (r_as rfl) rfl ?_
          refine t_nil ?_
          refine t_then hK31 ?_
          refine t_ret ?_
          refine t_nr 34 k_api_DiskFile ?_
          exact br (tr (ret2 rfl (v_N rfl a1 Tryd.underlying27 rfl ti27 rfl) (v_t rfl) (t_leave (hQ _ (Option.some.inj h)) (none, 0, 0) rfl (fun w Z hA => V0) (.cons e0 .nil))))
      · replace h := itF hb26 h
        refine nx (pass rfl rfl (congrArg Bool.not hb26) rfl ?_)
        refine nx (pass rfl rfl (congrArg Bool.not hb26) rfl ?_)
        refine nx (pass rfl rfl (congrArg Bool.not hb26) rfl ?_)
        refine c_p (r_pT rfl (congrArg Bool.not hb26) rfl) rfl ?_
        refine c_p (r_as rfl) rfl ?_
        refine t_nil ?_
        refine t_then hK23 ?_
        refine t_T rfl rfl ?_
        refine t_seq fun K32 hK33 => ?_
        refine t_region ?_
        refine c_p (r_bu (ps := []) (cs := [.int .i64 0, .slice none 0 0, .bool false, .int .i64 0]) rfl (by kernel_rfl)) rfl ?_
        refine nx (t_st u0 ti27 rfl rfl rfl rfl rfl (.t (.s (.s (.s (.s .z))))) ?_)
        refine c_p (r_as rfl) rfl ?_
        refine t_nil ?_
        refine t_then hK33 ?_
        refine t_ret ?_
        refine t_nr 34 k_api_DiskFile ?_
        exact br (tr (ret2 rfl (v_N rfl a1 Tryd.underlying27 rfl ti27 rfl) (v_t rfl) (t_leave (hQ _ (Option.some.inj h)) (none, 0, 0) rfl (fun w Z hA => V0) (.cons e0 .nil))))
  · replace h := itF hb14 h
    refine t_T rfl (congrArg Bool.not hb14) ?_
    refine t_seq fun K34 hK35 => ?_
    refine t_region ?_
    refine c_p (r_bu (ps := []) (cs := [.int .i64 0, .slice none 0 0, .bool false, .int .i64 0]) rfl (by kernel_rfl)) rfl ?_
    refine nx (t_st u0 ti27 rfl rfl rfl rfl rfl (.t (.s (.s (.s (.s .z))))) ?_)
    refine c_p (r_as rfl) rfl ?_
    refine t_nil ?_
    refine t_then hK35 ?_
    refine t_ret ?_
    refine t_nr 34 k_api_DiskFile ?_
    exact br (tr (ret2 rfl (v_N rfl a1 Tryd.underlying27 rfl ti27 rfl) (v_t rfl) (t_leave (hQ _ (Option.some.inj h)) (none, 0, 0) rfl (fun w Z hA => V0) (.cons e0 .nil))))
end Go.Proofs.YtkjeedijloobgaaDoor.Gx

/- Function 45, kaudit/kauditref24.find: what it answers as a plain function, and that the Go code comes to exactly that (where the plain function gives an answer). -/
set_option linter.unusedVariables false
set_option linter.unusedSimpArgs false
namespace Go.Proofs.YtkjeedijloobgaaDoor.Gx
open Go.Gx Go.RowKit
/-! ### kaudit/kauditref24.find: function 45 -/
def f_kauditref24_find_l1 (z0 : api_Disk) (z1 : ByteArray) : Nat → Int → Option (Int)
  | 0, _ => none
  | k58 + 1, x55 => if (decide (x55 < (z0.Files.length : Int))) = true then ((at_ z0.Files x55).bind fun el72 => if (el72.Name.toList == z1.toList) = true then (some x55) else (f_kauditref24_find_l1 z0 z1 k58 (IntKind.wrap .i64 (x55 + 1)))) else (some (-1))
def f_kauditref24_find (z0 : api_Disk) (z1 : ByteArray) : Option (Int) := f_kauditref24_find_l1 z0 z1 ((((z0.Files.length : Int) : Int) - (0)).toNat + 1) 0
set_option maxHeartbeats 4000000 in
set_option maxRecDepth 100000 in
theorem C45 (z0 : api_Disk) (z1 : ByteArray) (p1 : Option Addr) (m2 : Nat) (c3 : Nat) (r : Int) (h : f_kauditref24_find z0 z1 = some r) : FunG Tryd.prog 45 #[.agg #[.int .i64 z0.Room, .slice p1 m2 c3, .bool z0.Off, .int .i64 z0.Plan], .string z1] [vw (kSlice 34 k_api_DiskFile) z0.Files [.slice p1 m2 c3], g_names] [] (fun (_ : Unit) => .int .i64 r) (fun _ => []) (fun _ => []) := by
  unfold f_kauditref24_find at h
  refine t_begin (args := [.agg #[.int .i64 z0.Room, .slice p1 m2 c3, .bool z0.Off, .int .i64 z0.Plan], .string z1]) Tryd.func45 rfl Tryd.ntmps45 rfl fun c R hR => ?_
  have hQ : ∀ X, X = r → ∀ w2 (_ : Unit), PostG c.w0 w2 c.M c.Y [] [] → R (.returned (.int .i64 X)) w2 := fun X e => by subst e; exact hR
  refine t_seq fun K4 hK5 => ?_
  refine t_region ?_
  refine nx (t_bx (cs := [.int .i64 z0.Room, .slice p1 m2 c3, .bool z0.Off, .int .i64 z0.Plan]) rfl rfl rfl fun g6 => ?_)
  refine c_p (r_as rfl) rfl ?_
  refine t_nil ?_
  refine t_then hK5 ?_
  refine t_seq fun K7 hK8 => ?_
  refine t_seq fun K9 hK10 => ?_
  refine t_region ?_
  refine c_p (r_fa (off' := 1) Tryd.underlying27 rfl ti25 rfl rfl) rfl ?_
  refine c_s (r_ld a0 Tryd.underlying25 rfl rfl rfl) rfl ?_
  refine c_s (r_lnA a0 Tryd.underlying25 rfl) rfl ?_
  refine c_p (r_mv rfl) rfl ?_
  refine t_nil ?_
  refine t_then hK10 ?_
  refine t_block ?_
  refine t_lp fun k53 hk54 => ?_
  have LP56 : ∀ (k58 : Nat) (x55 : Int), f_kauditref24_find_l1 z0 z1 k58 x55 = some r → T 21 c [vw (kSlice 34 k_api_DiskFile) z0.Files [.slice p1 m2 c3], g_names] [] [(1, .string z1), (8, .slice p1 m2 c3), (9, .int .i64 (z0.Files.length : Int)), (10, .int .i64 x55)] k53 := by
    intro k58
    induction k58 with
    | zero => intro x55 h57; rewrite [f_kauditref24_find_l1] at h57; cases h57
    | succ k58 ih59 =>
      intro x55 h57
      rewrite [f_kauditref24_find_l1] at h57
      refine ti hk54 ?_
      refine t_seq fun K60 hK61 => ?_
      refine t_region ?_
      refine c_p (r_i rfl rfl rfl) rfl ?_
      refine t_nil ?_
      refine t_then hK61 ?_
      refine t_seq fun K62 hK63 => ?_
      rcases Bool.eq_false_or_eq_true (decide (x55 < (z0.Files.length : Int))) with hb64 | hb64
      · replace h57 := itT hb64 h57
        refine t_T rfl hb64 ?_
        refine t_skip ?_
        refine t_then hK63 ?_
        refine t_seq fun K65 hK66 => ?_
        refine t_block ?_
        refine t_seq fun K67 hK68 => ?_
        refine t_region ?_
        refine c_p (r_mv rfl) rfl ?_
        obtain ⟨el72, hel72, h57⟩ := bs h57
        refine t_q a0 hel72 fun q69 hq70 hm71 => ?_
        refine c_p (r_idx hq70 hm71 hel72 Tryd.underlying25 ti34 rfl rfl) rfl ?_
        refine t_op k_api_DiskFile_opens a0 hel72 fun t73 => ?_
        refine c_s (r_eA a1 hq70 Tryd.underlying34 rfl ti34 rfl rfl) rfl ?_
        refine nx (t_al (cs := [.string (⟨#[]⟩ : ByteArray), .slice none 0 0, .int .i64 0]) ti34 rfl rfl fun g74 => ?_)
        refine c_p (r_as rfl) rfl ?_
        refine nx (t_st u0 ti34 rfl rfl rfl rfl rfl (.t (.s (.s (.s .z)))) ?_)
        refine t_nil ?_
        refine t_then hK68 ?_
        refine t_seq fun K75 hK76 => ?_
        refine t_region ?_
        refine c_p (r_fa (off' := 0) Tryd.underlying34 rfl ti9 rfl rfl) rfl ?_
        refine c_s (r_ld a0 Tryd.underlying9 rfl rfl rfl) rfl ?_
        refine c_p (r_mv rfl) rfl ?_
        refine c_p (r_s rfl rfl rfl) rfl ?_
        refine t_nil ?_
        refine t_then hK76 ?_
        rcases Bool.eq_false_or_eq_true (el72.Name.toList == z1.toList) with hb77 | hb77
        · replace h57 := itT hb77 h57
          refine t_T rfl hb77 ?_
          refine t_seq fun K78 hK79 => ?_
          refine t_region ?_
          refine c_p (r_mv rfl) rfl ?_
          refine c_p (r_as rfl) rfl ?_
          refine t_nil ?_
          refine t_then hK79 ?_
          refine t_ret ?_
          exact br (tr (tr (br (tr (ret1 rfl (v_t rfl) (t_leave (hQ _ (Option.some.inj h57)) () rfl (fun w Z hA => V0) .nil))))))
        · replace h57 := itF hb77 h57
          refine t_F rfl hb77 ?_
          refine t_skip ?_
          refine t_blockN ?_
          refine t_then hK66 ?_
          refine t_region ?_
          refine c_p (r_i rfl rfl rfl) rfl ?_
          refine c_p (r_mv rfl) rfl ?_
          refine t_nil ?_
          exact t_norm (t_go (ih59 (IntKind.wrap .i64 (x55 + 1)) h57) ⟨rfl, rfl, rfl, rfl, trivial⟩ .nil (fun w Z hA => V1 a2 hA (V1 a3 hA (V0))))
      · replace h57 := itF hb64 h57
        refine t_F rfl hb64 ?_
        refine t_exit ?_
        refine te (te (bx ?_))
        refine t_then hK8 ?_
        refine t_seq fun K80 hK81 => ?_
        refine t_region ?_
        refine c_p (r_as rfl) rfl ?_
        refine t_nil ?_
        refine t_then hK81 ?_
        refine t_ret ?_
        exact ret1 rfl (v_t rfl) (t_leave (hQ _ (Option.some.inj h57)) () rfl (fun w Z hA => V0) .nil)
  exact t_go (LP56 ((((z0.Files.length : Int) : Int) - (0)).toNat + 1) 0 h) ⟨rfl, rfl, rfl, rfl, trivial⟩ .nil (fun w Z hA => V1 a0 hA (V1 a1 hA (V0)))
end Go.Proofs.YtkjeedijloobgaaDoor.Gx

/- Function 46, kaudit/kauditref24.power: what it answers as a plain function, and that the Go code comes to exactly that (where the plain function gives an answer). -/
set_option linter.unusedVariables false
set_option linter.unusedSimpArgs false
namespace Go.Proofs.YtkjeedijloobgaaDoor.Gx
open Go.Gx Go.RowKit
/-! ### kaudit/kauditref24.power: function 46 -/
def f_kauditref24_power (z0 : api_Disk) : Option (api_Disk × Bool) := if (z0.Plan == 0) = true then (some (z0, false)) else (some ((⟨z0.Room, z0.Files, ((IntKind.wrap .i64 (z0.Plan - 1)) == 0), (IntKind.wrap .i64 (z0.Plan - 1))⟩ : api_Disk), ((IntKind.wrap .i64 (z0.Plan - 1)) == 0)))
set_option maxHeartbeats 4000000 in
set_option maxRecDepth 100000 in
theorem C46 (z0 : api_Disk) (p1 : Option Addr) (m2 : Nat) (c3 : Nat) (r : api_Disk × Bool) (h : f_kauditref24_power z0 = some r) : FunG Tryd.prog 46 #[.agg #[.int .i64 z0.Room, .slice p1 m2 c3, .bool z0.Off, .int .i64 z0.Plan]] [g_names] [[row 34 k_api_DiskFile z0.Files (.slice p1 m2 c3)]] (fun t : (Option Addr × Nat × Nat) => .tuple #[.agg #[.int .i64 r.1.Room, .slice t.1 t.2.1 t.2.2, .bool r.1.Off, .int .i64 r.1.Plan], .bool r.2]) (fun t => []) (fun t => [[row 34 k_api_DiskFile r.1.Files (.slice t.1 t.2.1 t.2.2)]]) := by
  unfold f_kauditref24_power at h
  refine t_begin (args := [.agg #[.int .i64 z0.Room, .slice p1 m2 c3, .bool z0.Off, .int .i64 z0.Plan]]) Tryd.func46 rfl Tryd.ntmps46 rfl fun c R hR => ?_
  have hQ : ∀ X, X = r → ∀ w2 (t : (Option Addr × Nat × Nat)), PostG c.w0 w2 c.M c.Y [] [[row 34 k_api_DiskFile X.1.Files (.slice t.1 t.2.1 t.2.2)]] → R (.returned (.tuple #[.agg #[.int .i64 X.1.Room, .slice t.1 t.2.1 t.2.2, .bool X.1.Off, .int .i64 X.1.Plan], .bool X.2])) w2 := fun X e => by subst e; exact hR
  refine t_seq fun K4 hK5 => ?_
  refine t_region ?_
  refine nx (t_bx (cs := [.int .i64 z0.Room, .slice p1 m2 c3, .bool z0.Off, .int .i64 z0.Plan]) rfl rfl rfl fun g6 => ?_)
  refine nx (t_al (cs := [.int .i64 0, .slice none 0 0, .bool false, .int .i64 0]) ti27 rfl rfl fun g7 => ?_)
  refine c_p (r_as rfl) rfl ?_
  refine t_nil ?_
  refine t_then hK5 ?_
  refine t_seq fun K8 hK9 => ?_
  refine t_seq fun K10 hK11 => ?_
  refine t_region ?_
  refine c_p (r_fa (off' := 3) Tryd.underlying27 rfl ti3 rfl rfl) rfl ?_
  refine c_s (r_ld a1 Tryd.underlying3 rfl rfl rfl) rfl ?_
  refine c_p (r_i rfl rfl rfl) rfl ?_
  refine t_nil ?_
  refine t_then hK11 ?_
  rcases Bool.eq_false_or_eq_true (z0.Plan == 0) with hb12 | hb12
  · replace h := itT hb12 h
    refine t_T rfl hb12 ?_
    refine t_seq fun K13 hK14 => ?_
    refine t_region ?_
    refine c_s (r_ldA a1 Tryd.underlying27 rfl ti27 rfl rfl) rfl ?_
    refine nx (t_st u0 ti27 rfl rfl rfl rfl rfl (.t (.s (.s (.s (.s .z))))) ?_)
    refine c_p (r_as rfl) rfl ?_
    refine t_nil ?_
    refine t_then hK14 ?_
    refine t_ret ?_
    exact tr (ret2 rfl (v_N rfl a0 Tryd.underlying27 rfl ti27 rfl) (v_t rfl) (t_leave (hQ _ (Option.some.inj h)) (p1, m2, c3) rfl (fun w Z hA => V0) (.cons e2 .nil)))
  · replace h := itF hb12 h
    refine t_F rfl hb12 ?_
    refine t_skip ?_
    refine t_then hK9 ?_
    refine t_seq fun K15 hK16 => ?_
    refine t_region ?_
    refine c_p (r_fa (off' := 3) Tryd.underlying27 rfl ti3 rfl rfl) rfl ?_
    refine c_s (r_ld a1 Tryd.underlying3 rfl rfl rfl) rfl ?_
    refine c_p (r_i rfl rfl rfl) rfl ?_
    refine c_p (r_fa (off' := 3) Tryd.underlying27 rfl ti3 rfl rfl) rfl ?_
    refine nx (t_st u1 ti3 rfl rfl rfl rfl rfl (.s (.s (.s (.t (.s .z))))) ?_)
    refine t_nil ?_
    refine t_then hK16 ?_
    refine t_seq fun K17 hK18 => ?_
    refine t_region ?_
    refine c_p (r_fa (off' := 3) Tryd.underlying27 rfl ti3 rfl rfl) rfl ?_
    refine c_s (r_ld a1 Tryd.underlying3 rfl rfl rfl) rfl ?_
    refine c_p (r_i rfl rfl rfl) rfl ?_
    refine c_p (r_fa (off' := 2) Tryd.underlying27 rfl ti4 rfl rfl) rfl ?_
    refine nx (t_st u1 ti4 rfl rfl rfl rfl rfl (.s (.s (.t (.s .z)))) ?_)
    refine t_nil ?_
    refine t_then hK18 ?_
    refine t_seq fun K19 hK20 => ?_
    refine t_draw mixed (fun w_ => Bk g6 [.int .i64 z0.Room, .slice p1 m2 c3, .bool ((IntKind.wrap .i64 (z0.Plan - 1)) == 0), .int .i64 (IntKind.wrap .i64 (z0.Plan - 1))] w_ ∧ True) [2] [3] rfl ?_
    refine q_u 0 (panic_then panic_body) rfl (by kernel_rfl) W0 (by kernel_rfl) (r_ldA a1 Tryd.underlying27 rfl ti27 rfl rfl) rfl ?_
    refine q_p 1 (panic_then panic_body) rfl (by kernel_rfl) W0 (r_fa (off' := 2) Tryd.underlying27 rfl ti4 rfl rfl) rfl ?_
    refine q_s 2 (panic_then panic_body) rfl (by kernel_rfl) W0 (by kernel_rfl) (fun w H => ⟨bk a1 H, trivial⟩) (b_ld (fun _ h => h.1) Tryd.underlying4 rfl rfl rfl) rfl ?_
    refine d1 3 rfl (by kernel_rfl) (by kernel_rfl) ?_
    refine t_st u0 ti27 rfl rfl rfl rfl rfl (.t (.s (.s (.s (.s .z))))) ?_
    refine dk (fun w H => ⟨bk a1 H, trivial⟩) ?_
    refine q_p 4 (panic_then panic_body) rfl (by kernel_rfl) W0 (r_as rfl) rfl ?_
    refine dz (by kernel_rfl) ?_
    refine t_then hK20 ?_
    refine t_ret ?_
    exact ret2 rfl (v_N rfl a0 Tryd.underlying27 rfl ti27 rfl) (v_t rfl) (t_leave (hQ _ (Option.some.inj h)) (p1, m2, c3) rfl (fun w Z hA => V0) (.cons e2 .nil))
end Go.Proofs.YtkjeedijloobgaaDoor.Gx

/- Function 48, kaudit/kauditref24.with: what it answers as a plain function, and that the Go code comes to exactly that (where the plain function gives an answer). -/
set_option linter.unusedVariables false
set_option linter.unusedSimpArgs false
namespace Go.Proofs.YtkjeedijloobgaaDoor.Gx
open Go.Gx Go.RowKit
/-! ### kaudit/kauditref24.with: function 48 -/
def f_kauditref24_with_j1 (z1 : api_DiskFile) (x140 : List api_DiskFile) (x141 : Bool) : Option ((List api_DiskFile)) := if x141 = true then (some x140) else (ck (fits (x140.length + [z1].length) 48 = true) <| some (x140 ++ [z1]))
def f_kauditref24_with_l1 (z0 : (List api_DiskFile)) (z1 : api_DiskFile) : Nat → List api_DiskFile → Bool → Int → Option ((List api_DiskFile))
  | 0, _, _, _ => none
  | k102 + 1, x97, x98, x99 => if (decide (x99 < (z0.length : Int))) = true then ((at_ z0 x99).bind fun el116 => if x98 = true then (ck (fits (x97.length + [el116].length) 48 = true) <| f_kauditref24_with_l1 z0 z1 k102 (x97 ++ [el116]) x98 (IntKind.wrap .i64 (x99 + 1))) else (if (Op.bytesLess z1.Name.toList el116.Name.toList) = true then (ck (fits (x97.length + [z1].length) 48 = true) <| ck (fits ((x97 ++ [z1]).length + [el116].length) 48 = true) <| f_kauditref24_with_l1 z0 z1 k102 ((x97 ++ [z1]) ++ [el116]) true (IntKind.wrap .i64 (x99 + 1))) else (ck (fits (x97.length + [el116].length) 48 = true) <| f_kauditref24_with_l1 z0 z1 k102 (x97 ++ [el116]) x98 (IntKind.wrap .i64 (x99 + 1))))) else (f_kauditref24_with_j1 z1 x97 x98)
def f_kauditref24_with (z0 : (List api_DiskFile)) (z1 : api_DiskFile) : Option ((List api_DiskFile)) := f_kauditref24_with_l1 z0 z1 ((((z0.length : Int) : Int) - (0)).toNat + 1) ([] : List api_DiskFile) false 0
set_option maxHeartbeats 4000000 in
set_option maxRecDepth 100000 in
theorem C48 (z0 : (List api_DiskFile)) (z1 : api_DiskFile) (p1 : Option Addr) (m2 : Nat) (c3 : Nat) (p4 : Option Addr) (m5 : Nat) (c6 : Nat) (r : (List api_DiskFile)) (h : f_kauditref24_with z0 z1 = some r) : FunG Tryd.prog 48 #[.slice p1 m2 c3, .agg #[.string z1.Name, .slice p4 m5 c6, .int .i64 z1.Safe]] [vw (kSlice 34 k_api_DiskFile) z0 [.slice p1 m2 c3], vw (kSlice 5 (kInt .u8)) z1.Data [.slice p4 m5 c6], g_names] [] (fun t : (Option Addr × Nat × Nat) => .slice t.1 t.2.1 t.2.2) (fun t => []) (fun t => [[row 34 (kShare k_api_DiskFile) r (.slice t.1 t.2.1 t.2.2)]]) := by
  unfold f_kauditref24_with at h
  refine t_begin (args := [.slice p1 m2 c3, .agg #[.string z1.Name, .slice p4 m5 c6, .int .i64 z1.Safe]]) Tryd.func48 rfl Tryd.ntmps48 rfl fun c R hR => ?_
  have hQ : ∀ X, X = r → ∀ w2 (t : (Option Addr × Nat × Nat)), PostG c.w0 w2 c.M c.Y [] [[row 34 (kShare k_api_DiskFile) X (.slice t.1 t.2.1 t.2.2)]] → R (.returned (.slice t.1 t.2.1 t.2.2)) w2 := fun X e => by subst e; exact hR
  refine t_seq fun K7 hK8 => ?_
  refine t_region ?_
  refine nx (t_bx (cs := [.string z1.Name, .slice p4 m5 c6, .int .i64 z1.Safe]) rfl rfl rfl fun g9 => ?_)
  refine c_p (r_as rfl) rfl ?_
  refine t_nil ?_
  refine t_then hK8 ?_
  refine t_seq fun K10 hK11 => ?_
  refine t_region ?_
  refine c_p (r_as rfl) rfl ?_
  refine t_nil ?_
  refine t_then hK11 ?_
  refine t_seq fun K12 hK13 => ?_
  refine t_region ?_
  refine c_p (r_as rfl) rfl ?_
  refine t_nil ?_
  refine t_then hK13 ?_
  refine t_seq fun K14 hK15 => ?_
  have J142 : ∀ (p137 : Option Addr) (m138 : Nat) (c139 : Nat) (x140 : List api_DiskFile) (x141 : Bool), f_kauditref24_with_j1 z1 x140 x141 = some r → T 40 c [vw (kSlice 5 (kInt .u8)) z1.Data [.slice p4 m5 c6], g_names] [[blk g9 [.string z1.Name, .slice p4 m5 c6, .int .i64 z1.Safe] 34], [row 34 (kShare k_api_DiskFile) x140 (.slice p137 m138 c139)]] [(3, .pointer (some ⟨g9, 0, none⟩)), (5, .slice p137 m138 c139), (6, .bool x141)] K14 := by
    intro p137 m138 c139 x140 x141 h143
    unfold f_kauditref24_with_j1 at h143
    refine ti hK15 ?_
    refine t_seq fun K144 hK145 => ?_
    refine t_seq fun K146 hK147 => ?_
    refine t_region ?_
    refine c_p (r_mv rfl) rfl ?_
    refine c_p (r_not rfl) rfl ?_
    refine t_nil ?_
    refine t_then hK147 ?_
    rcases Bool.eq_false_or_eq_true x141 with hb148 | hb148
    · replace h143 := itT hb148 h143
      refine t_F rfl (congrArg Bool.not hb148) ?_
      refine t_skip ?_
      refine t_then hK145 ?_
      refine t_seq fun K152 hK153 => ?_
      refine t_region ?_
      refine c_p (r_mv rfl) rfl ?_
      refine c_p (r_as rfl) rfl ?_
      refine t_nil ?_
      refine t_then hK153 ?_
      refine t_ret ?_
      exact ret1 rfl (v_t rfl) (t_leave (hQ _ (Option.some.inj h143)) (p137, m138, c139) rfl (fun w Z hA => V0) (.cons e1 .nil))
    · replace h143 := itF hb148 h143
      refine t_T rfl (congrArg Bool.not hb148) ?_
      refine t_region ?_
      refine c_p (r_mv rfl) rfl ?_
      refine c_s (r_ldA a0 Tryd.underlying34 rfl ti34 rfl rfl) rfl ?_
      refine nx (t_bs (ps := [(0, .agg #[.string z1.Name, .slice p4 m5 c6, .int .i64 z1.Safe])]) (cs := [.string z1.Name, .slice p4 m5 c6, .int .i64 z1.Safe]) Tryd.underlying25 ti34 rfl rfl (by kernel_rfl) rfl fun g149 => ?_)
      obtain ⟨hc150, h143⟩ := ck_out h143
      refine nx (t_app (Kd := (kShare k_api_DiskFile)) (xs := x140) (ys := [z1]) (.cons e2 .nil) rfl rfl Tryd.underlying25 Tryd.underlying25 ti34 rfl rfl hc150 (srcB a0 (fun w Z S hA hN => ER_EO_share (er1 (c1 := [.string z1.Name, .slice p4 m5 c6, .int .i64 z1.Safe]) (k_api_DiskFile_shuts (x := z1) (t := (p4, m5, c6)) (V1 a0 hA V0)) er0))) rfl fun t151 => ?_)
      refine c_p (r_as rfl) rfl ?_
      refine t_nil ?_
      refine t_then hK145 ?_
      refine t_seq fun K154 hK155 => ?_
      refine t_region ?_
      refine c_p (r_mv rfl) rfl ?_
      refine c_p (r_as rfl) rfl ?_
      refine t_nil ?_
      refine t_then hK155 ?_
      refine t_ret ?_
      exact ret1 rfl (v_t rfl) (t_leave (hQ _ (Option.some.inj h143)) (t151.1, t151.2.1, t151.2.2) rfl (fun w Z hA => V0) (.cons e0 .nil))
  refine t_seq fun K16 hK17 => ?_
  refine t_region ?_
  refine c_p (r_mv rfl) rfl ?_
  refine c_s (r_lnA a0 Tryd.underlying25 rfl) rfl ?_
  refine c_p (r_mv rfl) rfl ?_
  refine t_nil ?_
  refine t_then hK17 ?_
  refine t_block ?_
  refine t_nr 34 k_api_DiskFile ?_
  refine t_fe e0 ?_
  refine t_lp fun k92 hk93 => ?_
  have LP100 : ∀ (k102 : Nat) (p94 : Option Addr) (m95 : Nat) (c96 : Nat) (x97 : List api_DiskFile) (x98 : Bool) (x99 : Int), f_kauditref24_with_l1 z0 z1 k102 x97 x98 x99 = some r → T 40 c [vw (kSlice 5 (kInt .u8)) z1.Data [.slice p4 m5 c6], vw (kSlice 34 k_api_DiskFile) z0 [.slice p1 m2 c3], g_names] [[blk g9 [.string z1.Name, .slice p4 m5 c6, .int .i64 z1.Safe] 34], [row 34 (kShare k_api_DiskFile) x97 (.slice p94 m95 c96)]] [(3, .pointer (some ⟨g9, 0, none⟩)), (5, .slice p94 m95 c96), (6, .bool x98), (9, .slice p1 m2 c3), (10, .int .i64 (z0.length : Int)), (11, .int .i64 x99)] k92 := by
    intro k102
    induction k102 with
    | zero => intro p94 m95 c96 x97 x98 x99 h101; rewrite [f_kauditref24_with_l1] at h101; cases h101
    | succ k102 ih103 =>
      intro p94 m95 c96 x97 x98 x99 h101
      rewrite [f_kauditref24_with_l1] at h101
      refine ti hk93 ?_
      refine t_seq fun K104 hK105 => ?_
      refine t_region ?_
      refine c_p (r_i rfl rfl rfl) rfl ?_
      refine t_nil ?_
      refine t_then hK105 ?_
      refine t_seq fun K106 hK107 => ?_
      rcases Bool.eq_false_or_eq_true (decide (x99 < (z0.length : Int))) with hb108 | hb108
      · replace h101 := itT hb108 h101
        refine t_T rfl hb108 ?_
        refine t_skip ?_
        refine t_then hK107 ?_
        refine t_seq fun K109 hK110 => ?_
        refine t_block ?_
        refine t_seq fun K111 hK112 => ?_
        refine t_region ?_
        obtain ⟨el116, hel116, h101⟩ := bs h101
        refine t_q a1 hel116 fun q113 hq114 hm115 => ?_
        refine c_p (r_idx hq114 hm115 hel116 Tryd.underlying25 ti34 rfl rfl) rfl ?_
        refine t_op k_api_DiskFile_opens a1 hel116 fun t117 => ?_
        refine c_s (r_eA a1 hq114 Tryd.underlying34 rfl ti34 rfl rfl) rfl ?_
        refine nx (t_al (cs := [.string (⟨#[]⟩ : ByteArray), .slice none 0 0, .int .i64 0]) ti34 rfl rfl fun g118 => ?_)
        refine nx (t_st u0 ti34 rfl rfl rfl rfl rfl (.t (.s (.s (.s .z)))) ?_)
        refine t_nil ?_
        refine t_then hK112 ?_
        refine t_seq fun K119 hK120 => ?_
        refine t_seq fun K121 hK122 => ?_
        refine t_region ?_
        refine c_p (r_mv rfl) rfl ?_
        refine c_p (r_not rfl) rfl ?_
        refine c_p (r_mv rfl) rfl ?_
        rcases Bool.eq_false_or_eq_true x98 with hb123 | hb123
        · replace h101 := itT hb123 h101
          refine nx (pass rfl rfl (congrArg Bool.not hb123) rfl ?_)
          refine nx (pass rfl rfl (congrArg Bool.not hb123) rfl ?_)
          refine nx (pass rfl rfl (congrArg Bool.not hb123) rfl ?_)
          refine nx (pass rfl rfl (congrArg Bool.not hb123) rfl ?_)
          refine nx (pass rfl rfl (congrArg Bool.not hb123) rfl ?_)
          refine c_p (r_pF rfl (congrArg Bool.not hb123) rfl) rfl ?_
          refine t_nil ?_
          refine t_then hK122 ?_
          refine t_F rfl rfl ?_
          refine t_skip ?_
          refine t_then hK120 ?_
          refine t_region ?_
          refine c_p (r_mv rfl) rfl ?_
          refine c_s (r_ldA a0 Tryd.underlying34 rfl ti34 rfl rfl) rfl ?_
          refine nx (t_bs (ps := [(0, .agg #[.string el116.Name, .slice t117.1 t117.2.1 t117.2.2, .int .i64 el116.Safe])]) (cs := [.string el116.Name, .slice t117.1 t117.2.1 t117.2.2, .int .i64 el116.Safe]) Tryd.underlying25 ti34 rfl rfl (by kernel_rfl) rfl fun g128 => ?_)
          obtain ⟨hc129, h101⟩ := ck_out h101
          refine nx (t_app (Kd := (kShare k_api_DiskFile)) (xs := x97) (ys := [el116]) (.cons e3 .nil) rfl rfl Tryd.underlying25 Tryd.underlying25 ti34 rfl rfl hc129 (srcB a0 (fun w Z S hA hN => ER_EO_share (er1 (c1 := [.string el116.Name, .slice t117.1 t117.2.1 t117.2.2, .int .i64 el116.Safe]) (k_api_DiskFile_shuts (x := el116) (t := (t117.1, t117.2.1, t117.2.2)) (V1 a0 hA V0)) er0))) rfl fun t130 => ?_)
          refine c_p (r_as rfl) rfl ?_
          refine t_nil ?_
          refine t_blockN ?_
          refine t_then hK110 ?_
          refine t_region ?_
          refine c_p (r_i rfl rfl rfl) rfl ?_
          refine c_p (r_mv rfl) rfl ?_
          refine t_nil ?_
          exact t_norm (t_go (ih103 t130.1 t130.2.1 t130.2.2 (x97 ++ [el116]) x98 (IntKind.wrap .i64 (x99 + 1)) h101) ⟨rfl, rfl, rfl, rfl, rfl, rfl, trivial⟩ (.cons e3 (.cons e0 .nil)) (fun w Z hA => V1 a2 hA (V1 a3 hA (V1 a4 hA (V0)))))
        · replace h101 := itF hb123 h101
          refine nx (gd rfl rfl (congrArg Bool.not hb123) (sp (r_fa (off' := 0) Tryd.underlying34 rfl ti9 rfl rfl) rfl ?_))
          refine nx (gd rfl rfl (congrArg Bool.not hb123) (ss (r_ld a1 Tryd.underlying9 rfl rfl rfl) rfl ?_))
          refine nx (gd rfl rfl (congrArg Bool.not hb123) (sp (r_fa (off' := 0) Tryd.underlying34 rfl ti9 rfl rfl) rfl ?_))
          refine nx (gd rfl rfl (congrArg Bool.not hb123) (ss (r_ld a0 Tryd.underlying9 rfl rfl rfl) rfl ?_))
          refine nx (gd rfl rfl (congrArg Bool.not hb123) (sp (r_s rfl rfl rfl) rfl ?_))
          refine c_p (r_pT rfl (congrArg Bool.not hb123) rfl) rfl ?_
          refine t_nil ?_
          refine t_then hK122 ?_
          rcases Bool.eq_false_or_eq_true (Op.bytesLess z1.Name.toList el116.Name.toList) with hb124 | hb124
          · replace h101 := itT hb124 h101
            refine t_T rfl hb124 ?_
            refine t_region ?_
            refine c_p (r_mv rfl) rfl ?_
            refine c_s (r_ldA a1 Tryd.underlying34 rfl ti34 rfl rfl) rfl ?_
            refine nx (t_bs (ps := [(0, .agg #[.string z1.Name, .slice p4 m5 c6, .int .i64 z1.Safe])]) (cs := [.string z1.Name, .slice p4 m5 c6, .int .i64 z1.Safe]) Tryd.underlying25 ti34 rfl rfl (by kernel_rfl) rfl fun g125 => ?_)
            obtain ⟨hc126, h101⟩ := ck_out h101
            refine nx (t_app (Kd := (kShare k_api_DiskFile)) (xs := x97) (ys := [z1]) (.cons e3 .nil) rfl rfl Tryd.underlying25 Tryd.underlying25 ti34 rfl rfl hc126 (srcB a0 (fun w Z S hA hN => ER_EO_share (er1 (c1 := [.string z1.Name, .slice p4 m5 c6, .int .i64 z1.Safe]) (k_api_DiskFile_shuts (x := z1) (t := (p4, m5, c6)) (V1 a2 hA V0)) er0))) rfl fun t127 => ?_)
            refine c_p (r_as rfl) rfl ?_
            refine c_p (r_as rfl) rfl ?_
            refine t_nil ?_
            refine t_then hK120 ?_
            refine t_region ?_
            refine c_p (r_mv rfl) rfl ?_
            refine c_s (r_ldA a2 Tryd.underlying34 rfl ti34 rfl rfl) rfl ?_
            refine nx (t_bs (ps := [(0, .agg #[.string el116.Name, .slice t117.1 t117.2.1 t117.2.2, .int .i64 el116.Safe])]) (cs := [.string el116.Name, .slice t117.1 t117.2.1 t117.2.2, .int .i64 el116.Safe]) Tryd.underlying25 ti34 rfl rfl (by kernel_rfl) rfl fun g131 => ?_)
            obtain ⟨hc132, h101⟩ := ck_out h101
            refine nx (t_app (Kd := (kShare k_api_DiskFile)) (xs := (x97 ++ [z1])) (ys := [el116]) (.cons e1 .nil) rfl rfl Tryd.underlying25 Tryd.underlying25 ti34 rfl rfl hc132 (srcB a0 (fun w Z S hA hN => ER_EO_share (er1 (c1 := [.string el116.Name, .slice t117.1 t117.2.1 t117.2.2, .int .i64 el116.Safe]) (k_api_DiskFile_shuts (x := el116) (t := (t117.1, t117.2.1, t117.2.2)) (V1 a0 hA V0)) er0))) rfl fun t133 => ?_)
            refine c_p (r_as rfl) rfl ?_
            refine t_nil ?_
            refine t_blockN ?_
            refine t_then hK110 ?_
            refine t_region ?_
            refine c_p (r_i rfl rfl rfl) rfl ?_
            refine c_p (r_mv rfl) rfl ?_
            refine t_nil ?_
            exact t_norm (t_go (ih103 t133.1 t133.2.1 t133.2.2 ((x97 ++ [z1]) ++ [el116]) true (IntKind.wrap .i64 (x99 + 1)) h101) ⟨rfl, rfl, rfl, rfl, rfl, rfl, trivial⟩ (.cons e4 (.cons e0 .nil)) (fun w Z hA => V1 a2 hA (V1 a3 hA (V1 a4 hA (V0)))))
          · replace h101 := itF hb124 h101
            refine t_F rfl hb124 ?_
            refine t_skip ?_
            refine t_then hK120 ?_
            refine t_region ?_
            refine c_p (r_mv rfl) rfl ?_
            refine c_s (r_ldA a0 Tryd.underlying34 rfl ti34 rfl rfl) rfl ?_
            refine nx (t_bs (ps := [(0, .agg #[.string el116.Name, .slice t117.1 t117.2.1 t117.2.2, .int .i64 el116.Safe])]) (cs := [.string el116.Name, .slice t117.1 t117.2.1 t117.2.2, .int .i64 el116.Safe]) Tryd.underlying25 ti34 rfl rfl (by kernel_rfl) rfl fun g134 => ?_)
            obtain ⟨hc135, h101⟩ := ck_out h101
            refine nx (t_app (Kd := (kShare k_api_DiskFile)) (xs := x97) (ys := [el116]) (.cons e3 .nil) rfl rfl Tryd.underlying25 Tryd.underlying25 ti34 rfl rfl hc135 (srcB a0 (fun w Z S hA hN => ER_EO_share (er1 (c1 := [.string el116.Name, .slice t117.1 t117.2.1 t117.2.2, .int .i64 el116.Safe]) (k_api_DiskFile_shuts (x := el116) (t := (t117.1, t117.2.1, t117.2.2)) (V1 a0 hA V0)) er0))) rfl fun t136 => ?_)
            refine c_p (r_as rfl) rfl ?_
            refine t_nil ?_
            refine t_blockN ?_
            refine t_then hK110 ?_
            refine t_region ?_
            refine c_p (r_i rfl rfl rfl) rfl ?_
            refine c_p (r_mv rfl) rfl ?_
            refine t_nil ?_
            exact t_norm (t_go (ih103 t136.1 t136.2.1 t136.2.2 (x97 ++ [el116]) x98 (IntKind.wrap .i64 (x99 + 1)) h101) ⟨rfl, rfl, rfl, rfl, rfl, rfl, trivial⟩ (.cons e3 (.cons e0 .nil)) (fun w Z hA => V1 a2 hA (V1 a3 hA (V1 a4 hA (V0)))))
      · replace h101 := itF hb108 h101
        refine t_F rfl hb108 ?_
        refine t_exit ?_
        refine te (te (bx ?_))
        exact t_norm (t_go (J142 p94 m95 c96 x97 x98 h101) ⟨rfl, rfl, rfl, trivial⟩ (.cons e0 (.cons e0 .nil)) (fun w Z hA => V1 a0 hA (V1 a2 hA (V0))))
  exact t_go (LP100 ((((z0.length : Int) : Int) - (0)).toNat + 1) none 0 0 ([] : List api_DiskFile) false 0 h) ⟨rfl, rfl, rfl, rfl, rfl, rfl, trivial⟩ (.cons e1 (.cons e0 .nil)) (fun w Z hA => V1 a1 hA (V1 a0 hA (V1 a2 hA (V0))))
end Go.Proofs.YtkjeedijloobgaaDoor.Gx

/- Function 16, kaudit/kauditref24.Create: what it answers as a plain function, and that the Go code comes to exactly that (where the plain function gives an answer). -/
set_option linter.unusedVariables false
set_option linter.unusedSimpArgs false
namespace Go.Proofs.YtkjeedijloobgaaDoor.Gx
open Go.Gx Go.RowKit
/-! ### kaudit/kauditref24.Create: function 16 -/
def f_kauditref24_Create (z0 : api_Disk) (z1 : ByteArray) : Option (api_Disk × Int) := (f_kauditref24_begin z0 z1 z1).bind fun y12 => if (y12.2 != 0) = true then (some (y12.1, y12.2)) else ((f_kauditref24_find z0 z1).bind fun y24 => if (decide (y24 ≥ 0)) = true then (some ((⟨0, ([] : List api_DiskFile), false, 0⟩ : api_Disk), 245)) else (if (decide ((z0.Files.length : Int) ≥ 24)) = true then (some ((⟨0, ([] : List api_DiskFile), false, 0⟩ : api_Disk), 247)) else ((f_kauditref24_Copy z0).bind fun y38 => (f_kauditref24_power y38).bind fun y40 => if y40.2 = true then (some (y40.1, 242)) else ((f_kauditref24_with y40.1.Files (⟨z1, ([] : List Int), 0⟩ : api_DiskFile)).bind fun y52 => some ((⟨y40.1.Room, y52, y40.1.Off, y40.1.Plan⟩ : api_Disk), 0)))))
set_option maxHeartbeats 4000000 in
set_option maxRecDepth 100000 in
theorem C16 (z0 : api_Disk) (z1 : ByteArray) (p1 : Option Addr) (m2 : Nat) (c3 : Nat) (r : api_Disk × Int) (h : f_kauditref24_Create z0 z1 = some r) : FunG Tryd.prog 16 #[.agg #[.int .i64 z0.Room, .slice p1 m2 c3, .bool z0.Off, .int .i64 z0.Plan], .string z1] [vw (kSlice 34 k_api_DiskFile) z0.Files [.slice p1 m2 c3], g_names] [] (fun t : (Option Addr × Nat × Nat) => .tuple #[.agg #[.int .i64 r.1.Room, .slice t.1 t.2.1 t.2.2, .bool r.1.Off, .int .i64 r.1.Plan], .int .i64 r.2]) (fun t => []) (fun t => [[row 34 (kShare k_api_DiskFile) r.1.Files (.slice t.1 t.2.1 t.2.2)]]) := by
  unfold f_kauditref24_Create at h
  refine t_begin (args := [.agg #[.int .i64 z0.Room, .slice p1 m2 c3, .bool z0.Off, .int .i64 z0.Plan], .string z1]) Tryd.func16 rfl Tryd.ntmps16 rfl fun c R hR => ?_
  have hQ : ∀ X, X = r → ∀ w2 (t : (Option Addr × Nat × Nat)), PostG c.w0 w2 c.M c.Y [] [[row 34 (kShare k_api_DiskFile) X.1.Files (.slice t.1 t.2.1 t.2.2)]] → R (.returned (.tuple #[.agg #[.int .i64 X.1.Room, .slice t.1 t.2.1 t.2.2, .bool X.1.Off, .int .i64 X.1.Plan], .int .i64 X.2])) w2 := fun X e => by subst e; exact hR
  refine t_seq fun K4 hK5 => ?_
  refine t_region ?_
  refine nx (t_bx (cs := [.int .i64 z0.Room, .slice p1 m2 c3, .bool z0.Off, .int .i64 z0.Plan]) rfl rfl rfl fun g6 => ?_)
  refine nx (t_al (cs := [.int .i64 0, .slice none 0 0, .bool false, .int .i64 0]) ti27 rfl rfl fun g7 => ?_)
  refine c_p (r_as rfl) rfl ?_
  refine t_nil ?_
  refine t_then hK5 ?_
  refine t_seq fun K8 hK9 => ?_
  refine t_seq fun K10 hK11 => ?_
  refine t_region ?_
  refine c_s (r_ldA a1 Tryd.underlying27 rfl ti27 rfl rfl) rfl ?_
  refine c_p (r_mv rfl) rfl ?_
  refine c_p (r_mv rfl) rfl ?_
  obtain ⟨y12, hy12, h⟩ := bs h
  refine nx (t_ca (C44 _ _ _ _ _ _ _ hy12) Tryd.func44 nm44 rfl rfl rfl .nil (fun w Z hA => (V1 a0 hA (V1 a1 hA V0))) rfl fun t13 => ?_)
  refine c_p (r_mv rfl) rfl ?_
  refine c_p (r_ex rfl rfl) rfl ?_
  refine c_p (r_ex rfl rfl) rfl ?_
  refine nx (t_al (cs := [.int .i64 0, .slice none 0 0, .bool false, .int .i64 0]) ti27 rfl rfl fun g14 => ?_)
  refine nx (t_st u0 ti27 rfl rfl rfl rfl rfl (.t (.s (.s (.s (.s .z))))) ?_)
  refine c_p (r_as rfl) rfl ?_
  refine t_nil ?_
  refine t_then hK11 ?_
  refine t_seq fun K15 hK16 => ?_
  refine t_region ?_
  refine c_p (r_mv rfl) rfl ?_
  refine c_p (r_i rfl rfl rfl) rfl ?_
  refine t_nil ?_
  refine t_then hK16 ?_
  rcases Bool.eq_false_or_eq_true (y12.2 != 0) with hb17 | hb17
  · replace h := itT hb17 h
    refine t_T rfl hb17 ?_
    refine t_seq fun K18 hK19 => ?_
    refine t_region ?_
    refine c_s (r_ldA a0 Tryd.underlying27 rfl ti27 rfl rfl) rfl ?_
    refine c_p (r_mv rfl) rfl ?_
    refine nx (t_st u2 ti27 rfl rfl rfl rfl rfl (.t (.s (.s (.s (.s .z))))) ?_)
    refine c_p (r_as rfl) rfl ?_
    refine t_nil ?_
    refine t_then hK19 ?_
    refine t_ret ?_
    refine t_fe e1 ?_
    exact tr (ret2 rfl (v_N rfl a2 Tryd.underlying27 rfl ti27 rfl) (v_t rfl) (t_leave (hQ _ (Option.some.inj h)) (t13.1, t13.2.1, t13.2.2) rfl (fun w Z hA => V0) (.cons e0 .nil)))
  · replace h := itF hb17 h
    refine t_F rfl hb17 ?_
    refine t_skip ?_
    refine t_then hK9 ?_
    refine t_seq fun K20 hK21 => ?_
    refine t_seq fun K22 hK23 => ?_
    refine t_region ?_
    refine c_s (r_ldA a3 Tryd.underlying27 rfl ti27 rfl rfl) rfl ?_
    refine c_p (r_mv rfl) rfl ?_
    obtain ⟨y24, hy24, h⟩ := bs h
    refine nx (t_ca (C45 _ _ _ _ _ _ hy24) Tryd.func45 nm45 rfl rfl rfl .nil (fun w Z hA => (V1 a0 hA (V1 a1 hA V0))) rfl fun t25 => ?_)
    refine c_p (r_i rfl rfl rfl) rfl ?_
    refine t_nil ?_
    refine t_then hK23 ?_
    rcases Bool.eq_false_or_eq_true (decide (y24 ≥ 0)) with hb26 | hb26
    · replace h := itT hb26 h
      refine t_T rfl hb26 ?_
      refine t_seq fun K27 hK28 => ?_
      refine t_region ?_
      refine c_p (r_bu (ps := []) (cs := [.int .i64 0, .slice none 0 0, .bool false, .int .i64 0]) rfl (by kernel_rfl)) rfl ?_
      refine nx (t_st u2 ti27 rfl rfl rfl rfl rfl (.t (.s (.s (.s (.s .z))))) ?_)
      refine c_p (r_as rfl) rfl ?_
      refine t_nil ?_
      refine t_then hK28 ?_
      refine t_ret ?_
      refine t_nr 34 (kShare k_api_DiskFile) ?_
      exact tr (ret2 rfl (v_N rfl a3 Tryd.underlying27 rfl ti27 rfl) (v_t rfl) (t_leave (hQ _ (Option.some.inj h)) (none, 0, 0) rfl (fun w Z hA => V0) (.cons e0 .nil)))
    · replace h := itF hb26 h
      refine t_F rfl hb26 ?_
      refine t_skip ?_
      refine t_then hK21 ?_
      refine t_seq fun K29 hK30 => ?_
      refine t_seq fun K31 hK32 => ?_
      refine t_region ?_
      refine c_p (r_fa (off' := 1) Tryd.underlying27 rfl ti25 rfl rfl) rfl ?_
      refine c_s (r_ld a3 Tryd.underlying25 rfl rfl rfl) rfl ?_
      refine c_s (r_lnA a0 Tryd.underlying25 rfl) rfl ?_
      refine c_p (r_i rfl rfl rfl) rfl ?_
      refine t_nil ?_
      refine t_then hK32 ?_
      rcases Bool.eq_false_or_eq_true (decide ((z0.Files.length : Int) ≥ 24)) with hb33 | hb33
      · replace h := itT hb33 h
        refine t_T rfl hb33 ?_
        refine t_seq fun K34 hK35 => ?_
        refine t_region ?_
        refine c_p (r_bu (ps := []) (cs := [.int .i64 0, .slice none 0 0, .bool false, .int .i64 0]) rfl (by kernel_rfl)) rfl ?_
        refine nx (t_st u2 ti27 rfl rfl rfl rfl rfl (.t (.s (.s (.s (.s .z))))) ?_)
        refine c_p (r_as rfl) rfl ?_
        refine t_nil ?_
        refine t_then hK35 ?_
        refine t_ret ?_
        refine t_nr 34 (kShare k_api_DiskFile) ?_
        exact tr (ret2 rfl (v_N rfl a3 Tryd.underlying27 rfl ti27 rfl) (v_t rfl) (t_leave (hQ _ (Option.some.inj h)) (none, 0, 0) rfl (fun w Z hA => V0) (.cons e0 .nil)))
      · replace h := itF hb33 h
        refine t_F rfl hb33 ?_
        refine t_skip ?_
        refine t_then hK30 ?_
        refine t_seq fun K36 hK37 => ?_
        refine t_region ?_
        refine c_s (r_ldA a3 Tryd.underlying27 rfl ti27 rfl rfl) rfl ?_
        obtain ⟨y38, hy38, h⟩ := bs h
        refine nx (t_ca (C47 _ _ _ _ _ hy38) Tryd.func47 nm47 rfl rfl rfl .nil (fun w Z hA => (V1 a0 hA (V1 a1 hA V0))) rfl fun t39 => ?_)
        obtain ⟨y40, hy40, h⟩ := bs h
        refine nx (t_ca (C46 _ _ _ _ _ hy40) Tryd.func46 nm46 rfl rfl rfl (.cons e0 .nil) (fun w Z hA => (V1 a1 hA V0)) rfl fun t41 => ?_)
        refine c_p (r_mv rfl) rfl ?_
        refine c_p (r_ex rfl rfl) rfl ?_
        refine c_p (r_ex rfl rfl) rfl ?_
        refine nx (t_al (cs := [.int .i64 0, .slice none 0 0, .bool false, .int .i64 0]) ti27 rfl rfl fun g42 => ?_)
        refine nx (t_st u0 ti27 rfl rfl rfl rfl rfl (.t (.s (.s (.s (.s .z))))) ?_)
        refine c_p (r_as rfl) rfl ?_
        refine t_nil ?_
        refine t_then hK37 ?_
        refine t_seq fun K43 hK44 => ?_
        refine t_seq fun K45 hK46 => ?_
        refine t_region ?_
        refine c_p (r_mv rfl) rfl ?_
        refine t_nil ?_
        refine t_then hK46 ?_
        rcases Bool.eq_false_or_eq_true y40.2 with hb47 | hb47
        · replace h := itT hb47 h
          refine t_T rfl hb47 ?_
          refine t_seq fun K48 hK49 => ?_
          refine t_region ?_
          refine c_s (r_ldA a0 Tryd.underlying27 rfl ti27 rfl rfl) rfl ?_
          refine nx (t_st u4 ti27 rfl rfl rfl rfl rfl (.t (.s (.s (.s (.s .z))))) ?_)
          refine c_p (r_as rfl) rfl ?_
          refine t_nil ?_
          refine t_then hK49 ?_
          refine t_ret ?_
          refine t_fe e1 ?_
          exact tr (ret2 rfl (v_N rfl a4 Tryd.underlying27 rfl ti27 rfl) (v_t rfl) (t_leave (hQ _ (Option.some.inj h)) (t41.1, t41.2.1, t41.2.2) rfl (fun w Z hA => V0) (.cons e0 .nil)))
        · replace h := itF hb47 h
          refine t_F rfl hb47 ?_
          refine t_skip ?_
          refine t_then hK44 ?_
          refine t_seq fun K50 hK51 => ?_
          refine t_region ?_
          refine c_p (r_fa (off' := 1) Tryd.underlying27 rfl ti25 rfl rfl) rfl ?_
          refine c_s (r_ld a0 Tryd.underlying25 rfl rfl rfl) rfl ?_
          refine c_p (r_mv rfl) rfl ?_
          refine c_p (r_bu (ps := [(0, .string z1)]) (cs := [.string z1, .slice none 0 0, .int .i64 0]) rfl (by kernel_rfl)) rfl ?_
          refine t_sh e1 ?_
          obtain ⟨y52, hy52, h⟩ := bs h
          refine nx (t_ca (C48 _ _ _ _ _ _ _ _ _ hy52) Tryd.func48 nm48 rfl rfl rfl .nil (fun w Z hA => (V1 a0 hA (VN 5 (V1 a2 hA V0)))) rfl fun t53 => ?_)
          refine c_p (r_fa (off' := 1) Tryd.underlying27 rfl ti25 rfl rfl) rfl ?_
          refine nx (t_st u1 ti25 rfl rfl rfl rfl rfl (.s (.t (.s .z))) ?_)
          refine t_nil ?_
          refine t_then hK51 ?_
          refine t_seq fun K54 hK55 => ?_
          refine t_region ?_
          refine c_s (r_ldA a1 Tryd.underlying27 rfl ti27 rfl rfl) rfl ?_
          refine nx (t_st u4 ti27 rfl rfl rfl rfl rfl (.t (.s (.s (.s (.s .z))))) ?_)
          refine c_p (r_as rfl) rfl ?_
          refine t_nil ?_
          refine t_then hK55 ?_
          refine t_ret ?_
          exact ret2 rfl (v_N rfl a4 Tryd.underlying27 rfl ti27 rfl) (v_t rfl) (t_leave (hQ _ (Option.some.inj h)) (t53.1, t53.2.1, t53.2.2) rfl (fun w Z hA => V0) (.cons e0 .nil))
end Go.Proofs.YtkjeedijloobgaaDoor.Gx

/- Function 69, kaudit/kauditref24.Used: what it answers as a plain function, and that the Go code comes to exactly that (where the plain function gives an answer). -/
set_option linter.unusedVariables false
set_option linter.unusedSimpArgs false
namespace Go.Proofs.YtkjeedijloobgaaDoor.Gx
open Go.Gx Go.RowKit
/-! ### kaudit/kauditref24.Used: function 69 -/
def f_kauditref24_Used_l1 (z0 : api_Disk) : Nat → Int → Int → Option (Int)
  | 0, _, _ => none
  | k53 + 1, x49, x50 => if (decide (x50 < (z0.Files.length : Int))) = true then ((at_ z0.Files x50).bind fun el67 => f_kauditref24_Used_l1 z0 k53 (IntKind.wrap .i64 (x49 + (el67.Data.length : Int))) (IntKind.wrap .i64 (x50 + 1))) else (some x49)
def f_kauditref24_Used (z0 : api_Disk) : Option (Int) := f_kauditref24_Used_l1 z0 ((((z0.Files.length : Int) : Int) - (0)).toNat + 1) 0 0
set_option maxHeartbeats 4000000 in
set_option maxRecDepth 100000 in
theorem C69 (z0 : api_Disk) (p1 : Option Addr) (m2 : Nat) (c3 : Nat) (r : Int) (h : f_kauditref24_Used z0 = some r) : FunG Tryd.prog 69 #[.agg #[.int .i64 z0.Room, .slice p1 m2 c3, .bool z0.Off, .int .i64 z0.Plan]] [vw (kSlice 34 k_api_DiskFile) z0.Files [.slice p1 m2 c3], g_names] [] (fun (_ : Unit) => .int .i64 r) (fun _ => []) (fun _ => []) := by
  unfold f_kauditref24_Used at h
  refine t_begin (args := [.agg #[.int .i64 z0.Room, .slice p1 m2 c3, .bool z0.Off, .int .i64 z0.Plan]]) Tryd.func69 rfl Tryd.ntmps69 rfl fun c R hR => ?_
  have hQ : ∀ X, X = r → ∀ w2 (_ : Unit), PostG c.w0 w2 c.M c.Y [] [] → R (.returned (.int .i64 X)) w2 := fun X e => by subst e; exact hR
  refine t_seq fun K4 hK5 => ?_
  refine t_region ?_
  refine nx (t_bx (cs := [.int .i64 z0.Room, .slice p1 m2 c3, .bool z0.Off, .int .i64 z0.Plan]) rfl rfl rfl fun g6 => ?_)
  refine c_p (r_as rfl) rfl ?_
  refine t_nil ?_
  refine t_then hK5 ?_
  refine t_seq fun K7 hK8 => ?_
  refine t_region ?_
  refine c_p (r_as rfl) rfl ?_
  refine t_nil ?_
  refine t_then hK8 ?_
  refine t_seq fun K9 hK10 => ?_
  refine t_seq fun K11 hK12 => ?_
  refine t_region ?_
  refine c_p (r_fa (off' := 1) Tryd.underlying27 rfl ti25 rfl rfl) rfl ?_
  refine c_s (r_ld a0 Tryd.underlying25 rfl rfl rfl) rfl ?_
  refine c_s (r_lnA a0 Tryd.underlying25 rfl) rfl ?_
  refine c_p (r_mv rfl) rfl ?_
  refine t_nil ?_
  refine t_then hK12 ?_
  refine t_block ?_
  refine t_lp fun k47 hk48 => ?_
  have LP51 : ∀ (k53 : Nat) (x49 : Int) (x50 : Int), f_kauditref24_Used_l1 z0 k53 x49 x50 = some r → T 20 c [vw (kSlice 34 k_api_DiskFile) z0.Files [.slice p1 m2 c3], g_names] [] [(3, .int .i64 x49), (7, .slice p1 m2 c3), (8, .int .i64 (z0.Files.length : Int)), (9, .int .i64 x50)] k47 := by
    intro k53
    induction k53 with
    | zero => intro x49 x50 h52; rewrite [f_kauditref24_Used_l1] at h52; cases h52
    | succ k53 ih54 =>
      intro x49 x50 h52
      rewrite [f_kauditref24_Used_l1] at h52
      refine ti hk48 ?_
      refine t_seq fun K55 hK56 => ?_
      refine t_region ?_
      refine c_p (r_i rfl rfl rfl) rfl ?_
      refine t_nil ?_
      refine t_then hK56 ?_
      refine t_seq fun K57 hK58 => ?_
      rcases Bool.eq_false_or_eq_true (decide (x50 < (z0.Files.length : Int))) with hb59 | hb59
      · replace h52 := itT hb59 h52
        refine t_T rfl hb59 ?_
        refine t_skip ?_
        refine t_then hK58 ?_
        refine t_seq fun K60 hK61 => ?_
        refine t_block ?_
        refine t_seq fun K62 hK63 => ?_
        refine t_region ?_
        obtain ⟨el67, hel67, h52⟩ := bs h52
        refine t_q a0 hel67 fun q64 hq65 hm66 => ?_
        refine c_p (r_idx hq65 hm66 hel67 Tryd.underlying25 ti34 rfl rfl) rfl ?_
        refine t_op k_api_DiskFile_opens a0 hel67 fun t68 => ?_
        refine c_s (r_eA a1 hq65 Tryd.underlying34 rfl ti34 rfl rfl) rfl ?_
        refine nx (t_al (cs := [.string (⟨#[]⟩ : ByteArray), .slice none 0 0, .int .i64 0]) ti34 rfl rfl fun g69 => ?_)
        refine nx (t_st u0 ti34 rfl rfl rfl rfl rfl (.t (.s (.s (.s .z)))) ?_)
        refine t_nil ?_
        refine t_then hK63 ?_
        refine t_region ?_
        refine c_p (r_mv rfl) rfl ?_
        refine c_p (r_fa (off' := 1) Tryd.underlying34 rfl ti22 rfl rfl) rfl ?_
        refine c_s (r_ld a0 Tryd.underlying22 rfl rfl rfl) rfl ?_
        refine c_s (r_lnA a0 Tryd.underlying22 rfl) rfl ?_
        refine c_p (r_i rfl rfl rfl) rfl ?_
        refine c_p (r_as rfl) rfl ?_
        refine t_nil ?_
        refine t_blockN ?_
        refine t_then hK61 ?_
        refine t_region ?_
        refine c_p (r_i rfl rfl rfl) rfl ?_
        refine c_p (r_mv rfl) rfl ?_
        refine t_nil ?_
        exact t_norm (t_go (ih54 (IntKind.wrap .i64 (x49 + (el67.Data.length : Int))) (IntKind.wrap .i64 (x50 + 1)) h52) ⟨rfl, rfl, rfl, rfl, trivial⟩ .nil (fun w Z hA => V1 a2 hA (V1 a3 hA (V0))))
      · replace h52 := itF hb59 h52
        refine t_F rfl hb59 ?_
        refine t_exit ?_
        refine te (te (bx ?_))
        refine t_then hK10 ?_
        refine t_seq fun K70 hK71 => ?_
        refine t_region ?_
        refine c_p (r_mv rfl) rfl ?_
        refine c_p (r_as rfl) rfl ?_
        refine t_nil ?_
        refine t_then hK71 ?_
        refine t_ret ?_
        exact ret1 rfl (v_t rfl) (t_leave (hQ _ (Option.some.inj h52)) () rfl (fun w Z hA => V0) .nil)
  exact t_go (LP51 ((((z0.Files.length : Int) : Int) - (0)).toNat + 1) 0 0 h) ⟨rfl, rfl, rfl, rfl, trivial⟩ .nil (fun w Z hA => V1 a0 hA (V1 a1 hA (V0)))
end Go.Proofs.YtkjeedijloobgaaDoor.Gx

/- Function 52, kaudit/kauditref24.Free: what it answers as a plain function, and that the Go code comes to exactly that (where the plain function gives an answer). -/
set_option linter.unusedVariables false
set_option linter.unusedSimpArgs false
namespace Go.Proofs.YtkjeedijloobgaaDoor.Gx
open Go.Gx Go.RowKit
/-! ### kaudit/kauditref24.Free: function 52 -/
def f_kauditref24_Free (z0 : api_Disk) : Option (Int) := (f_kauditref24_Used z0).bind fun y11 => if (decide (y11 < z0.Room)) = true then (some (IntKind.wrap .i64 (z0.Room - y11))) else (some 0)
set_option maxHeartbeats 4000000 in
set_option maxRecDepth 100000 in
theorem C52 (z0 : api_Disk) (p1 : Option Addr) (m2 : Nat) (c3 : Nat) (r : Int) (h : f_kauditref24_Free z0 = some r) : FunG Tryd.prog 52 #[.agg #[.int .i64 z0.Room, .slice p1 m2 c3, .bool z0.Off, .int .i64 z0.Plan]] [vw (kSlice 34 k_api_DiskFile) z0.Files [.slice p1 m2 c3], g_names] [] (fun (_ : Unit) => .int .i64 r) (fun _ => []) (fun _ => []) := by
  unfold f_kauditref24_Free at h
  refine t_begin (args := [.agg #[.int .i64 z0.Room, .slice p1 m2 c3, .bool z0.Off, .int .i64 z0.Plan]]) Tryd.func52 rfl Tryd.ntmps52 rfl fun c R hR => ?_
  have hQ : ∀ X, X = r → ∀ w2 (_ : Unit), PostG c.w0 w2 c.M c.Y [] [] → R (.returned (.int .i64 X)) w2 := fun X e => by subst e; exact hR
  refine t_seq fun K4 hK5 => ?_
  refine t_region ?_
  refine nx (t_bx (cs := [.int .i64 z0.Room, .slice p1 m2 c3, .bool z0.Off, .int .i64 z0.Plan]) rfl rfl rfl fun g6 => ?_)
  refine c_p (r_as rfl) rfl ?_
  refine t_nil ?_
  refine t_then hK5 ?_
  refine t_seq fun K7 hK8 => ?_
  refine t_seq fun K9 hK10 => ?_
  refine t_region ?_
  refine c_s (r_ldA a0 Tryd.underlying27 rfl ti27 rfl rfl) rfl ?_
  obtain ⟨y11, hy11, h⟩ := bs h
  refine nx (t_ca (C69 _ _ _ _ _ hy11) Tryd.func69 nm69 rfl rfl rfl .nil (fun w Z hA => (V1 a0 hA (V1 a1 hA V0))) rfl fun t12 => ?_)
  refine c_p (r_as rfl) rfl ?_
  refine t_nil ?_
  refine t_then hK10 ?_
  refine t_seq fun K13 hK14 => ?_
  refine t_region ?_
  refine c_p (r_mv rfl) rfl ?_
  refine c_p (r_fa (off' := 0) Tryd.underlying27 rfl ti3 rfl rfl) rfl ?_
  refine c_s (r_ld a0 Tryd.underlying3 rfl rfl rfl) rfl ?_
  refine c_p (r_i rfl rfl rfl) rfl ?_
  refine t_nil ?_
  refine t_then hK14 ?_
  rcases Bool.eq_false_or_eq_true (decide (y11 < z0.Room)) with hb15 | hb15
  · replace h := itT hb15 h
    refine t_T rfl hb15 ?_
    refine t_seq fun K16 hK17 => ?_
    refine t_region ?_
    refine c_p (r_fa (off' := 0) Tryd.underlying27 rfl ti3 rfl rfl) rfl ?_
    refine c_s (r_ld a0 Tryd.underlying3 rfl rfl rfl) rfl ?_
    refine c_p (r_mv rfl) rfl ?_
    refine c_p (r_i rfl rfl rfl) rfl ?_
    refine c_p (r_as rfl) rfl ?_
    refine t_nil ?_
    refine t_then hK17 ?_
    refine t_ret ?_
    exact tr (ret1 rfl (v_t rfl) (t_leave (hQ _ (Option.some.inj h)) () rfl (fun w Z hA => V0) .nil))
  · replace h := itF hb15 h
    refine t_F rfl hb15 ?_
    refine t_skip ?_
    refine t_then hK8 ?_
    refine t_seq fun K18 hK19 => ?_
    refine t_region ?_
    refine c_p (r_as rfl) rfl ?_
    refine t_nil ?_
    refine t_then hK19 ?_
    refine t_ret ?_
    exact ret1 rfl (v_t rfl) (t_leave (hQ _ (Option.some.inj h)) () rfl (fun w Z hA => V0) .nil)
end Go.Proofs.YtkjeedijloobgaaDoor.Gx

/- Function 18, kaudit/kauditref24.Append: what it answers as a plain function, and that the Go code comes to exactly that (where the plain function gives an answer). -/
set_option linter.unusedVariables false
set_option linter.unusedSimpArgs false
namespace Go.Proofs.YtkjeedijloobgaaDoor.Gx
open Go.Gx Go.RowKit
/-! ### kaudit/kauditref24.Append: function 18 -/
def f_kauditref24_Append (z0 : api_Disk) (z1 : ByteArray) (z2 : (List Int)) : Option (api_Disk × Int) := (f_kauditref24_begin z0 z1 z1).bind fun y15 => if (y15.2 != 0) = true then (some (y15.1, y15.2)) else ((f_kauditref24_find z0 z1).bind fun y25 => if (decide (y25 < 0)) = true then (some ((⟨0, ([] : List api_DiskFile), false, 0⟩ : api_Disk), 244)) else ((f_kauditref24_Free z0).bind fun y38 => if (decide ((z2.length : Int) > y38)) = true then (some ((⟨0, ([] : List api_DiskFile), false, 0⟩ : api_Disk), 247)) else ((f_kauditref24_Copy z0).bind fun y45 => (f_kauditref24_power y45).bind fun y47 => (at_ y47.1.Files y25).bind fun el57 => ck (fits (el57.Data.length + z2.length) 1 = true) <| if y47.2 = true then (some ((⟨y47.1.Room, (y47.1.Files.set y25.toNat (⟨el57.Name, (el57.Data ++ z2), el57.Safe⟩ : api_DiskFile)), y47.1.Off, y47.1.Plan⟩ : api_Disk), 242)) else (some ((⟨y47.1.Room, (y47.1.Files.set y25.toNat (⟨el57.Name, (el57.Data ++ z2), el57.Safe⟩ : api_DiskFile)), y47.1.Off, y47.1.Plan⟩ : api_Disk), 0)))))
set_option maxHeartbeats 4000000 in
set_option maxRecDepth 100000 in
theorem C18 (z0 : api_Disk) (z1 : ByteArray) (z2 : (List Int)) (p1 : Option Addr) (m2 : Nat) (c3 : Nat) (p4 : Option Addr) (m5 : Nat) (c6 : Nat) (r : api_Disk × Int) (h : f_kauditref24_Append z0 z1 z2 = some r) : FunG Tryd.prog 18 #[.agg #[.int .i64 z0.Room, .slice p1 m2 c3, .bool z0.Off, .int .i64 z0.Plan], .string z1, .slice p4 m5 c6] [vw (kSlice 34 k_api_DiskFile) z0.Files [.slice p1 m2 c3], vw (kSlice 5 (kInt .u8)) z2 [.slice p4 m5 c6], g_names] [] (fun t : (Option Addr × Nat × Nat) => .tuple #[.agg #[.int .i64 r.1.Room, .slice t.1 t.2.1 t.2.2, .bool r.1.Off, .int .i64 r.1.Plan], .int .i64 r.2]) (fun t => []) (fun t => [[row 34 k_api_DiskFile r.1.Files (.slice t.1 t.2.1 t.2.2)]]) := by
  unfold f_kauditref24_Append at h
  refine t_begin (args := [.agg #[.int .i64 z0.Room, .slice p1 m2 c3, .bool z0.Off, .int .i64 z0.Plan], .string z1, .slice p4 m5 c6]) Tryd.func18 rfl Tryd.ntmps18 rfl fun c R hR => ?_
  have hQ : ∀ X, X = r → ∀ w2 (t : (Option Addr × Nat × Nat)), PostG c.w0 w2 c.M c.Y [] [[row 34 k_api_DiskFile X.1.Files (.slice t.1 t.2.1 t.2.2)]] → R (.returned (.tuple #[.agg #[.int .i64 X.1.Room, .slice t.1 t.2.1 t.2.2, .bool X.1.Off, .int .i64 X.1.Plan], .int .i64 X.2])) w2 := fun X e => by subst e; exact hR
  refine t_seq fun K7 hK8 => ?_
  refine t_region ?_
  refine nx (t_bx (cs := [.int .i64 z0.Room, .slice p1 m2 c3, .bool z0.Off, .int .i64 z0.Plan]) rfl rfl rfl fun g9 => ?_)
  refine nx (t_al (cs := [.int .i64 0, .slice none 0 0, .bool false, .int .i64 0]) ti27 rfl rfl fun g10 => ?_)
  refine c_p (r_as rfl) rfl ?_
  refine t_nil ?_
  refine t_then hK8 ?_
  refine t_seq fun K11 hK12 => ?_
  refine t_seq fun K13 hK14 => ?_
  refine t_region ?_
  refine c_s (r_ldA a1 Tryd.underlying27 rfl ti27 rfl rfl) rfl ?_
  refine c_p (r_mv rfl) rfl ?_
  refine c_p (r_mv rfl) rfl ?_
  obtain ⟨y15, hy15, h⟩ := bs h
  refine nx (t_ca (C44 _ _ _ _ _ _ _ hy15) Tryd.func44 nm44 rfl rfl rfl .nil (fun w Z hA => (V1 a0 hA (V1 a2 hA V0))) rfl fun t16 => ?_)
  refine c_p (r_mv rfl) rfl ?_
  refine c_p (r_ex rfl rfl) rfl ?_
  refine c_p (r_ex rfl rfl) rfl ?_
  refine nx (t_al (cs := [.int .i64 0, .slice none 0 0, .bool false, .int .i64 0]) ti27 rfl rfl fun g17 => ?_)
  refine nx (t_st u0 ti27 rfl rfl rfl rfl rfl (.t (.s (.s (.s (.s .z))))) ?_)
  refine c_p (r_as rfl) rfl ?_
  refine t_nil ?_
  refine t_then hK14 ?_
  refine t_seq fun K18 hK19 => ?_
  refine t_region ?_
  refine c_p (r_mv rfl) rfl ?_
  refine c_p (r_i rfl rfl rfl) rfl ?_
  refine t_nil ?_
  refine t_then hK19 ?_
  rcases Bool.eq_false_or_eq_true (y15.2 != 0) with hb20 | hb20
  · replace h := itT hb20 h
    refine t_T rfl hb20 ?_
    refine t_seq fun K21 hK22 => ?_
    refine t_region ?_
    refine c_s (r_ldA a0 Tryd.underlying27 rfl ti27 rfl rfl) rfl ?_
    refine c_p (r_mv rfl) rfl ?_
    refine nx (t_st u2 ti27 rfl rfl rfl rfl rfl (.t (.s (.s (.s (.s .z))))) ?_)
    refine c_p (r_as rfl) rfl ?_
    refine t_nil ?_
    refine t_then hK22 ?_
    refine t_ret ?_
    exact tr (ret2 rfl (v_N rfl a2 Tryd.underlying27 rfl ti27 rfl) (v_t rfl) (t_leave (hQ _ (Option.some.inj h)) (t16.1, t16.2.1, t16.2.2) rfl (fun w Z hA => V0) (.cons e1 .nil)))
  · replace h := itF hb20 h
    refine t_F rfl hb20 ?_
    refine t_skip ?_
    refine t_then hK12 ?_
    refine t_seq fun K23 hK24 => ?_
    refine t_region ?_
    refine c_s (r_ldA a3 Tryd.underlying27 rfl ti27 rfl rfl) rfl ?_
    refine c_p (r_mv rfl) rfl ?_
    obtain ⟨y25, hy25, h⟩ := bs h
    refine nx (t_ca (C45 _ _ _ _ _ _ hy25) Tryd.func45 nm45 rfl rfl rfl .nil (fun w Z hA => (V1 a0 hA (V1 a2 hA V0))) rfl fun t26 => ?_)
    refine c_p (r_as rfl) rfl ?_
    refine t_nil ?_
    refine t_then hK24 ?_
    refine t_seq fun K27 hK28 => ?_
    refine t_seq fun K29 hK30 => ?_
    refine t_region ?_
    refine c_p (r_mv rfl) rfl ?_
    refine c_p (r_i rfl rfl rfl) rfl ?_
    refine t_nil ?_
    refine t_then hK30 ?_
    rcases Bool.eq_false_or_eq_true (decide (y25 < 0)) with hb31 | hb31
    · replace h := itT hb31 h
      refine t_T rfl hb31 ?_
      refine t_seq fun K32 hK33 => ?_
      refine t_region ?_
      refine c_p (r_bu (ps := []) (cs := [.int .i64 0, .slice none 0 0, .bool false, .int .i64 0]) rfl (by kernel_rfl)) rfl ?_
      refine nx (t_st u2 ti27 rfl rfl rfl rfl rfl (.t (.s (.s (.s (.s .z))))) ?_)
      refine c_p (r_as rfl) rfl ?_
      refine t_nil ?_
      refine t_then hK33 ?_
      refine t_ret ?_
      refine t_nr 34 k_api_DiskFile ?_
      exact tr (ret2 rfl (v_N rfl a3 Tryd.underlying27 rfl ti27 rfl) (v_t rfl) (t_leave (hQ _ (Option.some.inj h)) (none, 0, 0) rfl (fun w Z hA => V0) (.cons e0 .nil)))
    · replace h := itF hb31 h
      refine t_F rfl hb31 ?_
      refine t_skip ?_
      refine t_then hK28 ?_
      refine t_seq fun K34 hK35 => ?_
      refine t_seq fun K36 hK37 => ?_
      refine t_region ?_
      refine c_p (r_mv rfl) rfl ?_
      refine c_s (r_lnA a1 Tryd.underlying22 rfl) rfl ?_
      refine c_s (r_ldA a3 Tryd.underlying27 rfl ti27 rfl rfl) rfl ?_
      obtain ⟨y38, hy38, h⟩ := bs h
      refine nx (t_ca (C52 _ _ _ _ _ hy38) Tryd.func52 nm52 rfl rfl rfl .nil (fun w Z hA => (V1 a0 hA (V1 a2 hA V0))) rfl fun t39 => ?_)
      refine c_p (r_i rfl rfl rfl) rfl ?_
      refine t_nil ?_
      refine t_then hK37 ?_
      rcases Bool.eq_false_or_eq_true (decide ((z2.length : Int) > y38)) with hb40 | hb40
      · replace h := itT hb40 h
        refine t_T rfl hb40 ?_
        refine t_seq fun K41 hK42 => ?_
        refine t_region ?_
        refine c_p (r_bu (ps := []) (cs := [.int .i64 0, .slice none 0 0, .bool false, .int .i64 0]) rfl (by kernel_rfl)) rfl ?_
        refine nx (t_st u2 ti27 rfl rfl rfl rfl rfl (.t (.s (.s (.s (.s .z))))) ?_)
        refine c_p (r_as rfl) rfl ?_
        refine t_nil ?_
        refine t_then hK42 ?_
        refine t_ret ?_
        refine t_nr 34 k_api_DiskFile ?_
        exact tr (ret2 rfl (v_N rfl a3 Tryd.underlying27 rfl ti27 rfl) (v_t rfl) (t_leave (hQ _ (Option.some.inj h)) (none, 0, 0) rfl (fun w Z hA => V0) (.cons e0 .nil)))
      · replace h := itF hb40 h
        refine t_F rfl hb40 ?_
        refine t_skip ?_
        refine t_then hK35 ?_
        refine t_seq fun K43 hK44 => ?_
        refine t_region ?_
        refine c_s (r_ldA a3 Tryd.underlying27 rfl ti27 rfl rfl) rfl ?_
        obtain ⟨y45, hy45, h⟩ := bs h
        refine nx (t_ca (C47 _ _ _ _ _ hy45) Tryd.func47 nm47 rfl rfl rfl .nil (fun w Z hA => (V1 a0 hA (V1 a2 hA V0))) rfl fun t46 => ?_)
        obtain ⟨y47, hy47, h⟩ := bs h
        refine nx (t_ca (C46 _ _ _ _ _ hy47) Tryd.func46 nm46 rfl rfl rfl (.cons e0 .nil) (fun w Z hA => (V1 a2 hA V0)) rfl fun t48 => ?_)
        refine c_p (r_mv rfl) rfl ?_
        refine c_p (r_ex rfl rfl) rfl ?_
        refine c_p (r_ex rfl rfl) rfl ?_
        refine nx (t_al (cs := [.int .i64 0, .slice none 0 0, .bool false, .int .i64 0]) ti27 rfl rfl fun g49 => ?_)
        refine nx (t_st u0 ti27 rfl rfl rfl rfl rfl (.t (.s (.s (.s (.s .z))))) ?_)
        refine c_p (r_as rfl) rfl ?_
        refine t_nil ?_
        refine t_then hK44 ?_
        refine t_seq fun K50 hK51 => ?_
        refine t_draw mixed (fun w_ => Bk g49 [.int .i64 y47.1.Room, .slice t48.1 t48.2.1 t48.2.2, .bool y47.1.Off, .int .i64 y47.1.Plan] w_ ∧ True) [1] [10, 13] rfl ?_
        refine q_p 0 (panic_then panic_body) rfl (by kernel_rfl) W0 (r_fa (off' := 1) Tryd.underlying27 rfl ti25 rfl rfl) rfl ?_
        refine q_s 1 (panic_then panic_body) rfl (by kernel_rfl) W0 (by kernel_rfl) (fun w H => ⟨bk a0 H, trivial⟩) (b_ld (fun _ h => h.1) Tryd.underlying25 rfl rfl rfl) rfl ?_
        refine q_p 2 (panic_then panic_body) rfl (by kernel_rfl) W0 (r_mv rfl) rfl ?_
        refine q_p 3 (panic_then panic_body) rfl (by kernel_rfl) W0 (r_fa (off' := 1) Tryd.underlying27 rfl ti25 rfl rfl) rfl ?_
        refine q_u 4 (panic_then panic_body) rfl (by kernel_rfl) W0 (by kernel_rfl) (r_ld a0 Tryd.underlying25 rfl rfl rfl) rfl ?_
        refine q_p 5 (panic_then panic_body) rfl (by kernel_rfl) W0 (r_mv rfl) rfl ?_
        obtain ⟨el57, hel57, h⟩ := bs h
        refine t_qL a1 hel57 fun q54 hq55 hm56 => ?_
        refine q_p 6 (panic_then panic_body) rfl (by kernel_rfl) W0 (r_idx hq55 hm56 hel57 Tryd.underlying25 ti34 rfl rfl) rfl ?_
        refine t_qf hq55 1 fun q58 hq59 => ?_
        refine q_p 7 (panic_then panic_body) rfl (by kernel_rfl) W0 (r_fai hq55 hq59 Tryd.underlying34 rfl ti22 rfl rfl) rfl ?_
        refine t_oI k_api_DiskFile_opensO e1 hel57 fun t60 => ?_
        refine q_u 8 (panic_then panic_body) rfl (by kernel_rfl) W0 (by kernel_rfl) (r_h1 a0 hq59 Tryd.underlying22 rfl rfl rfl) rfl ?_
        refine q_p 9 (panic_then panic_body) rfl (by kernel_rfl) W0 (r_mv rfl) rfl ?_
        refine d1 10 rfl (by kernel_rfl) (by kernel_rfl) ?_
        obtain ⟨hc61, h⟩ := ck_out h
        refine t_app (Kd := (kInt .u8)) (xs := el57.Data) (ys := z2) (.cons e1 .nil) rfl rfl Tryd.underlying22 Tryd.underlying22 ti5 rfl rfl hc61 (srcA (flatK_int .u8) a1) rfl fun t62 => ?_
        refine dk (fun w H => ⟨bk a2 H, trivial⟩) ?_
        refine t_qH a1 hel57 fun q63 hq64 hm65 => ?_
        refine q_p 11 (panic_then panic_body) rfl (by kernel_rfl) W0 (r_idx hq64 hm65 hel57 Tryd.underlying25 ti34 rfl rfl) rfl ?_
        refine t_qf hq64 1 fun q66 hq67 => ?_
        refine q_p 12 (panic_then panic_body) rfl (by kernel_rfl) W0 (r_fai hq64 hq67 Tryd.underlying34 rfl ti22 rfl rfl) rfl ?_
        refine d1 13 rfl (by kernel_rfl) (by kernel_rfl) ?_
        refine t_hs u1 hq67 ti22 rfl rfl rfl rfl rfl (.s (.t (.s .z))) ?_
        refine dn (by kernel_rfl) ?_
        refine dz (by kernel_rfl) ?_
        refine t_then hK51 ?_
        refine t_seq fun K68 hK69 => ?_
        refine t_seq fun K70 hK71 => ?_
        refine t_region ?_
        refine c_p (r_mv rfl) rfl ?_
        refine t_nil ?_
        refine t_then hK71 ?_
        rcases Bool.eq_false_or_eq_true y47.2 with hb72 | hb72
        · replace h := itT hb72 h
          refine t_T rfl hb72 ?_
          refine t_seq fun K73 hK74 => ?_
          refine t_region ?_
          refine c_s (r_ldA a2 Tryd.underlying27 rfl ti27 rfl rfl) rfl ?_
          refine nx (t_st u5 ti27 rfl rfl rfl rfl rfl (.t (.s (.s (.s (.s .z))))) ?_)
          refine c_p (r_as rfl) rfl ?_
          refine t_nil ?_
          refine t_then hK74 ?_
          refine t_ret ?_
          refine t_cI (u := (⟨el57.Name, (el57.Data ++ z2), el57.Safe⟩ : api_DiskFile)) (t := (t62.1, t62.2.1, t62.2.2)) k_api_DiskFile_shutsO (.cons e1 (.cons e0 .nil)) rfl (fun w Z hA => trivial) ?_
          have hn77 := at_set (u' := (⟨el57.Name, (el57.Data ++ z2), el57.Safe⟩ : api_DiskFile)) hel57
          exact tr (ret2 rfl (v_N rfl a4 Tryd.underlying27 rfl ti27 rfl) (v_t rfl) (t_leave (hQ _ (Option.some.inj h)) (t48.1, t48.2.1, t48.2.2) rfl (fun w Z hA => V0) (.cons e0 .nil)))
        · replace h := itF hb72 h
          refine t_F rfl hb72 ?_
          refine t_skip ?_
          refine t_then hK69 ?_
          refine t_seq fun K75 hK76 => ?_
          refine t_region ?_
          refine c_s (r_ldA a2 Tryd.underlying27 rfl ti27 rfl rfl) rfl ?_
          refine nx (t_st u5 ti27 rfl rfl rfl rfl rfl (.t (.s (.s (.s (.s .z))))) ?_)
          refine c_p (r_as rfl) rfl ?_
          refine t_nil ?_
          refine t_then hK76 ?_
          refine t_ret ?_
          refine t_cI (u := (⟨el57.Name, (el57.Data ++ z2), el57.Safe⟩ : api_DiskFile)) (t := (t62.1, t62.2.1, t62.2.2)) k_api_DiskFile_shutsO (.cons e1 (.cons e0 .nil)) rfl (fun w Z hA => trivial) ?_
          have hn78 := at_set (u' := (⟨el57.Name, (el57.Data ++ z2), el57.Safe⟩ : api_DiskFile)) hel57
          exact ret2 rfl (v_N rfl a4 Tryd.underlying27 rfl ti27 rfl) (v_t rfl) (t_leave (hQ _ (Option.some.inj h)) (t48.1, t48.2.1, t48.2.2) rfl (fun w Z hA => V0) (.cons e0 .nil))
end Go.Proofs.YtkjeedijloobgaaDoor.Gx

/- Function 20, kaudit/kauditref24.Sync: what it answers as a plain function, and that the Go code comes to exactly that (where the plain function gives an answer). -/
set_option linter.unusedVariables false
set_option linter.unusedSimpArgs false
namespace Go.Proofs.YtkjeedijloobgaaDoor.Gx
open Go.Gx Go.RowKit
/-! ### kaudit/kauditref24.Sync: function 20 -/
def f_kauditref24_Sync (z0 : api_Disk) (z1 : ByteArray) : Option (api_Disk × Int) := (f_kauditref24_begin z0 z1 z1).bind fun y12 => if (y12.2 != 0) = true then (some (y12.1, y12.2)) else ((f_kauditref24_find z0 z1).bind fun y22 => if (decide (y22 < 0)) = true then (some ((⟨0, ([] : List api_DiskFile), false, 0⟩ : api_Disk), 244)) else ((f_kauditref24_Copy z0).bind fun y33 => (f_kauditref24_power y33).bind fun y35 => if y35.2 = true then (some (y35.1, 242)) else ((at_ y35.1.Files y22).bind fun el52 => some ((⟨y35.1.Room, (y35.1.Files.set y22.toNat (⟨el52.Name, el52.Data, (el52.Data.length : Int)⟩ : api_DiskFile)), y35.1.Off, y35.1.Plan⟩ : api_Disk), 0))))
set_option maxHeartbeats 4000000 in
set_option maxRecDepth 100000 in
theorem C20 (z0 : api_Disk) (z1 : ByteArray) (p1 : Option Addr) (m2 : Nat) (c3 : Nat) (r : api_Disk × Int) (h : f_kauditref24_Sync z0 z1 = some r) : FunG Tryd.prog 20 #[.agg #[.int .i64 z0.Room, .slice p1 m2 c3, .bool z0.Off, .int .i64 z0.Plan], .string z1] [vw (kSlice 34 k_api_DiskFile) z0.Files [.slice p1 m2 c3], g_names] [] (fun t : (Option Addr × Nat × Nat) => .tuple #[.agg #[.int .i64 r.1.Room, .slice t.1 t.2.1 t.2.2, .bool r.1.Off, .int .i64 r.1.Plan], .int .i64 r.2]) (fun t => []) (fun t => [[row 34 k_api_DiskFile r.1.Files (.slice t.1 t.2.1 t.2.2)]]) := by
  unfold f_kauditref24_Sync at h
  refine t_begin (args := [.agg #[.int .i64 z0.Room, .slice p1 m2 c3, .bool z0.Off, .int .i64 z0.Plan], .string z1]) Tryd.func20 rfl Tryd.ntmps20 rfl fun c R hR => ?_
  have hQ : ∀ X, X = r → ∀ w2 (t : (Option Addr × Nat × Nat)), PostG c.w0 w2 c.M c.Y [] [[row 34 k_api_DiskFile X.1.Files (.slice t.1 t.2.1 t.2.2)]] → R (.returned (.tuple #[.agg #[.int .i64 X.1.Room, .slice t.1 t.2.1 t.2.2, .bool X.1.Off, .int .i64 X.1.Plan], .int .i64 X.2])) w2 := fun X e => by subst e; exact hR
  refine t_seq fun K4 hK5 => ?_
  refine t_region ?_
  refine nx (t_bx (cs := [.int .i64 z0.Room, .slice p1 m2 c3, .bool z0.Off, .int .i64 z0.Plan]) rfl rfl rfl fun g6 => ?_)
  refine nx (t_al (cs := [.int .i64 0, .slice none 0 0, .bool false, .int .i64 0]) ti27 rfl rfl fun g7 => ?_)
  refine c_p (r_as rfl) rfl ?_
  refine t_nil ?_
  refine t_then hK5 ?_
  refine t_seq fun K8 hK9 => ?_
  refine t_seq fun K10 hK11 => ?_
  refine t_region ?_
  refine c_s (r_ldA a1 Tryd.underlying27 rfl ti27 rfl rfl) rfl ?_
  refine c_p (r_mv rfl) rfl ?_
  refine c_p (r_mv rfl) rfl ?_
  obtain ⟨y12, hy12, h⟩ := bs h
  refine nx (t_ca (C44 _ _ _ _ _ _ _ hy12) Tryd.func44 nm44 rfl rfl rfl .nil (fun w Z hA => (V1 a0 hA (V1 a1 hA V0))) rfl fun t13 => ?_)
  refine c_p (r_mv rfl) rfl ?_
  refine c_p (r_ex rfl rfl) rfl ?_
  refine c_p (r_ex rfl rfl) rfl ?_
  refine nx (t_al (cs := [.int .i64 0, .slice none 0 0, .bool false, .int .i64 0]) ti27 rfl rfl fun g14 => ?_)
  refine nx (t_st u0 ti27 rfl rfl rfl rfl rfl (.t (.s (.s (.s (.s .z))))) ?_)
  refine c_p (r_as rfl) rfl ?_
  refine t_nil ?_
  refine t_then hK11 ?_
  refine t_seq fun K15 hK16 => ?_
  refine t_region ?_
  refine c_p (r_mv rfl) rfl ?_
  refine c_p (r_i rfl rfl rfl) rfl ?_
  refine t_nil ?_
  refine t_then hK16 ?_
  rcases Bool.eq_false_or_eq_true (y12.2 != 0) with hb17 | hb17
  · replace h := itT hb17 h
    refine t_T rfl hb17 ?_
    refine t_seq fun K18 hK19 => ?_
    refine t_region ?_
    refine c_s (r_ldA a0 Tryd.underlying27 rfl ti27 rfl rfl) rfl ?_
    refine c_p (r_mv rfl) rfl ?_
    refine nx (t_st u2 ti27 rfl rfl rfl rfl rfl (.t (.s (.s (.s (.s .z))))) ?_)
    refine c_p (r_as rfl) rfl ?_
    refine t_nil ?_
    refine t_then hK19 ?_
    refine t_ret ?_
    exact tr (ret2 rfl (v_N rfl a2 Tryd.underlying27 rfl ti27 rfl) (v_t rfl) (t_leave (hQ _ (Option.some.inj h)) (t13.1, t13.2.1, t13.2.2) rfl (fun w Z hA => V0) (.cons e1 .nil)))
  · replace h := itF hb17 h
    refine t_F rfl hb17 ?_
    refine t_skip ?_
    refine t_then hK9 ?_
    refine t_seq fun K20 hK21 => ?_
    refine t_region ?_
    refine c_s (r_ldA a3 Tryd.underlying27 rfl ti27 rfl rfl) rfl ?_
    refine c_p (r_mv rfl) rfl ?_
    obtain ⟨y22, hy22, h⟩ := bs h
    refine nx (t_ca (C45 _ _ _ _ _ _ hy22) Tryd.func45 nm45 rfl rfl rfl .nil (fun w Z hA => (V1 a0 hA (V1 a1 hA V0))) rfl fun t23 => ?_)
    refine c_p (r_as rfl) rfl ?_
    refine t_nil ?_
    refine t_then hK21 ?_
    refine t_seq fun K24 hK25 => ?_
    refine t_seq fun K26 hK27 => ?_
    refine t_region ?_
    refine c_p (r_mv rfl) rfl ?_
    refine c_p (r_i rfl rfl rfl) rfl ?_
    refine t_nil ?_
    refine t_then hK27 ?_
    rcases Bool.eq_false_or_eq_true (decide (y22 < 0)) with hb28 | hb28
    · replace h := itT hb28 h
      refine t_T rfl hb28 ?_
      refine t_seq fun K29 hK30 => ?_
      refine t_region ?_
      refine c_p (r_bu (ps := []) (cs := [.int .i64 0, .slice none 0 0, .bool false, .int .i64 0]) rfl (by kernel_rfl)) rfl ?_
      refine nx (t_st u2 ti27 rfl rfl rfl rfl rfl (.t (.s (.s (.s (.s .z))))) ?_)
      refine c_p (r_as rfl) rfl ?_
      refine t_nil ?_
      refine t_then hK30 ?_
      refine t_ret ?_
      refine t_nr 34 k_api_DiskFile ?_
      exact tr (ret2 rfl (v_N rfl a3 Tryd.underlying27 rfl ti27 rfl) (v_t rfl) (t_leave (hQ _ (Option.some.inj h)) (none, 0, 0) rfl (fun w Z hA => V0) (.cons e0 .nil)))
    · replace h := itF hb28 h
      refine t_F rfl hb28 ?_
      refine t_skip ?_
      refine t_then hK25 ?_
      refine t_seq fun K31 hK32 => ?_
      refine t_region ?_
      refine c_s (r_ldA a3 Tryd.underlying27 rfl ti27 rfl rfl) rfl ?_
      obtain ⟨y33, hy33, h⟩ := bs h
      refine nx (t_ca (C47 _ _ _ _ _ hy33) Tryd.func47 nm47 rfl rfl rfl .nil (fun w Z hA => (V1 a0 hA (V1 a1 hA V0))) rfl fun t34 => ?_)
      obtain ⟨y35, hy35, h⟩ := bs h
      refine nx (t_ca (C46 _ _ _ _ _ hy35) Tryd.func46 nm46 rfl rfl rfl (.cons e0 .nil) (fun w Z hA => (V1 a1 hA V0)) rfl fun t36 => ?_)
      refine c_p (r_mv rfl) rfl ?_
      refine c_p (r_ex rfl rfl) rfl ?_
      refine c_p (r_ex rfl rfl) rfl ?_
      refine nx (t_al (cs := [.int .i64 0, .slice none 0 0, .bool false, .int .i64 0]) ti27 rfl rfl fun g37 => ?_)
      refine nx (t_st u0 ti27 rfl rfl rfl rfl rfl (.t (.s (.s (.s (.s .z))))) ?_)
      refine c_p (r_as rfl) rfl ?_
      refine t_nil ?_
      refine t_then hK32 ?_
      refine t_seq fun K38 hK39 => ?_
      refine t_seq fun K40 hK41 => ?_
      refine t_region ?_
      refine c_p (r_mv rfl) rfl ?_
      refine t_nil ?_
      refine t_then hK41 ?_
      rcases Bool.eq_false_or_eq_true y35.2 with hb42 | hb42
      · replace h := itT hb42 h
        refine t_T rfl hb42 ?_
        refine t_seq fun K43 hK44 => ?_
        refine t_region ?_
        refine c_s (r_ldA a0 Tryd.underlying27 rfl ti27 rfl rfl) rfl ?_
        refine nx (t_st u4 ti27 rfl rfl rfl rfl rfl (.t (.s (.s (.s (.s .z))))) ?_)
        refine c_p (r_as rfl) rfl ?_
        refine t_nil ?_
        refine t_then hK44 ?_
        refine t_ret ?_
        exact tr (ret2 rfl (v_N rfl a4 Tryd.underlying27 rfl ti27 rfl) (v_t rfl) (t_leave (hQ _ (Option.some.inj h)) (t36.1, t36.2.1, t36.2.2) rfl (fun w Z hA => V0) (.cons e1 .nil)))
      · replace h := itF hb42 h
        refine t_F rfl hb42 ?_
        refine t_skip ?_
        refine t_then hK39 ?_
        refine t_seq fun K45 hK46 => ?_
        refine t_draw mixed (fun w_ => True) [] [12] rfl ?_
        refine q_p 0 (panic_then panic_body) rfl (by kernel_rfl) W0 (r_fa (off' := 1) Tryd.underlying27 rfl ti25 rfl rfl) rfl ?_
        refine q_u 1 (panic_then panic_body) rfl (by kernel_rfl) W0 (by kernel_rfl) (r_ld a0 Tryd.underlying25 rfl rfl rfl) rfl ?_
        refine q_p 2 (panic_then panic_body) rfl (by kernel_rfl) W0 (r_mv rfl) rfl ?_
        refine q_p 3 (panic_then panic_body) rfl (by kernel_rfl) W0 (r_fa (off' := 1) Tryd.underlying27 rfl ti25 rfl rfl) rfl ?_
        refine q_u 4 (panic_then panic_body) rfl (by kernel_rfl) W0 (by kernel_rfl) (r_ld a0 Tryd.underlying25 rfl rfl rfl) rfl ?_
        refine q_p 5 (panic_then panic_body) rfl (by kernel_rfl) W0 (r_mv rfl) rfl ?_
        obtain ⟨el52, hel52, h⟩ := bs h
        refine t_qL a1 hel52 fun q49 hq50 hm51 => ?_
        refine q_p 6 (panic_then panic_body) rfl (by kernel_rfl) W0 (r_idx hq50 hm51 hel52 Tryd.underlying25 ti34 rfl rfl) rfl ?_
        refine t_qf hq50 1 fun q53 hq54 => ?_
        refine q_p 7 (panic_then panic_body) rfl (by kernel_rfl) W0 (r_fai hq50 hq54 Tryd.underlying34 rfl ti22 rfl rfl) rfl ?_
        refine t_oI k_api_DiskFile_opensO e1 hel52 fun t55 => ?_
        refine q_u 8 (panic_then panic_body) rfl (by kernel_rfl) W0 (by kernel_rfl) (r_h1 a0 hq54 Tryd.underlying22 rfl rfl rfl) rfl ?_
        refine q_u 9 (panic_then panic_body) rfl (by kernel_rfl) W0 (by kernel_rfl) (r_lnL a1 Tryd.underlying22 rfl) rfl ?_
        refine t_qH a0 hel52 fun q56 hq57 hm58 => ?_
        refine q_p 10 (panic_then panic_body) rfl (by kernel_rfl) W0 (r_idx hq57 hm58 hel52 Tryd.underlying25 ti34 rfl rfl) rfl ?_
        refine t_qf hq57 2 fun q59 hq60 => ?_
        refine q_p 11 (panic_then panic_body) rfl (by kernel_rfl) W0 (r_fai hq57 hq60 Tryd.underlying34 rfl ti3 rfl rfl) rfl ?_
        refine d1 12 rfl (by kernel_rfl) (by kernel_rfl) ?_
        refine t_hs u0 hq60 ti3 rfl rfl rfl rfl rfl (.s (.s (.t (.s .z)))) ?_
        refine dn (by kernel_rfl) ?_
        refine dz (by kernel_rfl) ?_
        refine t_then hK46 ?_
        refine t_seq fun K61 hK62 => ?_
        refine t_region ?_
        refine c_s (r_ldA a2 Tryd.underlying27 rfl ti27 rfl rfl) rfl ?_
        refine nx (t_st u5 ti27 rfl rfl rfl rfl rfl (.t (.s (.s (.s (.s .z))))) ?_)
        refine c_p (r_as rfl) rfl ?_
        refine t_nil ?_
        refine t_then hK62 ?_
        refine t_ret ?_
        refine t_cI (u := (⟨el52.Name, el52.Data, (el52.Data.length : Int)⟩ : api_DiskFile)) (t := (t55.1, t55.2.1, t55.2.2)) k_api_DiskFile_shutsO (.cons e0 (.cons e0 .nil)) rfl (fun w Z hA => trivial) ?_
        have hn63 := at_set (u' := (⟨el52.Name, el52.Data, (el52.Data.length : Int)⟩ : api_DiskFile)) hel52
        exact ret2 rfl (v_N rfl a4 Tryd.underlying27 rfl ti27 rfl) (v_t rfl) (t_leave (hQ _ (Option.some.inj h)) (t36.1, t36.2.1, t36.2.2) rfl (fun w Z hA => V0) (.cons e0 .nil))
end Go.Proofs.YtkjeedijloobgaaDoor.Gx

/- Function 22, kaudit/kauditref24.Truncate: what it answers as a plain function, and that the Go code comes to exactly that (where the plain function gives an answer). -/
set_option linter.unusedVariables false
set_option linter.unusedSimpArgs false
namespace Go.Proofs.YtkjeedijloobgaaDoor.Gx
open Go.Gx Go.RowKit
/-! ### kaudit/kauditref24.Truncate: function 22 -/
def f_kauditref24_Truncate (z0 : api_Disk) (z1 : ByteArray) (z2 : Int) : Option (api_Disk × Int) := (f_kauditref24_begin z0 z1 z1).bind fun y12 => if (y12.2 != 0) = true then (some (y12.1, y12.2)) else ((f_kauditref24_find z0 z1).bind fun y22 => if (decide (y22 < 0)) = true then (some ((⟨0, ([] : List api_DiskFile), false, 0⟩ : api_Disk), 244)) else (if (decide (z2 < 0)) = true then (some ((⟨0, ([] : List api_DiskFile), false, 0⟩ : api_Disk), 246)) else ((at_ z0.Files y22).bind fun el39 => if (decide (z2 > (el39.Data.length : Int))) = true then (some ((⟨0, ([] : List api_DiskFile), false, 0⟩ : api_Disk), 246)) else ((f_kauditref24_Copy z0).bind fun y50 => (f_kauditref24_power y50).bind fun y52 => if y52.2 = true then (some (y52.1, 242)) else ((at_ y52.1.Files y22).bind fun el67 => ck (cutOk el67.Data 0 z2) <| some ((⟨y52.1.Room, (y52.1.Files.set y22.toNat (⟨el67.Name, (cut el67.Data 0 z2), (min el67.Safe z2)⟩ : api_DiskFile)), y52.1.Off, y52.1.Plan⟩ : api_Disk), 0))))))
set_option maxHeartbeats 4000000 in
set_option maxRecDepth 100000 in
theorem C22 (z0 : api_Disk) (z1 : ByteArray) (z2 : Int) (p1 : Option Addr) (m2 : Nat) (c3 : Nat) (r : api_Disk × Int) (h : f_kauditref24_Truncate z0 z1 z2 = some r) : FunG Tryd.prog 22 #[.agg #[.int .i64 z0.Room, .slice p1 m2 c3, .bool z0.Off, .int .i64 z0.Plan], .string z1, .int .i64 z2] [vw (kSlice 34 k_api_DiskFile) z0.Files [.slice p1 m2 c3], g_names] [] (fun t : (Option Addr × Nat × Nat) => .tuple #[.agg #[.int .i64 r.1.Room, .slice t.1 t.2.1 t.2.2, .bool r.1.Off, .int .i64 r.1.Plan], .int .i64 r.2]) (fun t => []) (fun t => [[row 34 k_api_DiskFile r.1.Files (.slice t.1 t.2.1 t.2.2)]]) := by
  unfold f_kauditref24_Truncate at h
  refine t_begin (args := [.agg #[.int .i64 z0.Room, .slice p1 m2 c3, .bool z0.Off, .int .i64 z0.Plan], .string z1, .int .i64 z2]) Tryd.func22 rfl Tryd.ntmps22 rfl fun c R hR => ?_
  have hQ : ∀ X, X = r → ∀ w2 (t : (Option Addr × Nat × Nat)), PostG c.w0 w2 c.M c.Y [] [[row 34 k_api_DiskFile X.1.Files (.slice t.1 t.2.1 t.2.2)]] → R (.returned (.tuple #[.agg #[.int .i64 X.1.Room, .slice t.1 t.2.1 t.2.2, .bool X.1.Off, .int .i64 X.1.Plan], .int .i64 X.2])) w2 := fun X e => by subst e; exact hR
  refine t_seq fun K4 hK5 => ?_
  refine t_region ?_
  refine nx (t_bx (cs := [.int .i64 z0.Room, .slice p1 m2 c3, .bool z0.Off, .int .i64 z0.Plan]) rfl rfl rfl fun g6 => ?_)
  refine nx (t_al (cs := [.int .i64 0, .slice none 0 0, .bool false, .int .i64 0]) ti27 rfl rfl fun g7 => ?_)
  refine c_p (r_as rfl) rfl ?_
  refine t_nil ?_
  refine t_then hK5 ?_
  refine t_seq fun K8 hK9 => ?_
  refine t_seq fun K10 hK11 => ?_
  refine t_region ?_
  refine c_s (r_ldA a1 Tryd.underlying27 rfl ti27 rfl rfl) rfl ?_
  refine c_p (r_mv rfl) rfl ?_
  refine c_p (r_mv rfl) rfl ?_
  obtain ⟨y12, hy12, h⟩ := bs h
  refine nx (t_ca (C44 _ _ _ _ _ _ _ hy12) Tryd.func44 nm44 rfl rfl rfl .nil (fun w Z hA => (V1 a0 hA (V1 a1 hA V0))) rfl fun t13 => ?_)
  refine c_p (r_mv rfl) rfl ?_
  refine c_p (r_ex rfl rfl) rfl ?_
  refine c_p (r_ex rfl rfl) rfl ?_
  refine nx (t_al (cs := [.int .i64 0, .slice none 0 0, .bool false, .int .i64 0]) ti27 rfl rfl fun g14 => ?_)
  refine nx (t_st u0 ti27 rfl rfl rfl rfl rfl (.t (.s (.s (.s (.s .z))))) ?_)
  refine c_p (r_as rfl) rfl ?_
  refine t_nil ?_
  refine t_then hK11 ?_
  refine t_seq fun K15 hK16 => ?_
  refine t_region ?_
  refine c_p (r_mv rfl) rfl ?_
  refine c_p (r_i rfl rfl rfl) rfl ?_
  refine t_nil ?_
  refine t_then hK16 ?_
  rcases Bool.eq_false_or_eq_true (y12.2 != 0) with hb17 | hb17
  · replace h := itT hb17 h
    refine t_T rfl hb17 ?_
    refine t_seq fun K18 hK19 => ?_
    refine t_region ?_
    refine c_s (r_ldA a0 Tryd.underlying27 rfl ti27 rfl rfl) rfl ?_
    refine c_p (r_mv rfl) rfl ?_
    refine nx (t_st u2 ti27 rfl rfl rfl rfl rfl (.t (.s (.s (.s (.s .z))))) ?_)
    refine c_p (r_as rfl) rfl ?_
    refine t_nil ?_
    refine t_then hK19 ?_
    refine t_ret ?_
    exact tr (ret2 rfl (v_N rfl a2 Tryd.underlying27 rfl ti27 rfl) (v_t rfl) (t_leave (hQ _ (Option.some.inj h)) (t13.1, t13.2.1, t13.2.2) rfl (fun w Z hA => V0) (.cons e1 .nil)))
  · replace h := itF hb17 h
    refine t_F rfl hb17 ?_
    refine t_skip ?_
    refine t_then hK9 ?_
    refine t_seq fun K20 hK21 => ?_
    refine t_region ?_
    refine c_s (r_ldA a3 Tryd.underlying27 rfl ti27 rfl rfl) rfl ?_
    refine c_p (r_mv rfl) rfl ?_
    obtain ⟨y22, hy22, h⟩ := bs h
    refine nx (t_ca (C45 _ _ _ _ _ _ hy22) Tryd.func45 nm45 rfl rfl rfl .nil (fun w Z hA => (V1 a0 hA (V1 a1 hA V0))) rfl fun t23 => ?_)
    refine c_p (r_as rfl) rfl ?_
    refine t_nil ?_
    refine t_then hK21 ?_
    refine t_seq fun K24 hK25 => ?_
    refine t_seq fun K26 hK27 => ?_
    refine t_region ?_
    refine c_p (r_mv rfl) rfl ?_
    refine c_p (r_i rfl rfl rfl) rfl ?_
    refine t_nil ?_
    refine t_then hK27 ?_
    rcases Bool.eq_false_or_eq_true (decide (y22 < 0)) with hb28 | hb28
    · replace h := itT hb28 h
      refine t_T rfl hb28 ?_
      refine t_seq fun K29 hK30 => ?_
      refine t_region ?_
      refine c_p (r_bu (ps := []) (cs := [.int .i64 0, .slice none 0 0, .bool false, .int .i64 0]) rfl (by kernel_rfl)) rfl ?_
      refine nx (t_st u2 ti27 rfl rfl rfl rfl rfl (.t (.s (.s (.s (.s .z))))) ?_)
      refine c_p (r_as rfl) rfl ?_
      refine t_nil ?_
      refine t_then hK30 ?_
      refine t_ret ?_
      refine t_nr 34 k_api_DiskFile ?_
      exact tr (ret2 rfl (v_N rfl a3 Tryd.underlying27 rfl ti27 rfl) (v_t rfl) (t_leave (hQ _ (Option.some.inj h)) (none, 0, 0) rfl (fun w Z hA => V0) (.cons e0 .nil)))
    · replace h := itF hb28 h
      refine t_F rfl hb28 ?_
      refine t_skip ?_
      refine t_then hK25 ?_
      refine t_seq fun K31 hK32 => ?_
      refine t_seq fun K33 hK34 => ?_
      refine t_region ?_
      refine c_p (r_mv rfl) rfl ?_
      refine c_p (r_i rfl rfl rfl) rfl ?_
      refine c_p (r_mv rfl) rfl ?_
      rcases Bool.eq_false_or_eq_true (decide (z2 < 0)) with hb35 | hb35
      · replace h := itT hb35 h
        refine nx (pass rfl rfl hb35 rfl ?_)
        refine nx (pass rfl rfl hb35 rfl ?_)
        refine nx (pass rfl rfl hb35 rfl ?_)
        refine nx (pass rfl rfl hb35 rfl ?_)
        refine nx (pass rfl rfl hb35 rfl ?_)
        refine nx (pass rfl rfl hb35 rfl ?_)
        refine nx (pass rfl rfl hb35 rfl ?_)
        refine nx (pass rfl rfl hb35 rfl ?_)
        refine nx (pass rfl rfl hb35 rfl ?_)
        refine c_p (r_pT rfl hb35 rfl) rfl ?_
        refine t_nil ?_
        refine t_then hK34 ?_
        refine t_T rfl rfl ?_
        refine t_seq fun K43 hK44 => ?_
        refine t_region ?_
        refine c_p (r_bu (ps := []) (cs := [.int .i64 0, .slice none 0 0, .bool false, .int .i64 0]) rfl (by kernel_rfl)) rfl ?_
        refine nx (t_st u2 ti27 rfl rfl rfl rfl rfl (.t (.s (.s (.s (.s .z))))) ?_)
        refine c_p (r_as rfl) rfl ?_
        refine t_nil ?_
        refine t_then hK44 ?_
        refine t_ret ?_
        refine t_nr 34 k_api_DiskFile ?_
        exact tr (ret2 rfl (v_N rfl a3 Tryd.underlying27 rfl ti27 rfl) (v_t rfl) (t_leave (hQ _ (Option.some.inj h)) (none, 0, 0) rfl (fun w Z hA => V0) (.cons e0 .nil)))
      · replace h := itF hb35 h
        refine nx (gd rfl rfl hb35 (sp (r_mv rfl) rfl ?_))
        refine nx (gd rfl rfl hb35 (sp (r_fa (off' := 1) Tryd.underlying27 rfl ti25 rfl rfl) rfl ?_))
        refine nx (gd rfl rfl hb35 (ss (r_ld a3 Tryd.underlying25 rfl rfl rfl) rfl ?_))
        refine nx (gd rfl rfl hb35 (sp (r_mv rfl) rfl ?_))
        obtain ⟨el39, hel39, h⟩ := bs h
        refine t_q a0 hel39 fun q36 hq37 hm38 => ?_
        refine nx (gd rfl rfl hb35 (sp (r_idx hq37 hm38 hel39 Tryd.underlying25 ti34 rfl rfl) rfl ?_))
        refine t_qf hq37 1 fun q40 hq41 => ?_
        refine nx (gd rfl rfl hb35 (sp (r_fai hq37 hq41 Tryd.underlying34 rfl ti22 rfl rfl) rfl ?_))
        refine t_op k_api_DiskFile_opens a0 hel39 fun t42 => ?_
        refine nx (gd rfl rfl hb35 (ss (r_e1 a1 hq41 Tryd.underlying22 rfl rfl rfl) rfl ?_))
        refine nx (gd rfl rfl hb35 (ss (r_lnA a0 Tryd.underlying22 rfl) rfl ?_))
        refine nx (gd rfl rfl hb35 (sp (r_i rfl rfl rfl) rfl ?_))
        refine c_p (r_pF rfl hb35 rfl) rfl ?_
        refine t_nil ?_
        refine t_then hK34 ?_
        rcases Bool.eq_false_or_eq_true (decide (z2 > (el39.Data.length : Int))) with hb45 | hb45
        · replace h := itT hb45 h
          refine t_T rfl hb45 ?_
          refine t_seq fun K46 hK47 => ?_
          refine t_region ?_
          refine c_p (r_bu (ps := []) (cs := [.int .i64 0, .slice none 0 0, .bool false, .int .i64 0]) rfl (by kernel_rfl)) rfl ?_
          refine nx (t_st u2 ti27 rfl rfl rfl rfl rfl (.t (.s (.s (.s (.s .z))))) ?_)
          refine c_p (r_as rfl) rfl ?_
          refine t_nil ?_
          refine t_then hK47 ?_
          refine t_ret ?_
          refine t_nr 34 k_api_DiskFile ?_
          exact tr (ret2 rfl (v_N rfl a3 Tryd.underlying27 rfl ti27 rfl) (v_t rfl) (t_leave (hQ _ (Option.some.inj h)) (none, 0, 0) rfl (fun w Z hA => V0) (.cons e0 .nil)))
        · replace h := itF hb45 h
          refine t_F rfl hb45 ?_
          refine t_skip ?_
          refine t_then hK32 ?_
          refine t_seq fun K48 hK49 => ?_
          refine t_region ?_
          refine c_s (r_ldA a3 Tryd.underlying27 rfl ti27 rfl rfl) rfl ?_
          obtain ⟨y50, hy50, h⟩ := bs h
          refine nx (t_ca (C47 _ _ _ _ _ hy50) Tryd.func47 nm47 rfl rfl rfl .nil (fun w Z hA => (V1 a2 hA (V1 a3 hA V0))) rfl fun t51 => ?_)
          obtain ⟨y52, hy52, h⟩ := bs h
          refine nx (t_ca (C46 _ _ _ _ _ hy52) Tryd.func46 nm46 rfl rfl rfl (.cons e0 .nil) (fun w Z hA => (V1 a3 hA V0)) rfl fun t53 => ?_)
          refine c_p (r_mv rfl) rfl ?_
          refine c_p (r_ex rfl rfl) rfl ?_
          refine c_p (r_ex rfl rfl) rfl ?_
          refine nx (t_al (cs := [.int .i64 0, .slice none 0 0, .bool false, .int .i64 0]) ti27 rfl rfl fun g54 => ?_)
          refine nx (t_st u0 ti27 rfl rfl rfl rfl rfl (.t (.s (.s (.s (.s .z))))) ?_)
          refine c_p (r_as rfl) rfl ?_
          refine t_nil ?_
          refine t_then hK49 ?_
          refine t_seq fun K55 hK56 => ?_
          refine t_seq fun K57 hK58 => ?_
          refine t_region ?_
          refine c_p (r_mv rfl) rfl ?_
          refine t_nil ?_
          refine t_then hK58 ?_
          rcases Bool.eq_false_or_eq_true y52.2 with hb59 | hb59
          · replace h := itT hb59 h
            refine t_T rfl hb59 ?_
            refine t_seq fun K60 hK61 => ?_
            refine t_region ?_
            refine c_s (r_ldA a0 Tryd.underlying27 rfl ti27 rfl rfl) rfl ?_
            refine nx (t_st u4 ti27 rfl rfl rfl rfl rfl (.t (.s (.s (.s (.s .z))))) ?_)
            refine c_p (r_as rfl) rfl ?_
            refine t_nil ?_
            refine t_then hK61 ?_
            refine t_ret ?_
            exact tr (ret2 rfl (v_N rfl a4 Tryd.underlying27 rfl ti27 rfl) (v_t rfl) (t_leave (hQ _ (Option.some.inj h)) (t53.1, t53.2.1, t53.2.2) rfl (fun w Z hA => V0) (.cons e1 .nil)))
          · replace h := itF hb59 h
            refine t_F rfl hb59 ?_
            refine t_skip ?_
            refine t_then hK56 ?_
            refine t_seq fun K62 hK63 => ?_
            refine t_region ?_
            refine c_p (r_fa (off' := 1) Tryd.underlying27 rfl ti25 rfl rfl) rfl ?_
            refine c_s (r_ld a0 Tryd.underlying25 rfl rfl rfl) rfl ?_
            refine c_p (r_mv rfl) rfl ?_
            obtain ⟨el67, hel67, h⟩ := bs h
            refine t_qL a1 hel67 fun q64 hq65 hm66 => ?_
            refine c_p (r_idx hq65 hm66 hel67 Tryd.underlying25 ti34 rfl rfl) rfl ?_
            refine c_p (r_as rfl) rfl ?_
            refine t_nil ?_
            refine t_then hK63 ?_
            refine t_seq fun K68 hK69 => ?_
            refine t_draw mixed (fun w_ => True) [] [16, 19] rfl ?_
            refine q_p 0 (panic_then panic_body) rfl (by kernel_rfl) W0 (r_mv rfl) rfl ?_
            refine q_p 1 (panic_then panic_body) rfl (by kernel_rfl) W0 (r_mv rfl) rfl ?_
            refine q_p 2 (panic_then panic_body) rfl (by kernel_rfl) W0 (r_mv rfl) rfl ?_
            refine q_p 3 (panic_then panic_body) rfl (by kernel_rfl) W0 (r_nc rfl) rfl ?_
            refine t_qf hq65 1 fun q72 hq73 => ?_
            refine q_p 4 (panic_then panic_body) rfl (by kernel_rfl) W0 (r_fai hq65 hq73 Tryd.underlying34 rfl ti22 rfl rfl) rfl ?_
            refine t_oI k_api_DiskFile_opensO e1 hel67 fun t74 => ?_
            refine q_u 5 (panic_then panic_body) rfl (by kernel_rfl) W0 (by kernel_rfl) (r_h1 a0 hq73 Tryd.underlying22 rfl rfl rfl) rfl ?_
            refine q_p 6 (panic_then panic_body) rfl (by kernel_rfl) W0 (r_mv rfl) rfl ?_
            obtain ⟨hc75, h⟩ := ck_out h
            refine t_vwq (i := 0) (j := z2) a1 Tryd.underlying22 ti5 hc75 fun t76 hv77 hr78 => ?_
            refine q_p 7 (panic_then panic_body) rfl (by kernel_rfl) W0 (hr78 rfl (.inl ⟨rfl, rfl⟩) (.inr ⟨_, _, rfl, rfl⟩)) rfl ?_
            refine q_p 8 (panic_then panic_body) rfl (by kernel_rfl) W0 (r_mv rfl) rfl ?_
            refine q_p 9 (panic_then panic_body) rfl (by kernel_rfl) W0 (r_nc rfl) rfl ?_
            refine t_qf hq65 2 fun q79 hq80 => ?_
            refine q_p 10 (panic_then panic_body) rfl (by kernel_rfl) W0 (r_fai hq65 hq80 Tryd.underlying34 rfl ti3 rfl rfl) rfl ?_
            refine q_u 11 (panic_then panic_body) rfl (by kernel_rfl) W0 (by kernel_rfl) (r_h1 a0 hq80 Tryd.underlying3 rfl rfl rfl) rfl ?_
            refine q_p 12 (panic_then panic_body) rfl (by kernel_rfl) W0 (r_mv rfl) rfl ?_
            refine q_p 13 (panic_then panic_body) rfl (by kernel_rfl) W0 (r_min rfl rfl) rfl ?_
            refine q_p 14 (panic_then panic_body) rfl (by kernel_rfl) W0 (r_nc rfl) rfl ?_
            refine t_qf hq65 1 fun q81 hq82 => ?_
            refine q_p 15 (panic_then panic_body) rfl (by kernel_rfl) W0 (r_fai hq65 hq82 Tryd.underlying34 rfl ti22 rfl rfl) rfl ?_
            refine d1 16 rfl (by kernel_rfl) (by kernel_rfl) ?_
            refine t_vm (i := 0) (j := z2) e1 hv77 hc75 (.inl rfl) ?_
            refine t_hs u1 hq82 ti22 rfl rfl rfl rfl rfl (.s (.t (.s .z))) ?_
            refine dn (by kernel_rfl) ?_
            refine q_p 17 (panic_then panic_body) rfl (by kernel_rfl) W0 (r_nc rfl) rfl ?_
            refine t_qf hq65 2 fun q83 hq84 => ?_
            refine q_p 18 (panic_then panic_body) rfl (by kernel_rfl) W0 (r_fai hq65 hq84 Tryd.underlying34 rfl ti3 rfl rfl) rfl ?_
            refine d1 19 rfl (by kernel_rfl) (by kernel_rfl) ?_
            refine t_hs u1 hq84 ti3 rfl rfl rfl rfl rfl (.s (.s (.t (.s .z)))) ?_
            refine dn (by kernel_rfl) ?_
            refine dz (by kernel_rfl) ?_
            refine t_then hK69 ?_
            refine t_seq fun K85 hK86 => ?_
            refine t_region ?_
            refine c_s (r_ldA a2 Tryd.underlying27 rfl ti27 rfl rfl) rfl ?_
            refine nx (t_st u5 ti27 rfl rfl rfl rfl rfl (.t (.s (.s (.s (.s .z))))) ?_)
            refine c_p (r_as rfl) rfl ?_
            refine t_nil ?_
            refine t_then hK86 ?_
            refine t_ret ?_
            refine t_cI (u := (⟨el67.Name, (cut el67.Data 0 z2), (min el67.Safe z2)⟩ : api_DiskFile)) (t := (t76.1, t76.2.1, t76.2.2)) k_api_DiskFile_shutsO (.cons e1 (.cons e0 .nil)) rfl (fun w Z hA => trivial) ?_
            have hn87 := at_set (u' := (⟨el67.Name, (cut el67.Data 0 z2), (min el67.Safe z2)⟩ : api_DiskFile)) hel67
            exact ret2 rfl (v_N rfl a4 Tryd.underlying27 rfl ti27 rfl) (v_t rfl) (t_leave (hQ _ (Option.some.inj h)) (t53.1, t53.2.1, t53.2.2) rfl (fun w Z hA => V0) (.cons e0 .nil))
end Go.Proofs.YtkjeedijloobgaaDoor.Gx

/- Function 59, kaudit/kauditref24.without: what it answers as a plain function, and that the Go code comes to exactly that (where the plain function gives an answer). -/
set_option linter.unusedVariables false
set_option linter.unusedSimpArgs false
namespace Go.Proofs.YtkjeedijloobgaaDoor.Gx
open Go.Gx Go.RowKit
/-! ### kaudit/kauditref24.without: function 59 -/
def f_kauditref24_without_l1 (z0 : (List api_DiskFile)) (z1 : ByteArray) : Nat → List api_DiskFile → Int → Option ((List api_DiskFile))
  | 0, _, _ => none
  | k73 + 1, x69, x70 => if (decide (x70 < (z0.length : Int))) = true then ((at_ z0 x70).bind fun el87 => if (el87.Name.toList == z1.toList) = true then (f_kauditref24_without_l1 z0 z1 k73 x69 (IntKind.wrap .i64 (x70 + 1))) else (ck (fits (x69.length + [el87].length) 48 = true) <| f_kauditref24_without_l1 z0 z1 k73 (x69 ++ [el87]) (IntKind.wrap .i64 (x70 + 1)))) else (some x69)
def f_kauditref24_without (z0 : (List api_DiskFile)) (z1 : ByteArray) : Option ((List api_DiskFile)) := f_kauditref24_without_l1 z0 z1 ((((z0.length : Int) : Int) - (0)).toNat + 1) ([] : List api_DiskFile) 0
set_option maxHeartbeats 4000000 in
set_option maxRecDepth 100000 in
theorem C59 (z0 : (List api_DiskFile)) (z1 : ByteArray) (p1 : Option Addr) (m2 : Nat) (c3 : Nat) (r : (List api_DiskFile)) (h : f_kauditref24_without z0 z1 = some r) : FunG Tryd.prog 59 #[.slice p1 m2 c3, .string z1] [vw (kSlice 34 k_api_DiskFile) z0 [.slice p1 m2 c3], g_names] [] (fun t : (Option Addr × Nat × Nat) => .slice t.1 t.2.1 t.2.2) (fun t => []) (fun t => [[row 34 (kShare k_api_DiskFile) r (.slice t.1 t.2.1 t.2.2)]]) := by
  unfold f_kauditref24_without at h
  refine t_begin (args := [.slice p1 m2 c3, .string z1]) Tryd.func59 rfl Tryd.ntmps59 rfl fun c R hR => ?_
  have hQ : ∀ X, X = r → ∀ w2 (t : (Option Addr × Nat × Nat)), PostG c.w0 w2 c.M c.Y [] [[row 34 (kShare k_api_DiskFile) X (.slice t.1 t.2.1 t.2.2)]] → R (.returned (.slice t.1 t.2.1 t.2.2)) w2 := fun X e => by subst e; exact hR
  refine t_seq fun K4 hK5 => ?_
  refine t_region ?_
  refine c_p (r_as rfl) rfl ?_
  refine t_nil ?_
  refine t_then hK5 ?_
  refine t_seq fun K6 hK7 => ?_
  refine t_region ?_
  refine c_p (r_as rfl) rfl ?_
  refine t_nil ?_
  refine t_then hK7 ?_
  refine t_seq fun K8 hK9 => ?_
  refine t_seq fun K10 hK11 => ?_
  refine t_region ?_
  refine c_p (r_mv rfl) rfl ?_
  refine c_s (r_lnA a0 Tryd.underlying25 rfl) rfl ?_
  refine c_p (r_mv rfl) rfl ?_
  refine t_nil ?_
  refine t_then hK11 ?_
  refine t_block ?_
  refine t_nr 34 k_api_DiskFile ?_
  refine t_fe e0 ?_
  refine t_lp fun k64 hk65 => ?_
  have LP71 : ∀ (k73 : Nat) (p66 : Option Addr) (m67 : Nat) (c68 : Nat) (x69 : List api_DiskFile) (x70 : Int), f_kauditref24_without_l1 z0 z1 k73 x69 x70 = some r → T 24 c [vw (kSlice 34 k_api_DiskFile) z0 [.slice p1 m2 c3], g_names] [[row 34 (kShare k_api_DiskFile) x69 (.slice p66 m67 c68)]] [(1, .string z1), (5, .slice p66 m67 c68), (8, .slice p1 m2 c3), (9, .int .i64 (z0.length : Int)), (10, .int .i64 x70)] k64 := by
    intro k73
    induction k73 with
    | zero => intro p66 m67 c68 x69 x70 h72; rewrite [f_kauditref24_without_l1] at h72; cases h72
    | succ k73 ih74 =>
      intro p66 m67 c68 x69 x70 h72
      rewrite [f_kauditref24_without_l1] at h72
      refine ti hk65 ?_
      refine t_seq fun K75 hK76 => ?_
      refine t_region ?_
      refine c_p (r_i rfl rfl rfl) rfl ?_
      refine t_nil ?_
      refine t_then hK76 ?_
      refine t_seq fun K77 hK78 => ?_
      rcases Bool.eq_false_or_eq_true (decide (x70 < (z0.length : Int))) with hb79 | hb79
      · replace h72 := itT hb79 h72
        refine t_T rfl hb79 ?_
        refine t_skip ?_
        refine t_then hK78 ?_
        refine t_seq fun K80 hK81 => ?_
        refine t_block ?_
        refine t_seq fun K82 hK83 => ?_
        refine t_region ?_
        obtain ⟨el87, hel87, h72⟩ := bs h72
        refine t_q a0 hel87 fun q84 hq85 hm86 => ?_
        refine c_p (r_idx hq85 hm86 hel87 Tryd.underlying25 ti34 rfl rfl) rfl ?_
        refine t_op k_api_DiskFile_opens a0 hel87 fun t88 => ?_
        refine c_s (r_eA a1 hq85 Tryd.underlying34 rfl ti34 rfl rfl) rfl ?_
        refine nx (t_al (cs := [.string (⟨#[]⟩ : ByteArray), .slice none 0 0, .int .i64 0]) ti34 rfl rfl fun g89 => ?_)
        refine nx (t_st u0 ti34 rfl rfl rfl rfl rfl (.t (.s (.s (.s .z)))) ?_)
        refine t_nil ?_
        refine t_then hK83 ?_
        refine t_seq fun K90 hK91 => ?_
        refine t_region ?_
        refine c_p (r_fa (off' := 0) Tryd.underlying34 rfl ti9 rfl rfl) rfl ?_
        refine c_s (r_ld a0 Tryd.underlying9 rfl rfl rfl) rfl ?_
        refine c_p (r_mv rfl) rfl ?_
        refine c_p (r_s rfl rfl rfl) rfl ?_
        refine t_nil ?_
        refine t_then hK91 ?_
        rcases Bool.eq_false_or_eq_true (el87.Name.toList == z1.toList) with hb92 | hb92
        · replace h72 := itT hb92 h72
          refine t_F rfl (congrArg Bool.not hb92) ?_
          refine t_skip ?_
          refine t_blockN ?_
          refine t_then hK81 ?_
          refine t_region ?_
          refine c_p (r_i rfl rfl rfl) rfl ?_
          refine c_p (r_mv rfl) rfl ?_
          refine t_nil ?_
          exact t_norm (t_go (ih74 p66 m67 c68 x69 (IntKind.wrap .i64 (x70 + 1)) h72) ⟨rfl, rfl, rfl, rfl, rfl, trivial⟩ (.cons e1 .nil) (fun w Z hA => V1 a2 hA (V1 a3 hA (V0))))
        · replace h72 := itF hb92 h72
          refine t_T rfl (congrArg Bool.not hb92) ?_
          refine t_region ?_
          refine c_p (r_mv rfl) rfl ?_
          refine c_s (r_ldA a0 Tryd.underlying34 rfl ti34 rfl rfl) rfl ?_
          refine nx (t_bs (ps := [(0, .agg #[.string el87.Name, .slice t88.1 t88.2.1 t88.2.2, .int .i64 el87.Safe])]) (cs := [.string el87.Name, .slice t88.1 t88.2.1 t88.2.2, .int .i64 el87.Safe]) Tryd.underlying25 ti34 rfl rfl (by kernel_rfl) rfl fun g93 => ?_)
          obtain ⟨hc94, h72⟩ := ck_out h72
          refine nx (t_app (Kd := (kShare k_api_DiskFile)) (xs := x69) (ys := [el87]) (.cons e2 .nil) rfl rfl Tryd.underlying25 Tryd.underlying25 ti34 rfl rfl hc94 (srcB a0 (fun w Z S hA hN => ER_EO_share (er1 (c1 := [.string el87.Name, .slice t88.1 t88.2.1 t88.2.2, .int .i64 el87.Safe]) (k_api_DiskFile_shuts (x := el87) (t := (t88.1, t88.2.1, t88.2.2)) (V1 a0 hA V0)) er0))) rfl fun t95 => ?_)
          refine c_p (r_as rfl) rfl ?_
          refine t_nil ?_
          refine t_blockN ?_
          refine t_then hK81 ?_
          refine t_region ?_
          refine c_p (r_i rfl rfl rfl) rfl ?_
          refine c_p (r_mv rfl) rfl ?_
          refine t_nil ?_
          exact t_norm (t_go (ih74 t95.1 t95.2.1 t95.2.2 (x69 ++ [el87]) (IntKind.wrap .i64 (x70 + 1)) h72) ⟨rfl, rfl, rfl, rfl, rfl, trivial⟩ (.cons e0 .nil) (fun w Z hA => V1 a2 hA (V1 a3 hA (V0))))
      · replace h72 := itF hb79 h72
        refine t_F rfl hb79 ?_
        refine t_exit ?_
        refine te (te (bx ?_))
        refine t_then hK9 ?_
        refine t_seq fun K96 hK97 => ?_
        refine t_region ?_
        refine c_p (r_mv rfl) rfl ?_
        refine c_p (r_as rfl) rfl ?_
        refine t_nil ?_
        refine t_then hK97 ?_
        refine t_ret ?_
        exact ret1 rfl (v_t rfl) (t_leave (hQ _ (Option.some.inj h72)) (p66, m67, c68) rfl (fun w Z hA => V0) (.cons e0 .nil))
  exact t_go (LP71 ((((z0.length : Int) : Int) - (0)).toNat + 1) none 0 0 ([] : List api_DiskFile) 0 h) ⟨rfl, rfl, rfl, rfl, rfl, trivial⟩ (.cons e0 .nil) (fun w Z hA => V1 a0 hA (V1 a1 hA (V0)))
end Go.Proofs.YtkjeedijloobgaaDoor.Gx

/- Function 24, kaudit/kauditref24.Rename: what it answers as a plain function, and that the Go code comes to exactly that (where the plain function gives an answer). -/
set_option linter.unusedVariables false
set_option linter.unusedSimpArgs false
namespace Go.Proofs.YtkjeedijloobgaaDoor.Gx
open Go.Gx Go.RowKit
/-! ### kaudit/kauditref24.Rename: function 24 -/
def f_kauditref24_Rename (z0 : api_Disk) (z1 : ByteArray) (z2 : ByteArray) : Option (api_Disk × Int) := (f_kauditref24_begin z0 z1 z2).bind fun y12 => if (y12.2 != 0) = true then (some (y12.1, y12.2)) else ((f_kauditref24_find z0 z1).bind fun y22 => if (decide (y22 < 0)) = true then (some ((⟨0, ([] : List api_DiskFile), false, 0⟩ : api_Disk), 244)) else ((f_kauditref24_Copy z0).bind fun y33 => (f_kauditref24_power y33).bind fun y35 => if y35.2 = true then (some (y35.1, 242)) else ((at_ y35.1.Files y22).bind fun el50 => (f_kauditref24_without y35.1.Files z1).bind fun y59 => (f_kauditref24_without y59 z2).bind fun y61 => (f_kauditref24_with y61 (⟨z2, el50.Data, el50.Safe⟩ : api_DiskFile)).bind fun y63 => some ((⟨y35.1.Room, y63, y35.1.Off, y35.1.Plan⟩ : api_Disk), 0))))
set_option maxHeartbeats 4000000 in
set_option maxRecDepth 100000 in
theorem C24 (z0 : api_Disk) (z1 : ByteArray) (z2 : ByteArray) (p1 : Option Addr) (m2 : Nat) (c3 : Nat) (r : api_Disk × Int) (h : f_kauditref24_Rename z0 z1 z2 = some r) : FunG Tryd.prog 24 #[.agg #[.int .i64 z0.Room, .slice p1 m2 c3, .bool z0.Off, .int .i64 z0.Plan], .string z1, .string z2] [vw (kSlice 34 k_api_DiskFile) z0.Files [.slice p1 m2 c3], g_names] [] (fun t : (Option Addr × Nat × Nat) => .tuple #[.agg #[.int .i64 r.1.Room, .slice t.1 t.2.1 t.2.2, .bool r.1.Off, .int .i64 r.1.Plan], .int .i64 r.2]) (fun t => []) (fun t => [[row 34 (kShare k_api_DiskFile) r.1.Files (.slice t.1 t.2.1 t.2.2)]]) := by
  unfold f_kauditref24_Rename at h
  refine t_begin (args := [.agg #[.int .i64 z0.Room, .slice p1 m2 c3, .bool z0.Off, .int .i64 z0.Plan], .string z1, .string z2]) Tryd.func24 rfl Tryd.ntmps24 rfl fun c R hR => ?_
  have hQ : ∀ X, X = r → ∀ w2 (t : (Option Addr × Nat × Nat)), PostG c.w0 w2 c.M c.Y [] [[row 34 (kShare k_api_DiskFile) X.1.Files (.slice t.1 t.2.1 t.2.2)]] → R (.returned (.tuple #[.agg #[.int .i64 X.1.Room, .slice t.1 t.2.1 t.2.2, .bool X.1.Off, .int .i64 X.1.Plan], .int .i64 X.2])) w2 := fun X e => by subst e; exact hR
  refine t_seq fun K4 hK5 => ?_
  refine t_region ?_
  refine nx (t_bx (cs := [.int .i64 z0.Room, .slice p1 m2 c3, .bool z0.Off, .int .i64 z0.Plan]) rfl rfl rfl fun g6 => ?_)
  refine nx (t_al (cs := [.int .i64 0, .slice none 0 0, .bool false, .int .i64 0]) ti27 rfl rfl fun g7 => ?_)
  refine c_p (r_as rfl) rfl ?_
  refine t_nil ?_
  refine t_then hK5 ?_
  refine t_seq fun K8 hK9 => ?_
  refine t_seq fun K10 hK11 => ?_
  refine t_region ?_
  refine c_s (r_ldA a1 Tryd.underlying27 rfl ti27 rfl rfl) rfl ?_
  refine c_p (r_mv rfl) rfl ?_
  refine c_p (r_mv rfl) rfl ?_
  obtain ⟨y12, hy12, h⟩ := bs h
  refine nx (t_ca (C44 _ _ _ _ _ _ _ hy12) Tryd.func44 nm44 rfl rfl rfl .nil (fun w Z hA => (V1 a0 hA (V1 a1 hA V0))) rfl fun t13 => ?_)
  refine c_p (r_mv rfl) rfl ?_
  refine c_p (r_ex rfl rfl) rfl ?_
  refine c_p (r_ex rfl rfl) rfl ?_
  refine nx (t_al (cs := [.int .i64 0, .slice none 0 0, .bool false, .int .i64 0]) ti27 rfl rfl fun g14 => ?_)
  refine nx (t_st u0 ti27 rfl rfl rfl rfl rfl (.t (.s (.s (.s (.s .z))))) ?_)
  refine c_p (r_as rfl) rfl ?_
  refine t_nil ?_
  refine t_then hK11 ?_
  refine t_seq fun K15 hK16 => ?_
  refine t_region ?_
  refine c_p (r_mv rfl) rfl ?_
  refine c_p (r_i rfl rfl rfl) rfl ?_
  refine t_nil ?_
  refine t_then hK16 ?_
  rcases Bool.eq_false_or_eq_true (y12.2 != 0) with hb17 | hb17
  · replace h := itT hb17 h
    refine t_T rfl hb17 ?_
    refine t_seq fun K18 hK19 => ?_
    refine t_region ?_
    refine c_s (r_ldA a0 Tryd.underlying27 rfl ti27 rfl rfl) rfl ?_
    refine c_p (r_mv rfl) rfl ?_
    refine nx (t_st u2 ti27 rfl rfl rfl rfl rfl (.t (.s (.s (.s (.s .z))))) ?_)
    refine c_p (r_as rfl) rfl ?_
    refine t_nil ?_
    refine t_then hK19 ?_
    refine t_ret ?_
    refine t_fe e1 ?_
    exact tr (ret2 rfl (v_N rfl a2 Tryd.underlying27 rfl ti27 rfl) (v_t rfl) (t_leave (hQ _ (Option.some.inj h)) (t13.1, t13.2.1, t13.2.2) rfl (fun w Z hA => V0) (.cons e0 .nil)))
  · replace h := itF hb17 h
    refine t_F rfl hb17 ?_
    refine t_skip ?_
    refine t_then hK9 ?_
    refine t_seq fun K20 hK21 => ?_
    refine t_region ?_
    refine c_s (r_ldA a3 Tryd.underlying27 rfl ti27 rfl rfl) rfl ?_
    refine c_p (r_mv rfl) rfl ?_
    obtain ⟨y22, hy22, h⟩ := bs h
    refine nx (t_ca (C45 _ _ _ _ _ _ hy22) Tryd.func45 nm45 rfl rfl rfl .nil (fun w Z hA => (V1 a0 hA (V1 a1 hA V0))) rfl fun t23 => ?_)
    refine c_p (r_as rfl) rfl ?_
    refine t_nil ?_
    refine t_then hK21 ?_
    refine t_seq fun K24 hK25 => ?_
    refine t_seq fun K26 hK27 => ?_
    refine t_region ?_
    refine c_p (r_mv rfl) rfl ?_
    refine c_p (r_i rfl rfl rfl) rfl ?_
    refine t_nil ?_
    refine t_then hK27 ?_
    rcases Bool.eq_false_or_eq_true (decide (y22 < 0)) with hb28 | hb28
    · replace h := itT hb28 h
      refine t_T rfl hb28 ?_
      refine t_seq fun K29 hK30 => ?_
      refine t_region ?_
      refine c_p (r_bu (ps := []) (cs := [.int .i64 0, .slice none 0 0, .bool false, .int .i64 0]) rfl (by kernel_rfl)) rfl ?_
      refine nx (t_st u2 ti27 rfl rfl rfl rfl rfl (.t (.s (.s (.s (.s .z))))) ?_)
      refine c_p (r_as rfl) rfl ?_
      refine t_nil ?_
      refine t_then hK30 ?_
      refine t_ret ?_
      refine t_nr 34 (kShare k_api_DiskFile) ?_
      exact tr (ret2 rfl (v_N rfl a3 Tryd.underlying27 rfl ti27 rfl) (v_t rfl) (t_leave (hQ _ (Option.some.inj h)) (none, 0, 0) rfl (fun w Z hA => V0) (.cons e0 .nil)))
    · replace h := itF hb28 h
      refine t_F rfl hb28 ?_
      refine t_skip ?_
      refine t_then hK25 ?_
      refine t_seq fun K31 hK32 => ?_
      refine t_region ?_
      refine c_s (r_ldA a3 Tryd.underlying27 rfl ti27 rfl rfl) rfl ?_
      obtain ⟨y33, hy33, h⟩ := bs h
      refine nx (t_ca (C47 _ _ _ _ _ hy33) Tryd.func47 nm47 rfl rfl rfl .nil (fun w Z hA => (V1 a0 hA (V1 a1 hA V0))) rfl fun t34 => ?_)
      obtain ⟨y35, hy35, h⟩ := bs h
      refine nx (t_ca (C46 _ _ _ _ _ hy35) Tryd.func46 nm46 rfl rfl rfl (.cons e0 .nil) (fun w Z hA => (V1 a1 hA V0)) rfl fun t36 => ?_)
      refine t_fe e0 ?_
      refine c_p (r_mv rfl) rfl ?_
      refine c_p (r_ex rfl rfl) rfl ?_
      refine c_p (r_ex rfl rfl) rfl ?_
      refine nx (t_al (cs := [.int .i64 0, .slice none 0 0, .bool false, .int .i64 0]) ti27 rfl rfl fun g37 => ?_)
      refine nx (t_st u0 ti27 rfl rfl rfl rfl rfl (.t (.s (.s (.s (.s .z))))) ?_)
      refine c_p (r_as rfl) rfl ?_
      refine t_nil ?_
      refine t_then hK32 ?_
      refine t_seq fun K38 hK39 => ?_
      refine t_seq fun K40 hK41 => ?_
      refine t_region ?_
      refine c_p (r_mv rfl) rfl ?_
      refine t_nil ?_
      refine t_then hK41 ?_
      rcases Bool.eq_false_or_eq_true y35.2 with hb42 | hb42
      · replace h := itT hb42 h
        refine t_T rfl hb42 ?_
        refine t_seq fun K43 hK44 => ?_
        refine t_region ?_
        refine c_s (r_ldA a0 Tryd.underlying27 rfl ti27 rfl rfl) rfl ?_
        refine nx (t_st u4 ti27 rfl rfl rfl rfl rfl (.t (.s (.s (.s (.s .z))))) ?_)
        refine c_p (r_as rfl) rfl ?_
        refine t_nil ?_
        refine t_then hK44 ?_
        refine t_ret ?_
        exact tr (ret2 rfl (v_N rfl a4 Tryd.underlying27 rfl ti27 rfl) (v_t rfl) (t_leave (hQ _ (Option.some.inj h)) (t36.1, t36.2.1, t36.2.2) rfl (fun w Z hA => V0) (.cons e1 .nil)))
      · replace h := itF hb42 h
        refine t_F rfl hb42 ?_
        refine t_skip ?_
        refine t_then hK39 ?_
        refine t_seq fun K45 hK46 => ?_
        refine t_region ?_
        refine c_p (r_fa (off' := 1) Tryd.underlying27 rfl ti25 rfl rfl) rfl ?_
        refine c_s (r_ld a0 Tryd.underlying25 rfl rfl rfl) rfl ?_
        refine c_p (r_mv rfl) rfl ?_
        obtain ⟨el50, hel50, h⟩ := bs h
        refine t_qL a1 hel50 fun q47 hq48 hm49 => ?_
        refine c_p (r_idx hq48 hm49 hel50 Tryd.underlying25 ti34 rfl rfl) rfl ?_
        refine t_oI (opensO_share k_api_DiskFile_opens) e1 hel50 fun t51 => ?_
        refine c_s (r_hA a0 hq48 Tryd.underlying34 rfl ti34 rfl rfl) rfl ?_
        refine nx (t_al (cs := [.string (⟨#[]⟩ : ByteArray), .slice none 0 0, .int .i64 0]) ti34 rfl rfl fun g52 => ?_)
        refine nx (t_st u0 ti34 rfl rfl rfl rfl rfl (.t (.s (.s (.s .z)))) ?_)
        refine t_nil ?_
        refine t_then hK46 ?_
        refine t_seq fun K53 hK54 => ?_
        refine t_region ?_
        refine c_p (r_mv rfl) rfl ?_
        refine c_p (r_fa (off' := 0) Tryd.underlying34 rfl ti9 rfl rfl) rfl ?_
        refine nx (t_st u0 ti9 rfl rfl rfl rfl rfl (.t (.s .z)) ?_)
        refine t_nil ?_
        refine t_then hK54 ?_
        refine t_seq fun K55 hK56 => ?_
        refine t_draw mixed (fun w_ => Bk g52 [.string z2, .slice t51.1 t51.2.1 t51.2.2, .int .i64 el50.Safe] w_ ∧ True) [6] [3, 5, 7, 9] rfl ?_
        refine q_p 0 (panic_then panic_body) rfl (by kernel_rfl) W0 (r_fa (off' := 1) Tryd.underlying27 rfl ti25 rfl rfl) rfl ?_
        refine q_u 1 (panic_then panic_body) rfl (by kernel_rfl) W0 (by kernel_rfl) (r_ld a2 Tryd.underlying25 rfl rfl rfl) rfl ?_
        refine q_p 2 (panic_then panic_body) rfl (by kernel_rfl) W0 (r_mv rfl) rfl ?_
        refine q_p 4 (panic_then panic_body) rfl (by kernel_rfl) W0 (r_mv rfl) rfl ?_
        refine q_s 6 (panic_then panic_body) rfl (by kernel_rfl) W0 (by kernel_rfl) (fun w H => ⟨bk a0 H, trivial⟩) (b_ldN (fun _ h => h.1) Tryd.underlying34 rfl ti34 rfl (.t (.s (.s (.s .z))))) rfl ?_
        refine d1 3 rfl (by kernel_rfl) (by kernel_rfl) ?_
        refine t_cS (u := el50) (t := (t51.1, t51.2.1, t51.2.2)) (shutsO_share k_api_DiskFile_shuts) hel50 (.cons e1 .nil) rfl (fun w Z hA => (V1 a0 hA V0)) ?_
        refine t_shS e0 ?_
        obtain ⟨y59, hy59, h⟩ := bs h
        refine t_ca (C59 _ _ _ _ _ _ hy59) Tryd.func59 nm59 rfl rfl rfl .nil (fun w Z hA => (V1 a0 hA (V1 a3 hA V0))) rfl fun t60 => ?_
        refine dk (fun w H => ⟨bk a1 H, trivial⟩) ?_
        refine d1 5 rfl (by kernel_rfl) (by kernel_rfl) ?_
        refine t_shS e0 ?_
        obtain ⟨y61, hy61, h⟩ := bs h
        refine t_ca (C59 _ _ _ _ _ _ hy61) Tryd.func59 nm59 rfl rfl rfl .nil (fun w Z hA => (V1 a0 hA (V1 a4 hA V0))) rfl fun t62 => ?_
        refine dk (fun w H => ⟨bk a1 H, trivial⟩) ?_
        refine d1 7 rfl (by kernel_rfl) (by kernel_rfl) ?_
        refine t_shS e0 ?_
        obtain ⟨y63, hy63, h⟩ := bs h
        refine t_ca (C48 _ _ _ _ _ _ _ _ _ hy63) Tryd.func48 nm48 rfl rfl rfl .nil (fun w Z hA => (V1 a0 hA (V1 a3 hA (V1 a5 hA V0)))) rfl fun t64 => ?_
        refine dn (by kernel_rfl) ?_
        refine q_p 8 (panic_then panic_body) rfl (by kernel_rfl) W0 (r_fa (off' := 1) Tryd.underlying27 rfl ti25 rfl rfl) rfl ?_
        refine d1 9 rfl (by kernel_rfl) (by kernel_rfl) ?_
        refine t_st u2 ti25 rfl rfl rfl rfl rfl (.s (.t (.s .z))) ?_
        refine dn (by kernel_rfl) ?_
        refine dz (by kernel_rfl) ?_
        refine t_then hK56 ?_
        refine t_seq fun K65 hK66 => ?_
        refine t_region ?_
        refine c_s (r_ldA a2 Tryd.underlying27 rfl ti27 rfl rfl) rfl ?_
        refine nx (t_st u5 ti27 rfl rfl rfl rfl rfl (.t (.s (.s (.s (.s .z))))) ?_)
        refine c_p (r_as rfl) rfl ?_
        refine t_nil ?_
        refine t_then hK66 ?_
        refine t_ret ?_
        exact ret2 rfl (v_N rfl a5 Tryd.underlying27 rfl ti27 rfl) (v_t rfl) (t_leave (hQ _ (Option.some.inj h)) (t64.1, t64.2.1, t64.2.2) rfl (fun w Z hA => V0) (.cons e0 .nil))
end Go.Proofs.YtkjeedijloobgaaDoor.Gx

/- Function 26, kaudit/kauditref24.Remove: what it answers as a plain function, and that the Go code comes to exactly that (where the plain function gives an answer). -/
set_option linter.unusedVariables false
set_option linter.unusedSimpArgs false
namespace Go.Proofs.YtkjeedijloobgaaDoor.Gx
open Go.Gx Go.RowKit
/-! ### kaudit/kauditref24.Remove: function 26 -/
def f_kauditref24_Remove (z0 : api_Disk) (z1 : ByteArray) : Option (api_Disk × Int) := (f_kauditref24_begin z0 z1 z1).bind fun y12 => if (y12.2 != 0) = true then (some (y12.1, y12.2)) else ((f_kauditref24_find z0 z1).bind fun y24 => if (decide (y24 < 0)) = true then (some ((⟨0, ([] : List api_DiskFile), false, 0⟩ : api_Disk), 244)) else ((f_kauditref24_Copy z0).bind fun y31 => (f_kauditref24_power y31).bind fun y33 => if y33.2 = true then (some (y33.1, 242)) else ((f_kauditref24_without y33.1.Files z1).bind fun y45 => some ((⟨y33.1.Room, y45, y33.1.Off, y33.1.Plan⟩ : api_Disk), 0))))
set_option maxHeartbeats 4000000 in
set_option maxRecDepth 100000 in
theorem C26 (z0 : api_Disk) (z1 : ByteArray) (p1 : Option Addr) (m2 : Nat) (c3 : Nat) (r : api_Disk × Int) (h : f_kauditref24_Remove z0 z1 = some r) : FunG Tryd.prog 26 #[.agg #[.int .i64 z0.Room, .slice p1 m2 c3, .bool z0.Off, .int .i64 z0.Plan], .string z1] [vw (kSlice 34 k_api_DiskFile) z0.Files [.slice p1 m2 c3], g_names] [] (fun t : (Option Addr × Nat × Nat) => .tuple #[.agg #[.int .i64 r.1.Room, .slice t.1 t.2.1 t.2.2, .bool r.1.Off, .int .i64 r.1.Plan], .int .i64 r.2]) (fun t => []) (fun t => [[row 34 (kShare k_api_DiskFile) r.1.Files (.slice t.1 t.2.1 t.2.2)]]) := by
  unfold f_kauditref24_Remove at h
  refine t_begin (args := [.agg #[.int .i64 z0.Room, .slice p1 m2 c3, .bool z0.Off, .int .i64 z0.Plan], .string z1]) Tryd.func26 rfl Tryd.ntmps26 rfl fun c R hR => ?_
  have hQ : ∀ X, X = r → ∀ w2 (t : (Option Addr × Nat × Nat)), PostG c.w0 w2 c.M c.Y [] [[row 34 (kShare k_api_DiskFile) X.1.Files (.slice t.1 t.2.1 t.2.2)]] → R (.returned (.tuple #[.agg #[.int .i64 X.1.Room, .slice t.1 t.2.1 t.2.2, .bool X.1.Off, .int .i64 X.1.Plan], .int .i64 X.2])) w2 := fun X e => by subst e; exact hR
  refine t_seq fun K4 hK5 => ?_
  refine t_region ?_
  refine nx (t_bx (cs := [.int .i64 z0.Room, .slice p1 m2 c3, .bool z0.Off, .int .i64 z0.Plan]) rfl rfl rfl fun g6 => ?_)
  refine nx (t_al (cs := [.int .i64 0, .slice none 0 0, .bool false, .int .i64 0]) ti27 rfl rfl fun g7 => ?_)
  refine c_p (r_as rfl) rfl ?_
  refine t_nil ?_
  refine t_then hK5 ?_
  refine t_seq fun K8 hK9 => ?_
  refine t_seq fun K10 hK11 => ?_
  refine t_region ?_
  refine c_s (r_ldA a1 Tryd.underlying27 rfl ti27 rfl rfl) rfl ?_
  refine c_p (r_mv rfl) rfl ?_
  refine c_p (r_mv rfl) rfl ?_
  obtain ⟨y12, hy12, h⟩ := bs h
  refine nx (t_ca (C44 _ _ _ _ _ _ _ hy12) Tryd.func44 nm44 rfl rfl rfl .nil (fun w Z hA => (V1 a0 hA (V1 a1 hA V0))) rfl fun t13 => ?_)
  refine c_p (r_mv rfl) rfl ?_
  refine c_p (r_ex rfl rfl) rfl ?_
  refine c_p (r_ex rfl rfl) rfl ?_
  refine nx (t_al (cs := [.int .i64 0, .slice none 0 0, .bool false, .int .i64 0]) ti27 rfl rfl fun g14 => ?_)
  refine nx (t_st u0 ti27 rfl rfl rfl rfl rfl (.t (.s (.s (.s (.s .z))))) ?_)
  refine c_p (r_as rfl) rfl ?_
  refine t_nil ?_
  refine t_then hK11 ?_
  refine t_seq fun K15 hK16 => ?_
  refine t_region ?_
  refine c_p (r_mv rfl) rfl ?_
  refine c_p (r_i rfl rfl rfl) rfl ?_
  refine t_nil ?_
  refine t_then hK16 ?_
  rcases Bool.eq_false_or_eq_true (y12.2 != 0) with hb17 | hb17
  · replace h := itT hb17 h
    refine t_T rfl hb17 ?_
    refine t_seq fun K18 hK19 => ?_
    refine t_region ?_
    refine c_s (r_ldA a0 Tryd.underlying27 rfl ti27 rfl rfl) rfl ?_
    refine c_p (r_mv rfl) rfl ?_
    refine nx (t_st u2 ti27 rfl rfl rfl rfl rfl (.t (.s (.s (.s (.s .z))))) ?_)
    refine c_p (r_as rfl) rfl ?_
    refine t_nil ?_
    refine t_then hK19 ?_
    refine t_ret ?_
    refine t_fe e1 ?_
    exact tr (ret2 rfl (v_N rfl a2 Tryd.underlying27 rfl ti27 rfl) (v_t rfl) (t_leave (hQ _ (Option.some.inj h)) (t13.1, t13.2.1, t13.2.2) rfl (fun w Z hA => V0) (.cons e0 .nil)))
  · replace h := itF hb17 h
    refine t_F rfl hb17 ?_
    refine t_skip ?_
    refine t_then hK9 ?_
    refine t_seq fun K20 hK21 => ?_
    refine t_seq fun K22 hK23 => ?_
    refine t_region ?_
    refine c_s (r_ldA a3 Tryd.underlying27 rfl ti27 rfl rfl) rfl ?_
    refine c_p (r_mv rfl) rfl ?_
    obtain ⟨y24, hy24, h⟩ := bs h
    refine nx (t_ca (C45 _ _ _ _ _ _ hy24) Tryd.func45 nm45 rfl rfl rfl .nil (fun w Z hA => (V1 a0 hA (V1 a1 hA V0))) rfl fun t25 => ?_)
    refine c_p (r_i rfl rfl rfl) rfl ?_
    refine t_nil ?_
    refine t_then hK23 ?_
    rcases Bool.eq_false_or_eq_true (decide (y24 < 0)) with hb26 | hb26
    · replace h := itT hb26 h
      refine t_T rfl hb26 ?_
      refine t_seq fun K27 hK28 => ?_
      refine t_region ?_
      refine c_p (r_bu (ps := []) (cs := [.int .i64 0, .slice none 0 0, .bool false, .int .i64 0]) rfl (by kernel_rfl)) rfl ?_
      refine nx (t_st u2 ti27 rfl rfl rfl rfl rfl (.t (.s (.s (.s (.s .z))))) ?_)
      refine c_p (r_as rfl) rfl ?_
      refine t_nil ?_
      refine t_then hK28 ?_
      refine t_ret ?_
      refine t_nr 34 (kShare k_api_DiskFile) ?_
      exact tr (ret2 rfl (v_N rfl a3 Tryd.underlying27 rfl ti27 rfl) (v_t rfl) (t_leave (hQ _ (Option.some.inj h)) (none, 0, 0) rfl (fun w Z hA => V0) (.cons e0 .nil)))
    · replace h := itF hb26 h
      refine t_F rfl hb26 ?_
      refine t_skip ?_
      refine t_then hK21 ?_
      refine t_seq fun K29 hK30 => ?_
      refine t_region ?_
      refine c_s (r_ldA a3 Tryd.underlying27 rfl ti27 rfl rfl) rfl ?_
      obtain ⟨y31, hy31, h⟩ := bs h
      refine nx (t_ca (C47 _ _ _ _ _ hy31) Tryd.func47 nm47 rfl rfl rfl .nil (fun w Z hA => (V1 a0 hA (V1 a1 hA V0))) rfl fun t32 => ?_)
      obtain ⟨y33, hy33, h⟩ := bs h
      refine nx (t_ca (C46 _ _ _ _ _ hy33) Tryd.func46 nm46 rfl rfl rfl (.cons e0 .nil) (fun w Z hA => (V1 a1 hA V0)) rfl fun t34 => ?_)
      refine c_p (r_mv rfl) rfl ?_
      refine c_p (r_ex rfl rfl) rfl ?_
      refine c_p (r_ex rfl rfl) rfl ?_
      refine nx (t_al (cs := [.int .i64 0, .slice none 0 0, .bool false, .int .i64 0]) ti27 rfl rfl fun g35 => ?_)
      refine nx (t_st u0 ti27 rfl rfl rfl rfl rfl (.t (.s (.s (.s (.s .z))))) ?_)
      refine c_p (r_as rfl) rfl ?_
      refine t_nil ?_
      refine t_then hK30 ?_
      refine t_seq fun K36 hK37 => ?_
      refine t_seq fun K38 hK39 => ?_
      refine t_region ?_
      refine c_p (r_mv rfl) rfl ?_
      refine t_nil ?_
      refine t_then hK39 ?_
      rcases Bool.eq_false_or_eq_true y33.2 with hb40 | hb40
      · replace h := itT hb40 h
        refine t_T rfl hb40 ?_
        refine t_seq fun K41 hK42 => ?_
        refine t_region ?_
        refine c_s (r_ldA a0 Tryd.underlying27 rfl ti27 rfl rfl) rfl ?_
        refine nx (t_st u4 ti27 rfl rfl rfl rfl rfl (.t (.s (.s (.s (.s .z))))) ?_)
        refine c_p (r_as rfl) rfl ?_
        refine t_nil ?_
        refine t_then hK42 ?_
        refine t_ret ?_
        refine t_fe e1 ?_
        exact tr (ret2 rfl (v_N rfl a4 Tryd.underlying27 rfl ti27 rfl) (v_t rfl) (t_leave (hQ _ (Option.some.inj h)) (t34.1, t34.2.1, t34.2.2) rfl (fun w Z hA => V0) (.cons e0 .nil)))
      · replace h := itF hb40 h
        refine t_F rfl hb40 ?_
        refine t_skip ?_
        refine t_then hK37 ?_
        refine t_seq fun K43 hK44 => ?_
        refine t_region ?_
        refine c_p (r_fa (off' := 1) Tryd.underlying27 rfl ti25 rfl rfl) rfl ?_
        refine c_s (r_ld a0 Tryd.underlying25 rfl rfl rfl) rfl ?_
        refine c_p (r_mv rfl) rfl ?_
        refine t_sh e1 ?_
        obtain ⟨y45, hy45, h⟩ := bs h
        refine nx (t_ca (C59 _ _ _ _ _ _ hy45) Tryd.func59 nm59 rfl rfl rfl .nil (fun w Z hA => (V1 a0 hA (V1 a2 hA V0))) rfl fun t46 => ?_)
        refine c_p (r_fa (off' := 1) Tryd.underlying27 rfl ti25 rfl rfl) rfl ?_
        refine nx (t_st u1 ti25 rfl rfl rfl rfl rfl (.s (.t (.s .z))) ?_)
        refine t_nil ?_
        refine t_then hK44 ?_
        refine t_seq fun K47 hK48 => ?_
        refine t_region ?_
        refine c_s (r_ldA a1 Tryd.underlying27 rfl ti27 rfl rfl) rfl ?_
        refine nx (t_st u4 ti27 rfl rfl rfl rfl rfl (.t (.s (.s (.s (.s .z))))) ?_)
        refine c_p (r_as rfl) rfl ?_
        refine t_nil ?_
        refine t_then hK48 ?_
        refine t_ret ?_
        exact ret2 rfl (v_N rfl a4 Tryd.underlying27 rfl ti27 rfl) (v_t rfl) (t_leave (hQ _ (Option.some.inj h)) (t46.1, t46.2.1, t46.2.2) rfl (fun w Z hA => V0) (.cons e0 .nil))
end Go.Proofs.YtkjeedijloobgaaDoor.Gx

/- Function 27, kaudit/disk.Fail: what it answers as a plain function, and that the Go code comes to exactly that (where the plain function gives an answer). -/
set_option linter.unusedVariables false
set_option linter.unusedSimpArgs false
namespace Go.Proofs.YtkjeedijloobgaaDoor.Gx
open Go.Gx Go.RowKit
/-! ### kaudit/disk.Fail: function 27 -/
def f_disk_Fail (z0 : api_Disk) (z1 : Int) : Option (api_Disk × Int) := (f_disk_Valid z0).bind fun y12 => if y12 = true then (if (decide (z1 < 0)) = true then (some ((⟨0, ([] : List api_DiskFile), false, 0⟩ : api_Disk), 246)) else (if (decide (z1 > 10000)) = true then (some ((⟨0, ([] : List api_DiskFile), false, 0⟩ : api_Disk), 246)) else ((f_fresh_Disk z0).bind fun y29 => some ((⟨y29.Room, y29.Files, y29.Off, z1⟩ : api_Disk), 0)))) else (some ((⟨0, ([] : List api_DiskFile), false, 0⟩ : api_Disk), 241))
set_option maxHeartbeats 4000000 in
set_option maxRecDepth 100000 in
theorem C27 (z0 : api_Disk) (z1 : Int) (p1 : Option Addr) (m2 : Nat) (c3 : Nat) (r : api_Disk × Int) (h : f_disk_Fail z0 z1 = some r) : FunG Tryd.prog 27 #[.agg #[.int .i64 z0.Room, .slice p1 m2 c3, .bool z0.Off, .int .i64 z0.Plan], .int .i64 z1] [vw (kSlice 34 k_api_DiskFile) z0.Files [.slice p1 m2 c3], g_names] [] (fun t : (Option Addr × Nat × Nat) => .tuple #[.agg #[.int .i64 r.1.Room, .slice t.1 t.2.1 t.2.2, .bool r.1.Off, .int .i64 r.1.Plan], .int .i64 r.2]) (fun t => []) (fun t => [[row 34 k_api_DiskFile r.1.Files (.slice t.1 t.2.1 t.2.2)]]) := by
  unfold f_disk_Fail at h
  refine t_begin (args := [.agg #[.int .i64 z0.Room, .slice p1 m2 c3, .bool z0.Off, .int .i64 z0.Plan], .int .i64 z1]) Tryd.func27 rfl Tryd.ntmps27 rfl fun c R hR => ?_
  have hQ : ∀ X, X = r → ∀ w2 (t : (Option Addr × Nat × Nat)), PostG c.w0 w2 c.M c.Y [] [[row 34 k_api_DiskFile X.1.Files (.slice t.1 t.2.1 t.2.2)]] → R (.returned (.tuple #[.agg #[.int .i64 X.1.Room, .slice t.1 t.2.1 t.2.2, .bool X.1.Off, .int .i64 X.1.Plan], .int .i64 X.2])) w2 := fun X e => by subst e; exact hR
  refine t_seq fun K4 hK5 => ?_
  refine t_region ?_
  refine nx (t_bx (cs := [.int .i64 z0.Room, .slice p1 m2 c3, .bool z0.Off, .int .i64 z0.Plan]) rfl rfl rfl fun g6 => ?_)
  refine nx (t_al (cs := [.int .i64 0, .slice none 0 0, .bool false, .int .i64 0]) ti27 rfl rfl fun g7 => ?_)
  refine c_p (r_as rfl) rfl ?_
  refine t_nil ?_
  refine t_then hK5 ?_
  refine t_seq fun K8 hK9 => ?_
  refine t_seq fun K10 hK11 => ?_
  refine t_region ?_
  refine c_s (r_ldA a1 Tryd.underlying27 rfl ti27 rfl rfl) rfl ?_
  obtain ⟨y12, hy12, h⟩ := bs h
  refine nx (t_ca (C10 _ _ _ _ _ hy12) Tryd.func10 nm10 rfl rfl rfl .nil (fun w Z hA => (V1 a0 hA (V1 a1 hA V0))) rfl fun t13 => ?_)
  refine c_p (r_not rfl) rfl ?_
  refine t_nil ?_
  refine t_then hK11 ?_
  rcases Bool.eq_false_or_eq_true y12 with hb14 | hb14
  · replace h := itT hb14 h
    refine t_F rfl (congrArg Bool.not hb14) ?_
    refine t_skip ?_
    refine t_then hK9 ?_
    refine t_seq fun K17 hK18 => ?_
    refine t_seq fun K19 hK20 => ?_
    refine t_region ?_
    refine c_p (r_mv rfl) rfl ?_
    refine c_p (r_i rfl rfl rfl) rfl ?_
    refine c_p (r_mv rfl) rfl ?_
    rcases Bool.eq_false_or_eq_true (decide (z1 < 0)) with hb21 | hb21
    · replace h := itT hb21 h
      refine nx (pass rfl rfl hb21 rfl ?_)
      refine nx (pass rfl rfl hb21 rfl ?_)
      refine c_p (r_pT rfl hb21 rfl) rfl ?_
      refine t_nil ?_
      refine t_then hK20 ?_
      refine t_T rfl rfl ?_
      refine t_seq fun K22 hK23 => ?_
      refine t_region ?_
      refine c_p (r_bu (ps := []) (cs := [.int .i64 0, .slice none 0 0, .bool false, .int .i64 0]) rfl (by kernel_rfl)) rfl ?_
      refine nx (t_st u0 ti27 rfl rfl rfl rfl rfl (.t (.s (.s (.s (.s .z))))) ?_)
      refine c_p (r_as rfl) rfl ?_
      refine t_nil ?_
      refine t_then hK23 ?_
      refine t_ret ?_
      refine t_nr 34 k_api_DiskFile ?_
      exact tr (ret2 rfl (v_N rfl a1 Tryd.underlying27 rfl ti27 rfl) (v_t rfl) (t_leave (hQ _ (Option.some.inj h)) (none, 0, 0) rfl (fun w Z hA => V0) (.cons e0 .nil)))
    · replace h := itF hb21 h
      refine nx (gd rfl rfl hb21 (sp (r_mv rfl) rfl ?_))
      refine nx (gd rfl rfl hb21 (sp (r_i rfl rfl rfl) rfl ?_))
      refine c_p (r_pF rfl hb21 rfl) rfl ?_
      refine t_nil ?_
      refine t_then hK20 ?_
      rcases Bool.eq_false_or_eq_true (decide (z1 > 10000)) with hb24 | hb24
      · replace h := itT hb24 h
        refine t_T rfl hb24 ?_
        refine t_seq fun K25 hK26 => ?_
        refine t_region ?_
        refine c_p (r_bu (ps := []) (cs := [.int .i64 0, .slice none 0 0, .bool false, .int .i64 0]) rfl (by kernel_rfl)) rfl ?_
        refine nx (t_st u0 ti27 rfl rfl rfl rfl rfl (.t (.s (.s (.s (.s .z))))) ?_)
        refine c_p (r_as rfl) rfl ?_
        refine t_nil ?_
        refine t_then hK26 ?_
        refine t_ret ?_
        refine t_nr 34 k_api_DiskFile ?_
        exact tr (ret2 rfl (v_N rfl a1 Tryd.underlying27 rfl ti27 rfl) (v_t rfl) (t_leave (hQ _ (Option.some.inj h)) (none, 0, 0) rfl (fun w Z hA => V0) (.cons e0 .nil)))
      · replace h := itF hb24 h
        refine t_F rfl hb24 ?_
        refine t_skip ?_
        refine t_then hK18 ?_
        refine t_seq fun K27 hK28 => ?_
        refine t_region ?_
        refine c_s (r_ldA a1 Tryd.underlying27 rfl ti27 rfl rfl) rfl ?_
        obtain ⟨y29, hy29, h⟩ := bs h
        refine nx (t_ca (C61 _ _ _ _ _ hy29) Tryd.func61 nm61 rfl rfl rfl .nil (fun w Z hA => (V1 a0 hA (V1 a1 hA V0))) rfl fun t30 => ?_)
        refine nx (t_al (cs := [.int .i64 0, .slice none 0 0, .bool false, .int .i64 0]) ti27 rfl rfl fun g31 => ?_)
        refine nx (t_st u0 ti27 rfl rfl rfl rfl rfl (.t (.s (.s (.s (.s .z))))) ?_)
        refine t_nil ?_
        refine t_then hK28 ?_
        refine t_seq fun K32 hK33 => ?_
        refine t_region ?_
        refine c_p (r_mv rfl) rfl ?_
        refine c_p (r_fa (off' := 3) Tryd.underlying27 rfl ti3 rfl rfl) rfl ?_
        refine nx (t_st u0 ti3 rfl rfl rfl rfl rfl (.s (.s (.s (.t (.s .z))))) ?_)
        refine t_nil ?_
        refine t_then hK33 ?_
        refine t_seq fun K34 hK35 => ?_
        refine t_region ?_
        refine c_s (r_ldA a0 Tryd.underlying27 rfl ti27 rfl rfl) rfl ?_
        refine nx (t_st u2 ti27 rfl rfl rfl rfl rfl (.t (.s (.s (.s (.s .z))))) ?_)
        refine c_p (r_as rfl) rfl ?_
        refine t_nil ?_
        refine t_then hK35 ?_
        refine t_ret ?_
        exact ret2 rfl (v_N rfl a2 Tryd.underlying27 rfl ti27 rfl) (v_t rfl) (t_leave (hQ _ (Option.some.inj h)) (t30.1, t30.2.1, t30.2.2) rfl (fun w Z hA => V0) (.cons e1 .nil))
  · replace h := itF hb14 h
    refine t_T rfl (congrArg Bool.not hb14) ?_
    refine t_seq fun K15 hK16 => ?_
    refine t_region ?_
    refine c_p (r_bu (ps := []) (cs := [.int .i64 0, .slice none 0 0, .bool false, .int .i64 0]) rfl (by kernel_rfl)) rfl ?_
    refine nx (t_st u0 ti27 rfl rfl rfl rfl rfl (.t (.s (.s (.s (.s .z))))) ?_)
    refine c_p (r_as rfl) rfl ?_
    refine t_nil ?_
    refine t_then hK16 ?_
    refine t_ret ?_
    refine t_nr 34 k_api_DiskFile ?_
    exact tr (ret2 rfl (v_N rfl a1 Tryd.underlying27 rfl ti27 rfl) (v_t rfl) (t_leave (hQ _ (Option.some.inj h)) (none, 0, 0) rfl (fun w Z hA => V0) (.cons e0 .nil)))
end Go.Proofs.YtkjeedijloobgaaDoor.Gx

/- Function 28, kaudit/kauditref24.Fail: what it answers as a plain function, and that the Go code comes to exactly that (where the plain function gives an answer). -/
set_option linter.unusedVariables false
set_option linter.unusedSimpArgs false
namespace Go.Proofs.YtkjeedijloobgaaDoor.Gx
open Go.Gx Go.RowKit
/-! ### kaudit/kauditref24.Fail: function 28 -/
def f_kauditref24_Fail (z0 : api_Disk) (z1 : Int) : Option (api_Disk × Int) := (f_kauditref24_Valid z0).bind fun y12 => if y12 = true then (if (decide (z1 < 0)) = true then (some ((⟨0, ([] : List api_DiskFile), false, 0⟩ : api_Disk), 246)) else (if (decide (z1 > 10000)) = true then (some ((⟨0, ([] : List api_DiskFile), false, 0⟩ : api_Disk), 246)) else ((f_kauditref24_Copy z0).bind fun y29 => some ((⟨y29.Room, y29.Files, y29.Off, z1⟩ : api_Disk), 0)))) else (some ((⟨0, ([] : List api_DiskFile), false, 0⟩ : api_Disk), 241))
set_option maxHeartbeats 4000000 in
set_option maxRecDepth 100000 in
theorem C28 (z0 : api_Disk) (z1 : Int) (p1 : Option Addr) (m2 : Nat) (c3 : Nat) (r : api_Disk × Int) (h : f_kauditref24_Fail z0 z1 = some r) : FunG Tryd.prog 28 #[.agg #[.int .i64 z0.Room, .slice p1 m2 c3, .bool z0.Off, .int .i64 z0.Plan], .int .i64 z1] [vw (kSlice 34 k_api_DiskFile) z0.Files [.slice p1 m2 c3], g_names] [] (fun t : (Option Addr × Nat × Nat) => .tuple #[.agg #[.int .i64 r.1.Room, .slice t.1 t.2.1 t.2.2, .bool r.1.Off, .int .i64 r.1.Plan], .int .i64 r.2]) (fun t => []) (fun t => [[row 34 k_api_DiskFile r.1.Files (.slice t.1 t.2.1 t.2.2)]]) := by
  unfold f_kauditref24_Fail at h
  refine t_begin (args := [.agg #[.int .i64 z0.Room, .slice p1 m2 c3, .bool z0.Off, .int .i64 z0.Plan], .int .i64 z1]) Tryd.func28 rfl Tryd.ntmps28 rfl fun c R hR => ?_
  have hQ : ∀ X, X = r → ∀ w2 (t : (Option Addr × Nat × Nat)), PostG c.w0 w2 c.M c.Y [] [[row 34 k_api_DiskFile X.1.Files (.slice t.1 t.2.1 t.2.2)]] → R (.returned (.tuple #[.agg #[.int .i64 X.1.Room, .slice t.1 t.2.1 t.2.2, .bool X.1.Off, .int .i64 X.1.Plan], .int .i64 X.2])) w2 := fun X e => by subst e; exact hR
  refine t_seq fun K4 hK5 => ?_
  refine t_region ?_
  refine nx (t_bx (cs := [.int .i64 z0.Room, .slice p1 m2 c3, .bool z0.Off, .int .i64 z0.Plan]) rfl rfl rfl fun g6 => ?_)
  refine nx (t_al (cs := [.int .i64 0, .slice none 0 0, .bool false, .int .i64 0]) ti27 rfl rfl fun g7 => ?_)
  refine c_p (r_as rfl) rfl ?_
  refine t_nil ?_
  refine t_then hK5 ?_
  refine t_seq fun K8 hK9 => ?_
  refine t_seq fun K10 hK11 => ?_
  refine t_region ?_
  refine c_s (r_ldA a1 Tryd.underlying27 rfl ti27 rfl rfl) rfl ?_
  obtain ⟨y12, hy12, h⟩ := bs h
  refine nx (t_ca (C62 _ _ _ _ _ hy12) Tryd.func62 nm62 rfl rfl rfl .nil (fun w Z hA => (V1 a0 hA (V1 a1 hA V0))) rfl fun t13 => ?_)
  refine c_p (r_not rfl) rfl ?_
  refine t_nil ?_
  refine t_then hK11 ?_
  rcases Bool.eq_false_or_eq_true y12 with hb14 | hb14
  · replace h := itT hb14 h
    refine t_F rfl (congrArg Bool.not hb14) ?_
    refine t_skip ?_
    refine t_then hK9 ?_
    refine t_seq fun K17 hK18 => ?_
    refine t_seq fun K19 hK20 => ?_
    refine t_region ?_
    refine c_p (r_mv rfl) rfl ?_
    refine c_p (r_i rfl rfl rfl) rfl ?_
    refine c_p (r_mv rfl) rfl ?_
    rcases Bool.eq_false_or_eq_true (decide (z1 < 0)) with hb21 | hb21
    · replace h := itT hb21 h
      refine nx (pass rfl rfl hb21 rfl ?_)
      refine nx (pass rfl rfl hb21 rfl ?_)
      refine c_p (r_pT rfl hb21 rfl) rfl ?_
      refine t_nil ?_
      refine t_then hK20 ?_
      refine t_T rfl rfl ?_
      refine t_seq fun K22 hK23 => ?_
      refine t_region ?_
      refine c_p (r_bu (ps := []) (cs := [.int .i64 0, .slice none 0 0, .bool false, .int .i64 0]) rfl (by kernel_rfl)) rfl ?_
      refine nx (t_st u0 ti27 rfl rfl rfl rfl rfl (.t (.s (.s (.s (.s .z))))) ?_)
      refine c_p (r_as rfl) rfl ?_
      refine t_nil ?_
      refine t_then hK23 ?_
      refine t_ret ?_
      refine t_nr 34 k_api_DiskFile ?_
      exact tr (ret2 rfl (v_N rfl a1 Tryd.underlying27 rfl ti27 rfl) (v_t rfl) (t_leave (hQ _ (Option.some.inj h)) (none, 0, 0) rfl (fun w Z hA => V0) (.cons e0 .nil)))
    · replace h := itF hb21 h
      refine nx (gd rfl rfl hb21 (sp (r_mv rfl) rfl ?_))
      refine nx (gd rfl rfl hb21 (sp (r_i rfl rfl rfl) rfl ?_))
      refine c_p (r_pF rfl hb21 rfl) rfl ?_
      refine t_nil ?_
      refine t_then hK20 ?_
      rcases Bool.eq_false_or_eq_true (decide (z1 > 10000)) with hb24 | hb24
      · replace h := itT hb24 h
        refine t_T rfl hb24 ?_
        refine t_seq fun K25 hK26 => ?_
        refine t_region ?_
        refine c_p (r_bu (ps := []) (cs := [.int .i64 0, .slice none 0 0, .bool false, .int .i64 0]) rfl (by kernel_rfl)) rfl ?_
        refine nx (t_st u0 ti27 rfl rfl rfl rfl rfl (.t (.s (.s (.s (.s .z))))) ?_)
        refine c_p (r_as rfl) rfl ?_
        refine t_nil ?_
        refine t_then hK26 ?_
        refine t_ret ?_
        refine t_nr 34 k_api_DiskFile ?_
        exact tr (ret2 rfl (v_N rfl a1 Tryd.underlying27 rfl ti27 rfl) (v_t rfl) (t_leave (hQ _ (Option.some.inj h)) (none, 0, 0) rfl (fun w Z hA => V0) (.cons e0 .nil)))
      · replace h := itF hb24 h
        refine t_F rfl hb24 ?_
        refine t_skip ?_
        refine t_then hK18 ?_
        refine t_seq fun K27 hK28 => ?_
        refine t_region ?_
        refine c_s (r_ldA a1 Tryd.underlying27 rfl ti27 rfl rfl) rfl ?_
        obtain ⟨y29, hy29, h⟩ := bs h
        refine nx (t_ca (C47 _ _ _ _ _ hy29) Tryd.func47 nm47 rfl rfl rfl .nil (fun w Z hA => (V1 a0 hA (V1 a1 hA V0))) rfl fun t30 => ?_)
        refine nx (t_al (cs := [.int .i64 0, .slice none 0 0, .bool false, .int .i64 0]) ti27 rfl rfl fun g31 => ?_)
        refine nx (t_st u0 ti27 rfl rfl rfl rfl rfl (.t (.s (.s (.s (.s .z))))) ?_)
        refine t_nil ?_
        refine t_then hK28 ?_
        refine t_seq fun K32 hK33 => ?_
        refine t_region ?_
        refine c_p (r_mv rfl) rfl ?_
        refine c_p (r_fa (off' := 3) Tryd.underlying27 rfl ti3 rfl rfl) rfl ?_
        refine nx (t_st u0 ti3 rfl rfl rfl rfl rfl (.s (.s (.s (.t (.s .z))))) ?_)
        refine t_nil ?_
        refine t_then hK33 ?_
        refine t_seq fun K34 hK35 => ?_
        refine t_region ?_
        refine c_s (r_ldA a0 Tryd.underlying27 rfl ti27 rfl rfl) rfl ?_
        refine nx (t_st u2 ti27 rfl rfl rfl rfl rfl (.t (.s (.s (.s (.s .z))))) ?_)
        refine c_p (r_as rfl) rfl ?_
        refine t_nil ?_
        refine t_then hK35 ?_
        refine t_ret ?_
        exact ret2 rfl (v_N rfl a2 Tryd.underlying27 rfl ti27 rfl) (v_t rfl) (t_leave (hQ _ (Option.some.inj h)) (t30.1, t30.2.1, t30.2.2) rfl (fun w Z hA => V0) (.cons e1 .nil))
  · replace h := itF hb14 h
    refine t_T rfl (congrArg Bool.not hb14) ?_
    refine t_seq fun K15 hK16 => ?_
    refine t_region ?_
    refine c_p (r_bu (ps := []) (cs := [.int .i64 0, .slice none 0 0, .bool false, .int .i64 0]) rfl (by kernel_rfl)) rfl ?_
    refine nx (t_st u0 ti27 rfl rfl rfl rfl rfl (.t (.s (.s (.s (.s .z))))) ?_)
    refine c_p (r_as rfl) rfl ?_
    refine t_nil ?_
    refine t_then hK16 ?_
    refine t_ret ?_
    refine t_nr 34 k_api_DiskFile ?_
    exact tr (ret2 rfl (v_N rfl a1 Tryd.underlying27 rfl ti27 rfl) (v_t rfl) (t_leave (hQ _ (Option.some.inj h)) (none, 0, 0) rfl (fun w Z hA => V0) (.cons e0 .nil)))
end Go.Proofs.YtkjeedijloobgaaDoor.Gx

/- Function 29, (*kaudit/kauditmill.Case).Keep: what it answers as a plain function, and that the Go code comes to exactly that (where the plain function gives an answer). -/
set_option linter.unusedVariables false
set_option linter.unusedSimpArgs false
namespace Go.Proofs.YtkjeedijloobgaaDoor.Gx
open Go.Gx Go.RowKit
/-! ### (*kaudit/kauditmill.Case).Keep: function 29 -/
def f_kauditmill_Case_Keep_l1 (z0 : kauditmill_Case) : Nat → Int → List Int → Int → Option ((List Int) × Int)
  | 0, _, _, _ => none
  | k63 + 1, x55, x59, x60 => if (decide (x60 > 0)) = true then ((f_kauditmill_Case_Pick (⟨z0.codes, x55⟩ : kauditmill_Case) [0, 1, 7, 100, 100000, (-1)]).bind fun y73 => ck (fits (x59.length + [y73.1].length) 8 = true) <| f_kauditmill_Case_Keep_l1 z0 k63 y73.2 (x59 ++ [y73.1]) (IntKind.wrap .i64 (x60 - 1))) else (some (x59, x55))
def f_kauditmill_Case_Keep (z0 : kauditmill_Case) : Option ((List Int) × Int) := (f_kauditmill_Case_Int z0 6).bind fun y12 => f_kauditmill_Case_Keep_l1 z0 (((y12.1 : Int) - (0)).toNat + 1) y12.2 ([] : List Int) y12.1
set_option maxHeartbeats 4000000 in
set_option maxRecDepth 100000 in
theorem C29 (z0 : kauditmill_Case) (g_ : Nat) (p1 : Option Addr) (m2 : Nat) (c3 : Nat) (r : (List Int) × Int) (h : f_kauditmill_Case_Keep z0 = some r) : FunG Tryd.prog 29 #[.pointer (some ⟨g_, 0, none⟩)] [vw (kSlice 5 (kInt .u8)) z0.codes [.slice p1 m2 c3], g_names] [[blk g_ [.slice p1 m2 c3, .int .i64 z0.at_] 41]] (fun t : (Option Addr × Nat × Nat) => .slice t.1 t.2.1 t.2.2) (fun t => []) (fun t => [[blk g_ [.slice p1 m2 c3, .int .i64 r.2] 41], [row 3 (kInt .i64) r.1 (.slice t.1 t.2.1 t.2.2)]]) := by
  unfold f_kauditmill_Case_Keep at h
  refine t_begin (args := [.pointer (some ⟨g_, 0, none⟩)]) Tryd.func29 rfl Tryd.ntmps29 rfl fun c R hR => ?_
  have hQ : ∀ X, X = r → ∀ w2 (t : (Option Addr × Nat × Nat)), PostG c.w0 w2 c.M c.Y [] [[blk g_ [.slice p1 m2 c3, .int .i64 X.2] 41], [row 3 (kInt .i64) X.1 (.slice t.1 t.2.1 t.2.2)]] → R (.returned (.slice t.1 t.2.1 t.2.2)) w2 := fun X e => by subst e; exact hR
  refine t_seq fun K4 hK5 => ?_
  refine t_region ?_
  refine c_p (r_as rfl) rfl ?_
  refine t_nil ?_
  refine t_then hK5 ?_
  refine t_seq fun K6 hK7 => ?_
  refine t_region ?_
  refine c_p (r_as rfl) rfl ?_
  refine t_nil ?_
  refine t_then hK7 ?_
  refine t_seq fun K8 hK9 => ?_
  refine t_seq fun K10 hK11 => ?_
  refine t_region ?_
  refine c_p (r_mv rfl) rfl ?_
  obtain ⟨y12, hy12, h⟩ := bs h
  refine nx (t_ca (C13 _ _ _ _ _ _ _ hy12) Tryd.func13 nm13 rfl rfl rfl (.cons e0 .nil) (fun w Z hA => (V1 a0 hA (V1 a1 hA V0))) rfl fun t13 => ?_)
  refine c_p (r_as rfl) rfl ?_
  refine t_nil ?_
  refine t_then hK11 ?_
  refine t_block ?_
  refine t_nr 3 (kInt .i64) ?_
  refine t_lp fun k53 hk54 => ?_
  have LP61 : ∀ (k63 : Nat) (x55 : Int) (p56 : Option Addr) (m57 : Nat) (c58 : Nat) (x59 : List Int) (x60 : Int), f_kauditmill_Case_Keep_l1 z0 k63 x55 x59 x60 = some r → T 18 c [vw (kSlice 5 (kInt .u8)) z0.codes [.slice p1 m2 c3], g_names] [[blk g_ [.slice p1 m2 c3, .int .i64 x55] 41], [row 3 (kInt .i64) x59 (.slice p56 m57 c58)]] [(0, .pointer (some ⟨g_, 0, none⟩)), (3, .slice p56 m57 c58), (4, .int .i64 x60)] k53 := by
    intro k63
    induction k63 with
    | zero => intro x55 p56 m57 c58 x59 x60 h62; rewrite [f_kauditmill_Case_Keep_l1] at h62; cases h62
    | succ k63 ih64 =>
      intro x55 p56 m57 c58 x59 x60 h62
      rewrite [f_kauditmill_Case_Keep_l1] at h62
      refine ti hk54 ?_
      refine t_seq fun K65 hK66 => ?_
      refine t_seq fun K67 hK68 => ?_
      refine t_region ?_
      refine c_p (r_mv rfl) rfl ?_
      refine c_p (r_i rfl rfl rfl) rfl ?_
      refine t_nil ?_
      refine t_then hK68 ?_
      rcases Bool.eq_false_or_eq_true (decide (x60 > 0)) with hb69 | hb69
      · replace h62 := itT hb69 h62
        refine t_T rfl hb69 ?_
        refine t_skip ?_
        refine t_then hK66 ?_
        refine t_seq fun K70 hK71 => ?_
        refine t_block ?_
        refine t_region ?_
        refine c_p (r_mv rfl) rfl ?_
        refine c_p (r_mv rfl) rfl ?_
        refine nx (t_bs (ps := [(0, .int .i64 0), (1, .int .i64 1), (2, .int .i64 7), (3, .int .i64 100), (4, .int .i64 100000), (5, .int .i64 (-1))]) (cs := [.int .i64 0, .int .i64 1, .int .i64 7, .int .i64 100, .int .i64 100000, .int .i64 (-1)]) Tryd.underlying52 ti3 rfl rfl (by kernel_rfl) rfl fun g72 => ?_)
        refine t_tr (Kd := (kInt .i64)) (xs := [0, 1, 7, 100, 100000, (-1)]) (.cons e0 .nil) rfl (fun w Z S hA hN => flat_EO (S := Nil) (flatK_int .i64) (er1 (c1 := [.int .i64 0]) rfl (er1 (c1 := [.int .i64 1]) rfl (er1 (c1 := [.int .i64 7]) rfl (er1 (c1 := [.int .i64 100]) rfl (er1 (c1 := [.int .i64 100000]) rfl (er1 (c1 := [.int .i64 (-1)]) rfl er0))))))) ?_
        obtain ⟨y73, hy73, h62⟩ := bs h62
        refine nx (t_cf (C38 _ _ _ _ _ _ _ _ _ _ hy73) (fun _ => (flat_blk flat_nil)) Tryd.func38 nm38 rfl rfl rfl (.cons e1 .nil) (fun w Z S hA hL => (F1 a0 hA (FL a0 hL (F1 a1 hA F0)))) rfl fun t74 => ?_)
        refine nx (t_bs (ps := [(0, .int .i64 y73.1)]) (cs := [.int .i64 y73.1]) Tryd.underlying52 ti3 rfl rfl (by kernel_rfl) rfl fun g75 => ?_)
        obtain ⟨hc76, h62⟩ := ck_out h62
        refine nx (t_app (Kd := (kInt .i64)) (xs := x59) (ys := [y73.1]) (.cons e3 .nil) rfl rfl Tryd.underlying52 Tryd.underlying52 ti3 rfl rfl hc76 (srcB a0 (fun w Z S hA hN => flat_EO (S := Nil) (flatK_int .i64) (er1 (c1 := [.int .i64 y73.1]) rfl er0))) rfl fun t77 => ?_)
        refine c_p (r_as rfl) rfl ?_
        refine t_nil ?_
        refine t_blockN ?_
        refine t_then hK71 ?_
        refine t_region ?_
        refine c_p (r_mv rfl) rfl ?_
        refine c_p (r_i rfl rfl rfl) rfl ?_
        refine c_p (r_as rfl) rfl ?_
        refine t_nil ?_
        exact t_norm (t_go (ih64 y73.2 t77.1 t77.2.1 t77.2.2 (x59 ++ [y73.1]) (IntKind.wrap .i64 (x60 - 1)) h62) ⟨rfl, rfl, rfl, trivial⟩ (.cons e2 (.cons e0 .nil)) (fun w Z hA => V1 a0 hA (V1 a1 hA (V0))))
      · replace h62 := itF hb69 h62
        refine t_F rfl hb69 ?_
        refine t_exit ?_
        refine te (te (bx ?_))
        refine t_then hK9 ?_
        refine t_seq fun K78 hK79 => ?_
        refine t_region ?_
        refine c_p (r_mv rfl) rfl ?_
        refine c_p (r_as rfl) rfl ?_
        refine t_nil ?_
        refine t_then hK79 ?_
        refine t_ret ?_
        exact ret1 rfl (v_t rfl) (t_leave (hQ _ (Option.some.inj h62)) (p56, m57, c58) rfl (fun w Z hA => V0) (.cons e0 (.cons e0 .nil)))
  exact t_go (LP61 (((y12.1 : Int) - (0)).toNat + 1) y12.2 none 0 0 ([] : List Int) y12.1 h) ⟨rfl, rfl, rfl, trivial⟩ (.cons e1 (.cons e0 .nil)) (fun w Z hA => V1 a0 hA (V1 a1 hA (V0)))
end Go.Proofs.YtkjeedijloobgaaDoor.Gx

/- Function 30, kaudit/disk.Crash: what it answers as a plain function, and that the Go code comes to exactly that (where the plain function gives an answer). -/
set_option linter.unusedVariables false
set_option linter.unusedSimpArgs false
namespace Go.Proofs.YtkjeedijloobgaaDoor.Gx
open Go.Gx Go.RowKit
/-! ### kaudit/disk.Crash: function 30 -/
def f_disk_Crash_j1 (x159 : List api_DiskFile) (x160 : Int) (el179 : api_DiskFile) (rec_f_disk_Crash_l1 : List api_DiskFile → Int → Option (api_Disk)) (x204 : Int) : Option (api_Disk) := ck (cutOk el179.Data 0 (IntKind.wrap .i64 (el179.Safe + x204))) <| rec_f_disk_Crash_l1 (x159.set x160.toNat (⟨el179.Name, (cut el179.Data 0 (IntKind.wrap .i64 (el179.Safe + x204))), ((cut el179.Data 0 (IntKind.wrap .i64 (el179.Safe + x204))).length : Int)⟩ : api_DiskFile)) (IntKind.wrap .i64 (x160 + 1))
def f_disk_Crash_l1 (z1 : (List Int)) (y22 : api_Disk) : Nat → List api_DiskFile → Int → Option (api_Disk)
  | 0, _, _ => none
  | k163 + 1, x159, x160 => if (decide (x160 < (y22.Files.length : Int))) = true then ((at_ x159 x160).bind fun el179 => if (decide (x160 < (z1.length : Int))) = true then ((at_ z1 x160).bind fun el197 => ck ((IntKind.wrap .i64 ((IntKind.wrap .i64 ((el179.Data.length : Int) - el179.Safe)) + 1)) ≠ 0) <| ck ((IntKind.wrap .i64 ((IntKind.wrap .i64 ((el179.Data.length : Int) - el179.Safe)) + 1)) ≠ 0) <| f_disk_Crash_j1 x159 x160 el179 (f_disk_Crash_l1 z1 y22 k163) (((IntKind.wrap .i64 (((el197 : Int).tmod (IntKind.wrap .i64 ((IntKind.wrap .i64 ((el179.Data.length : Int) - el179.Safe)) + 1))) + (IntKind.wrap .i64 ((IntKind.wrap .i64 ((el179.Data.length : Int) - el179.Safe)) + 1)))) : Int).tmod (IntKind.wrap .i64 ((IntKind.wrap .i64 ((el179.Data.length : Int) - el179.Safe)) + 1)))) else (f_disk_Crash_j1 x159 x160 el179 (f_disk_Crash_l1 z1 y22 k163) 0)) else (some (⟨y22.Room, x159, false, 0⟩ : api_Disk))
def f_disk_Crash (z0 : api_Disk) (z1 : (List Int)) : Option (api_Disk) := (f_disk_Valid z0).bind fun y15 => if y15 = true then ((f_fresh_Disk z0).bind fun y22 => f_disk_Crash_l1 z1 y22 ((((y22.Files.length : Int) : Int) - (0)).toNat + 1) y22.Files 0) else (some (⟨0, ([] : List api_DiskFile), false, 0⟩ : api_Disk))
set_option maxHeartbeats 4000000 in
set_option maxRecDepth 100000 in
theorem C30 (z0 : api_Disk) (z1 : (List Int)) (p1 : Option Addr) (m2 : Nat) (c3 : Nat) (p4 : Option Addr) (m5 : Nat) (c6 : Nat) (r : api_Disk) (h : f_disk_Crash z0 z1 = some r) : FunG Tryd.prog 30 #[.agg #[.int .i64 z0.Room, .slice p1 m2 c3, .bool z0.Off, .int .i64 z0.Plan], .slice p4 m5 c6] [vw (kSlice 34 k_api_DiskFile) z0.Files [.slice p1 m2 c3], vw (kSlice 3 (kInt .i64)) z1 [.slice p4 m5 c6], g_names] [] (fun t : (Option Addr × Nat × Nat) => .agg #[.int .i64 r.Room, .slice t.1 t.2.1 t.2.2, .bool r.Off, .int .i64 r.Plan]) (fun t => []) (fun t => [[row 34 k_api_DiskFile r.Files (.slice t.1 t.2.1 t.2.2)]]) := by
  unfold f_disk_Crash at h
  refine t_begin (args := [.agg #[.int .i64 z0.Room, .slice p1 m2 c3, .bool z0.Off, .int .i64 z0.Plan], .slice p4 m5 c6]) Tryd.func30 rfl Tryd.ntmps30 rfl fun c R hR => ?_
  have hQ : ∀ X, X = r → ∀ w2 (t : (Option Addr × Nat × Nat)), PostG c.w0 w2 c.M c.Y [] [[row 34 k_api_DiskFile X.Files (.slice t.1 t.2.1 t.2.2)]] → R (.returned (.agg #[.int .i64 X.Room, .slice t.1 t.2.1 t.2.2, .bool X.Off, .int .i64 X.Plan])) w2 := fun X e => by subst e; exact hR
  refine t_seq fun K7 hK8 => ?_
  refine t_region ?_
  refine nx (t_bx (cs := [.int .i64 z0.Room, .slice p1 m2 c3, .bool z0.Off, .int .i64 z0.Plan]) rfl rfl rfl fun g9 => ?_)
  refine nx (t_al (cs := [.int .i64 0, .slice none 0 0, .bool false, .int .i64 0]) ti27 rfl rfl fun g10 => ?_)
  refine t_nil ?_
  refine t_then hK8 ?_
  refine t_seq fun K11 hK12 => ?_
  refine t_seq fun K13 hK14 => ?_
  refine t_region ?_
  refine c_s (r_ldA a1 Tryd.underlying27 rfl ti27 rfl rfl) rfl ?_
  obtain ⟨y15, hy15, h⟩ := bs h
  refine nx (t_ca (C10 _ _ _ _ _ hy15) Tryd.func10 nm10 rfl rfl rfl .nil (fun w Z hA => (V1 a0 hA (V1 a2 hA V0))) rfl fun t16 => ?_)
  refine c_p (r_not rfl) rfl ?_
  refine t_nil ?_
  refine t_then hK14 ?_
  rcases Bool.eq_false_or_eq_true y15 with hb17 | hb17
  · replace h := itT hb17 h
    refine t_F rfl (congrArg Bool.not hb17) ?_
    refine t_skip ?_
    refine t_then hK12 ?_
    refine t_seq fun K20 hK21 => ?_
    refine t_region ?_
    refine c_s (r_ldA a1 Tryd.underlying27 rfl ti27 rfl rfl) rfl ?_
    obtain ⟨y22, hy22, h⟩ := bs h
    refine nx (t_ca (C61 _ _ _ _ _ hy22) Tryd.func61 nm61 rfl rfl rfl .nil (fun w Z hA => (V1 a0 hA (V1 a2 hA V0))) rfl fun t23 => ?_)
    refine nx (t_al (cs := [.int .i64 0, .slice none 0 0, .bool false, .int .i64 0]) ti27 rfl rfl fun g24 => ?_)
    refine nx (t_st u0 ti27 rfl rfl rfl rfl rfl (.t (.s (.s (.s (.s .z))))) ?_)
    refine t_nil ?_
    refine t_then hK21 ?_
    refine t_seq fun K25 hK26 => ?_
    refine t_region ?_
    refine c_p (r_fa (off' := 2) Tryd.underlying27 rfl ti4 rfl rfl) rfl ?_
    refine nx (t_st u0 ti4 rfl rfl rfl rfl rfl (.s (.s (.t (.s .z)))) ?_)
    refine c_p (r_fa (off' := 3) Tryd.underlying27 rfl ti3 rfl rfl) rfl ?_
    refine nx (t_st u0 ti3 rfl rfl rfl rfl rfl (.s (.s (.s (.t (.s .z))))) ?_)
    refine t_nil ?_
    refine t_then hK26 ?_
    refine t_seq fun K27 hK28 => ?_
    refine t_seq fun K29 hK30 => ?_
    refine t_region ?_
    refine c_p (r_fa (off' := 1) Tryd.underlying27 rfl ti25 rfl rfl) rfl ?_
    refine c_s (r_ld a0 Tryd.underlying25 rfl rfl rfl) rfl ?_
    refine c_s (r_lnL a1 Tryd.underlying25 rfl) rfl ?_
    refine c_p (r_mv rfl) rfl ?_
    refine t_nil ?_
    refine t_then hK30 ?_
    refine t_block ?_
    refine t_lp fun k157 hk158 => ?_
    have LP161 : ∀ (k163 : Nat) (x159 : List api_DiskFile) (x160 : Int), f_disk_Crash_l1 z1 y22 k163 x159 x160 = some r → T 77 c [vw (kSlice 3 (kInt .i64)) z1 [.slice p4 m5 c6], g_names] [[blk g10 [.int .i64 0, .slice none 0 0, .bool false, .int .i64 0] 27], [row 34 k_api_DiskFile x159 (.slice t23.1 t23.2.1 t23.2.2)], [blk g24 [.int .i64 y22.Room, .slice t23.1 t23.2.1 t23.2.2, .bool false, .int .i64 0] 27]] [(1, .slice p4 m5 c6), (4, .pointer (some ⟨g10, 0, none⟩)), (5, .pointer (some ⟨g24, 0, none⟩)), (20, .int .i64 (y22.Files.length : Int)), (21, .int .i64 x160)] k157 := by
      intro k163
      induction k163 with
      | zero => intro x159 x160 h162; rewrite [f_disk_Crash_l1] at h162; cases h162
      | succ k163 ih164 =>
        intro x159 x160 h162
        rewrite [f_disk_Crash_l1] at h162
        refine ti hk158 ?_
        refine t_seq fun K165 hK166 => ?_
        refine t_region ?_
        refine c_p (r_i rfl rfl rfl) rfl ?_
        refine t_nil ?_
        refine t_then hK166 ?_
        refine t_seq fun K167 hK168 => ?_
        rcases Bool.eq_false_or_eq_true (decide (x160 < (y22.Files.length : Int))) with hb169 | hb169
        · replace h162 := itT hb169 h162
          refine t_T rfl hb169 ?_
          refine t_skip ?_
          refine t_then hK168 ?_
          refine t_seq fun K170 hK171 => ?_
          refine t_block ?_
          refine t_seq fun K172 hK173 => ?_
          refine t_region ?_
          refine c_p (r_mv rfl) rfl ?_
          refine c_p (r_as rfl) rfl ?_
          refine t_nil ?_
          refine t_then hK173 ?_
          refine t_seq fun K174 hK175 => ?_
          refine t_region ?_
          refine c_p (r_fa (off' := 1) Tryd.underlying27 rfl ti25 rfl rfl) rfl ?_
          refine c_s (r_ld a2 Tryd.underlying25 rfl rfl rfl) rfl ?_
          refine c_p (r_mv rfl) rfl ?_
          obtain ⟨el179, hel179, h162⟩ := bs h162
          refine t_qL a1 hel179 fun q176 hq177 hm178 => ?_
          refine c_p (r_idx hq177 hm178 hel179 Tryd.underlying25 ti34 rfl rfl) rfl ?_
          refine c_p (r_as rfl) rfl ?_
          refine t_nil ?_
          refine t_then hK175 ?_
          refine t_seq fun K180 hK181 => ?_
          refine t_region ?_
          refine c_p (r_as rfl) rfl ?_
          refine t_nil ?_
          refine t_then hK181 ?_
          refine t_seq fun K182 hK183 => ?_
          have J205 : ∀ (p201 : Option Addr) (m202 : Nat) (c203 : Nat) (x204 : Int), f_disk_Crash_j1 x159 x160 el179 (f_disk_Crash_l1 z1 y22 k163) x204 = some r → T 77 c [vw (kSlice 3 (kInt .i64)) z1 [.slice p4 m5 c6], g_names] [[blk g10 [.int .i64 0, .slice none 0 0, .bool false, .int .i64 0] 27], [row 5 (kInt .u8) el179.Data (.slice p201 m202 c203)], [hole 34 k_api_DiskFile x159 x160.toNat [.string el179.Name, .slice p201 m202 c203, .int .i64 el179.Safe] (.slice t23.1 t23.2.1 t23.2.2)], [blk g24 [.int .i64 y22.Room, .slice t23.1 t23.2.1 t23.2.2, .bool false, .int .i64 0] 27]] [(1, .slice p4 m5 c6), (4, .pointer (some ⟨g10, 0, none⟩)), (5, .pointer (some ⟨g24, 0, none⟩)), (7, .pointer (some q176)), (8, .int .i64 x204), (20, .int .i64 (y22.Files.length : Int)), (21, .int .i64 x160)] K182 := by
            intro p201 m202 c203 x204 h206
            unfold f_disk_Crash_j1 at h206
            refine ti hK183 ?_
            refine t_seq fun K207 hK208 => ?_
            refine t_draw mixed (fun w_ => True) [] [14] rfl ?_
            refine q_p 0 (panic_then (panic_block (panic_then (panic_then (panic_block (panic_then panic_body)))))) rfl (by kernel_rfl) W0 (r_mv rfl) rfl ?_
            refine q_p 1 (panic_then (panic_block (panic_then (panic_then (panic_block (panic_then panic_body)))))) rfl (by kernel_rfl) W0 (r_mv rfl) rfl ?_
            refine q_p 2 (panic_then (panic_block (panic_then (panic_then (panic_block (panic_then panic_body)))))) rfl (by kernel_rfl) W0 (r_nc rfl) rfl ?_
            refine t_qf hq177 1 fun q211 hq212 => ?_
            refine q_p 3 (panic_then (panic_block (panic_then (panic_then (panic_block (panic_then panic_body)))))) rfl (by kernel_rfl) W0 (r_fai hq177 hq212 Tryd.underlying34 rfl ti22 rfl rfl) rfl ?_
            refine q_u 4 (panic_then (panic_block (panic_then (panic_then (panic_block (panic_then panic_body)))))) rfl (by kernel_rfl) W0 (by kernel_rfl) (r_h1 a2 hq212 Tryd.underlying22 rfl rfl rfl) rfl ?_
            refine q_p 5 (panic_then (panic_block (panic_then (panic_then (panic_block (panic_then panic_body)))))) rfl (by kernel_rfl) W0 (r_mv rfl) rfl ?_
            refine q_p 6 (panic_then (panic_block (panic_then (panic_then (panic_block (panic_then panic_body)))))) rfl (by kernel_rfl) W0 (r_nc rfl) rfl ?_
            refine t_qf hq177 2 fun q213 hq214 => ?_
            refine q_p 7 (panic_then (panic_block (panic_then (panic_then (panic_block (panic_then panic_body)))))) rfl (by kernel_rfl) W0 (r_fai hq177 hq214 Tryd.underlying34 rfl ti3 rfl rfl) rfl ?_
            refine q_u 8 (panic_then (panic_block (panic_then (panic_then (panic_block (panic_then panic_body)))))) rfl (by kernel_rfl) W0 (by kernel_rfl) (r_h1 a2 hq214 Tryd.underlying3 rfl rfl rfl) rfl ?_
            refine q_p 9 (panic_then (panic_block (panic_then (panic_then (panic_block (panic_then panic_body)))))) rfl (by kernel_rfl) W0 (r_mv rfl) rfl ?_
            refine q_p 10 (panic_then (panic_block (panic_then (panic_then (panic_block (panic_then panic_body)))))) rfl (by kernel_rfl) W0 (r_i rfl rfl rfl) rfl ?_
            obtain ⟨hc215, h206⟩ := ck_out h206
            refine t_vwq (i := 0) (j := (IntKind.wrap .i64 (el179.Safe + x204))) a1 Tryd.underlying22 ti5 hc215 fun t216 hv217 hr218 => ?_
            refine q_p 11 (panic_then (panic_block (panic_then (panic_then (panic_block (panic_then panic_body)))))) rfl (by kernel_rfl) W0 (hr218 rfl (.inl ⟨rfl, rfl⟩) (.inr ⟨_, _, rfl, rfl⟩)) rfl ?_
            refine q_p 12 (panic_then (panic_block (panic_then (panic_then (panic_block (panic_then panic_body)))))) rfl (by kernel_rfl) W0 (r_nc rfl) rfl ?_
            refine t_qf hq177 1 fun q219 hq220 => ?_
            refine q_p 13 (panic_then (panic_block (panic_then (panic_then (panic_block (panic_then panic_body)))))) rfl (by kernel_rfl) W0 (r_fai hq177 hq220 Tryd.underlying34 rfl ti22 rfl rfl) rfl ?_
            refine d1 14 rfl (by kernel_rfl) (by kernel_rfl) ?_
            refine t_vm (i := 0) (j := (IntKind.wrap .i64 (el179.Safe + x204))) e1 hv217 hc215 (.inl rfl) ?_
            refine t_hs u2 hq220 ti22 rfl rfl rfl rfl rfl (.s (.t (.s .z))) ?_
            refine dn (by kernel_rfl) ?_
            refine dz (by kernel_rfl) ?_
            refine t_then hK208 ?_
            refine t_region ?_
            refine c_p (r_mv rfl) rfl ?_
            refine c_p (r_mv rfl) rfl ?_
            refine c_p (r_nc rfl) rfl ?_
            refine t_qf hq177 1 fun q221 hq222 => ?_
            refine c_p (r_fai hq177 hq222 Tryd.underlying34 rfl ti22 rfl rfl) rfl ?_
            refine c_s (r_h1 a2 hq222 Tryd.underlying22 rfl rfl rfl) rfl ?_
            refine c_s (r_lnL a0 Tryd.underlying22 rfl) rfl ?_
            refine c_p (r_nc rfl) rfl ?_
            refine t_qf hq177 2 fun q223 hq224 => ?_
            refine c_p (r_fai hq177 hq224 Tryd.underlying34 rfl ti3 rfl rfl) rfl ?_
            refine nx (t_hs u2 hq224 ti3 rfl rfl rfl rfl rfl (.s (.s (.t (.s .z)))) ?_)
            refine t_nil ?_
            refine t_blockN ?_
            refine t_then hK171 ?_
            refine t_region ?_
            refine c_p (r_i rfl rfl rfl) rfl ?_
            refine c_p (r_mv rfl) rfl ?_
            refine t_nil ?_
            refine t_cI (u := (⟨el179.Name, (cut el179.Data 0 (IntKind.wrap .i64 (el179.Safe + x204))), ((cut el179.Data 0 (IntKind.wrap .i64 (el179.Safe + x204))).length : Int)⟩ : api_DiskFile)) (t := (t216.1, t216.2.1, t216.2.2)) k_api_DiskFile_shutsO (.cons e2 (.cons e0 .nil)) rfl (fun w Z hA => trivial) ?_
            have hn225 := at_set (u' := (⟨el179.Name, (cut el179.Data 0 (IntKind.wrap .i64 (el179.Safe + x204))), ((cut el179.Data 0 (IntKind.wrap .i64 (el179.Safe + x204))).length : Int)⟩ : api_DiskFile)) hel179
            exact t_norm (t_go (ih164 (x159.set x160.toNat (⟨el179.Name, (cut el179.Data 0 (IntKind.wrap .i64 (el179.Safe + x204))), ((cut el179.Data 0 (IntKind.wrap .i64 (el179.Safe + x204))).length : Int)⟩ : api_DiskFile)) (IntKind.wrap .i64 (x160 + 1)) h206) ⟨rfl, rfl, rfl, rfl, rfl, trivial⟩ (.cons e1 (.cons e0 (.cons e0 .nil))) (fun w Z hA => V1 a0 hA (V1 a1 hA (V0))))
          refine t_seq fun K184 hK185 => ?_
          refine t_quiet mixed (by kernel_rfl) (panic_then (panic_then (panic_block (panic_then (panic_then (panic_block (panic_then panic_body))))))) ?_
          refine k_p (r_mv rfl) rfl ?_
          refine k_p (r_nc rfl) rfl ?_
          refine t_qf hq177 1 fun q186 hq187 => ?_
          refine k_p (r_fai hq177 hq187 Tryd.underlying34 rfl ti22 rfl rfl) rfl ?_
          refine t_oI k_api_DiskFile_opensO e1 hel179 fun t188 => ?_
          refine k_s (r_h1 a0 hq187 Tryd.underlying22 rfl rfl rfl) rfl ?_
          refine k_s (r_lnL a1 Tryd.underlying22 rfl) rfl ?_
          refine k_p (r_mv rfl) rfl ?_
          refine k_p (r_nc rfl) rfl ?_
          refine t_qf hq177 2 fun q189 hq190 => ?_
          refine k_p (r_fai hq177 hq190 Tryd.underlying34 rfl ti3 rfl rfl) rfl ?_
          refine k_s (r_h1 a0 hq190 Tryd.underlying3 rfl rfl rfl) rfl ?_
          refine k_p (r_i rfl rfl rfl) rfl ?_
          refine k_p (r_i rfl rfl rfl) rfl ?_
          refine k_p (r_as rfl) rfl ?_
          refine k_z ?_
          refine t_then hK185 ?_
          refine t_seq fun K191 hK192 => ?_
          refine t_region ?_
          refine c_p (r_mv rfl) rfl ?_
          refine c_p (r_mv rfl) rfl ?_
          refine c_s (r_lnA a0 Tryd.underlying52 rfl) rfl ?_
          refine c_p (r_i rfl rfl rfl) rfl ?_
          refine t_nil ?_
          refine t_then hK192 ?_
          rcases Bool.eq_false_or_eq_true (decide (x160 < (z1.length : Int))) with hb193 | hb193
          · replace h162 := itT hb193 h162
            refine t_T rfl hb193 ?_
            refine t_region ?_
            refine c_p (r_mv rfl) rfl ?_
            refine c_p (r_mv rfl) rfl ?_
            obtain ⟨el197, hel197, h162⟩ := bs h162
            refine t_q a0 hel197 fun q194 hq195 hm196 => ?_
            refine c_p (r_idx hq195 hm196 hel197 Tryd.underlying52 ti3 rfl rfl) rfl ?_
            refine t_op (opens_int .i64) a0 hel197 fun t198 => ?_
            refine c_s (r_e1 a0 hq195 Tryd.underlying3 rfl rfl rfl) rfl ?_
            refine c_p (r_mv rfl) rfl ?_
            obtain ⟨hc199, h162⟩ := ck_out h162
            refine c_p (r_rem rfl rfl hc199) rfl ?_
            refine c_p (r_mv rfl) rfl ?_
            refine c_p (r_i rfl rfl rfl) rfl ?_
            refine c_p (r_mv rfl) rfl ?_
            obtain ⟨hc200, h162⟩ := ck_out h162
            refine c_p (r_rem rfl rfl hc200) rfl ?_
            refine c_p (r_as rfl) rfl ?_
            refine t_nil ?_
            exact t_norm (t_go (J205 t188.1 t188.2.1 t188.2.2 (((IntKind.wrap .i64 (((el197 : Int).tmod (IntKind.wrap .i64 ((IntKind.wrap .i64 ((el179.Data.length : Int) - el179.Safe)) + 1))) + (IntKind.wrap .i64 ((IntKind.wrap .i64 ((el179.Data.length : Int) - el179.Safe)) + 1)))) : Int).tmod (IntKind.wrap .i64 ((IntKind.wrap .i64 ((el179.Data.length : Int) - el179.Safe)) + 1))) h162) ⟨rfl, rfl, rfl, rfl, rfl, rfl, rfl, trivial⟩ (.cons e2 (.cons e1 (.cons e0 (.cons e0 .nil)))) (fun w Z hA => V1 a1 hA (V1 a2 hA (V0))))
          · replace h162 := itF hb193 h162
            refine t_F rfl hb193 ?_
            refine t_skip ?_
            exact t_norm (t_go (J205 t188.1 t188.2.1 t188.2.2 0 h162) ⟨rfl, rfl, rfl, rfl, rfl, rfl, rfl, trivial⟩ (.cons e2 (.cons e1 (.cons e0 (.cons e0 .nil)))) (fun w Z hA => V1 a0 hA (V1 a1 hA (V0))))
        · replace h162 := itF hb169 h162
          refine t_F rfl hb169 ?_
          refine t_exit ?_
          refine te (te (bx ?_))
          refine t_then hK28 ?_
          refine t_seq fun K226 hK227 => ?_
          refine t_region ?_
          refine c_s (r_ldA a2 Tryd.underlying27 rfl ti27 rfl rfl) rfl ?_
          refine nx (t_st u0 ti27 rfl rfl rfl rfl rfl (.t (.s (.s (.s (.s .z))))) ?_)
          refine t_nil ?_
          refine t_then hK227 ?_
          refine t_ret ?_
          exact ret1 rfl (v_N rfl a0 Tryd.underlying27 rfl ti27 rfl) (t_leave (hQ _ (Option.some.inj h162)) (t23.1, t23.2.1, t23.2.2) rfl (fun w Z hA => V0) (.cons e1 .nil))
    exact t_go (LP161 ((((y22.Files.length : Int) : Int) - (0)).toNat + 1) y22.Files 0 h) ⟨rfl, rfl, rfl, rfl, rfl, trivial⟩ (.cons e2 (.cons e1 (.cons e0 .nil))) (fun w Z hA => V1 a1 hA (V1 a2 hA (V0)))
  · replace h := itF hb17 h
    refine t_T rfl (congrArg Bool.not hb17) ?_
    refine t_seq fun K18 hK19 => ?_
    refine t_region ?_
    refine c_p (r_bu (ps := []) (cs := [.int .i64 0, .slice none 0 0, .bool false, .int .i64 0]) rfl (by kernel_rfl)) rfl ?_
    refine nx (t_st u0 ti27 rfl rfl rfl rfl rfl (.t (.s (.s (.s (.s .z))))) ?_)
    refine t_nil ?_
    refine t_then hK19 ?_
    refine t_ret ?_
    refine t_nr 34 k_api_DiskFile ?_
    exact tr (ret1 rfl (v_N rfl a1 Tryd.underlying27 rfl ti27 rfl) (t_leave (hQ _ (Option.some.inj h)) (none, 0, 0) rfl (fun w Z hA => V0) (.cons e0 .nil)))
end Go.Proofs.YtkjeedijloobgaaDoor.Gx

/- Function 31, kaudit/kauditref24.Crash: what it answers as a plain function, and that the Go code comes to exactly that (where the plain function gives an answer). -/
set_option linter.unusedVariables false
set_option linter.unusedSimpArgs false
namespace Go.Proofs.YtkjeedijloobgaaDoor.Gx
open Go.Gx Go.RowKit
/-! ### kaudit/kauditref24.Crash: function 31 -/
def f_kauditref24_Crash_j1 (x157 : List api_DiskFile) (x158 : Int) (el177 : api_DiskFile) (rec_f_kauditref24_Crash_l1 : List api_DiskFile → Int → Option (api_Disk)) (x201 : Int) : Option (api_Disk) := ck (cutOk el177.Data 0 (IntKind.wrap .i64 (el177.Safe + x201))) <| rec_f_kauditref24_Crash_l1 (x157.set x158.toNat (⟨el177.Name, (cut el177.Data 0 (IntKind.wrap .i64 (el177.Safe + x201))), ((cut el177.Data 0 (IntKind.wrap .i64 (el177.Safe + x201))).length : Int)⟩ : api_DiskFile)) (IntKind.wrap .i64 (x158 + 1))
def f_kauditref24_Crash_l1 (z1 : (List Int)) (y22 : api_Disk) : Nat → List api_DiskFile → Int → Option (api_Disk)
  | 0, _, _ => none
  | k161 + 1, x157, x158 => if (decide (x158 < (y22.Files.length : Int))) = true then ((at_ x157 x158).bind fun el177 => if (decide (x158 < (z1.length : Int))) = true then ((at_ z1 x158).bind fun el195 => ck ((IntKind.wrap .i64 ((IntKind.wrap .i64 ((el177.Data.length : Int) - el177.Safe)) + 1)) ≠ 0) <| if (decide (((el195 : Int).tmod (IntKind.wrap .i64 ((IntKind.wrap .i64 ((el177.Data.length : Int) - el177.Safe)) + 1))) < 0)) = true then (f_kauditref24_Crash_j1 x157 x158 el177 (f_kauditref24_Crash_l1 z1 y22 k161) (IntKind.wrap .i64 (((el195 : Int).tmod (IntKind.wrap .i64 ((IntKind.wrap .i64 ((el177.Data.length : Int) - el177.Safe)) + 1))) + (IntKind.wrap .i64 ((IntKind.wrap .i64 ((el177.Data.length : Int) - el177.Safe)) + 1))))) else (f_kauditref24_Crash_j1 x157 x158 el177 (f_kauditref24_Crash_l1 z1 y22 k161) ((el195 : Int).tmod (IntKind.wrap .i64 ((IntKind.wrap .i64 ((el177.Data.length : Int) - el177.Safe)) + 1))))) else (f_kauditref24_Crash_j1 x157 x158 el177 (f_kauditref24_Crash_l1 z1 y22 k161) 0)) else (some (⟨y22.Room, x157, false, 0⟩ : api_Disk))
def f_kauditref24_Crash (z0 : api_Disk) (z1 : (List Int)) : Option (api_Disk) := (f_kauditref24_Valid z0).bind fun y15 => if y15 = true then ((f_kauditref24_Copy z0).bind fun y22 => f_kauditref24_Crash_l1 z1 y22 ((((y22.Files.length : Int) : Int) - (0)).toNat + 1) y22.Files 0) else (some (⟨0, ([] : List api_DiskFile), false, 0⟩ : api_Disk))
set_option maxHeartbeats 4000000 in
set_option maxRecDepth 100000 in
theorem C31 (z0 : api_Disk) (z1 : (List Int)) (p1 : Option Addr) (m2 : Nat) (c3 : Nat) (p4 : Option Addr) (m5 : Nat) (c6 : Nat) (r : api_Disk) (h : f_kauditref24_Crash z0 z1 = some r) : FunG Tryd.prog 31 #[.agg #[.int .i64 z0.Room, .slice p1 m2 c3, .bool z0.Off, .int .i64 z0.Plan], .slice p4 m5 c6] [vw (kSlice 34 k_api_DiskFile) z0.Files [.slice p1 m2 c3], vw (kSlice 3 (kInt .i64)) z1 [.slice p4 m5 c6], g_names] [] (fun t : (Option Addr × Nat × Nat) => .agg #[.int .i64 r.Room, .slice t.1 t.2.1 t.2.2, .bool r.Off, .int .i64 r.Plan]) (fun t => []) (fun t => [[row 34 k_api_DiskFile r.Files (.slice t.1 t.2.1 t.2.2)]]) := by
  unfold f_kauditref24_Crash at h
  refine t_begin (args := [.agg #[.int .i64 z0.Room, .slice p1 m2 c3, .bool z0.Off, .int .i64 z0.Plan], .slice p4 m5 c6]) Tryd.func31 rfl Tryd.ntmps31 rfl fun c R hR => ?_
  have hQ : ∀ X, X = r → ∀ w2 (t : (Option Addr × Nat × Nat)), PostG c.w0 w2 c.M c.Y [] [[row 34 k_api_DiskFile X.Files (.slice t.1 t.2.1 t.2.2)]] → R (.returned (.agg #[.int .i64 X.Room, .slice t.1 t.2.1 t.2.2, .bool X.Off, .int .i64 X.Plan])) w2 := fun X e => by subst e; exact hR
  refine t_seq fun K7 hK8 => ?_
  refine t_region ?_
  refine nx (t_bx (cs := [.int .i64 z0.Room, .slice p1 m2 c3, .bool z0.Off, .int .i64 z0.Plan]) rfl rfl rfl fun g9 => ?_)
  refine nx (t_al (cs := [.int .i64 0, .slice none 0 0, .bool false, .int .i64 0]) ti27 rfl rfl fun g10 => ?_)
  refine t_nil ?_
  refine t_then hK8 ?_
  refine t_seq fun K11 hK12 => ?_
  refine t_seq fun K13 hK14 => ?_
  refine t_region ?_
  refine c_s (r_ldA a1 Tryd.underlying27 rfl ti27 rfl rfl) rfl ?_
  obtain ⟨y15, hy15, h⟩ := bs h
  refine nx (t_ca (C62 _ _ _ _ _ hy15) Tryd.func62 nm62 rfl rfl rfl .nil (fun w Z hA => (V1 a0 hA (V1 a2 hA V0))) rfl fun t16 => ?_)
  refine c_p (r_not rfl) rfl ?_
  refine t_nil ?_
  refine t_then hK14 ?_
  rcases Bool.eq_false_or_eq_true y15 with hb17 | hb17
  · replace h := itT hb17 h
    refine t_F rfl (congrArg Bool.not hb17) ?_
    refine t_skip ?_
    refine t_then hK12 ?_
    refine t_seq fun K20 hK21 => ?_
    refine t_region ?_
    refine c_s (r_ldA a1 Tryd.underlying27 rfl ti27 rfl rfl) rfl ?_
    obtain ⟨y22, hy22, h⟩ := bs h
    refine nx (t_ca (C47 _ _ _ _ _ hy22) Tryd.func47 nm47 rfl rfl rfl .nil (fun w Z hA => (V1 a0 hA (V1 a2 hA V0))) rfl fun t23 => ?_)
    refine nx (t_al (cs := [.int .i64 0, .slice none 0 0, .bool false, .int .i64 0]) ti27 rfl rfl fun g24 => ?_)
    refine nx (t_st u0 ti27 rfl rfl rfl rfl rfl (.t (.s (.s (.s (.s .z))))) ?_)
    refine t_nil ?_
    refine t_then hK21 ?_
    refine t_seq fun K25 hK26 => ?_
    refine t_region ?_
    refine c_p (r_fa (off' := 2) Tryd.underlying27 rfl ti4 rfl rfl) rfl ?_
    refine nx (t_st u0 ti4 rfl rfl rfl rfl rfl (.s (.s (.t (.s .z)))) ?_)
    refine c_p (r_fa (off' := 3) Tryd.underlying27 rfl ti3 rfl rfl) rfl ?_
    refine nx (t_st u0 ti3 rfl rfl rfl rfl rfl (.s (.s (.s (.t (.s .z))))) ?_)
    refine t_nil ?_
    refine t_then hK26 ?_
    refine t_seq fun K27 hK28 => ?_
    refine t_seq fun K29 hK30 => ?_
    refine t_region ?_
    refine c_p (r_fa (off' := 1) Tryd.underlying27 rfl ti25 rfl rfl) rfl ?_
    refine c_s (r_ld a0 Tryd.underlying25 rfl rfl rfl) rfl ?_
    refine c_s (r_lnL a1 Tryd.underlying25 rfl) rfl ?_
    refine c_p (r_mv rfl) rfl ?_
    refine t_nil ?_
    refine t_then hK30 ?_
    refine t_block ?_
    refine t_lp fun k155 hk156 => ?_
    have LP159 : ∀ (k161 : Nat) (x157 : List api_DiskFile) (x158 : Int), f_kauditref24_Crash_l1 z1 y22 k161 x157 x158 = some r → T 78 c [vw (kSlice 3 (kInt .i64)) z1 [.slice p4 m5 c6], g_names] [[blk g10 [.int .i64 0, .slice none 0 0, .bool false, .int .i64 0] 27], [row 34 k_api_DiskFile x157 (.slice t23.1 t23.2.1 t23.2.2)], [blk g24 [.int .i64 y22.Room, .slice t23.1 t23.2.1 t23.2.2, .bool false, .int .i64 0] 27]] [(1, .slice p4 m5 c6), (4, .pointer (some ⟨g10, 0, none⟩)), (5, .pointer (some ⟨g24, 0, none⟩)), (20, .int .i64 (y22.Files.length : Int)), (21, .int .i64 x158)] k155 := by
      intro k161
      induction k161 with
      | zero => intro x157 x158 h160; rewrite [f_kauditref24_Crash_l1] at h160; cases h160
      | succ k161 ih162 =>
        intro x157 x158 h160
        rewrite [f_kauditref24_Crash_l1] at h160
        refine ti hk156 ?_
        refine t_seq fun K163 hK164 => ?_
        refine t_region ?_
        refine c_p (r_i rfl rfl rfl) rfl ?_
        refine t_nil ?_
        refine t_then hK164 ?_
        refine t_seq fun K165 hK166 => ?_
        rcases Bool.eq_false_or_eq_true (decide (x158 < (y22.Files.length : Int))) with hb167 | hb167
        · replace h160 := itT hb167 h160
          refine t_T rfl hb167 ?_
          refine t_skip ?_
          refine t_then hK166 ?_
          refine t_seq fun K168 hK169 => ?_
          refine t_block ?_
          refine t_seq fun K170 hK171 => ?_
          refine t_region ?_
          refine c_p (r_mv rfl) rfl ?_
          refine c_p (r_as rfl) rfl ?_
          refine t_nil ?_
          refine t_then hK171 ?_
          refine t_seq fun K172 hK173 => ?_
          refine t_region ?_
          refine c_p (r_fa (off' := 1) Tryd.underlying27 rfl ti25 rfl rfl) rfl ?_
          refine c_s (r_ld a2 Tryd.underlying25 rfl rfl rfl) rfl ?_
          refine c_p (r_mv rfl) rfl ?_
          obtain ⟨el177, hel177, h160⟩ := bs h160
          refine t_qL a1 hel177 fun q174 hq175 hm176 => ?_
          refine c_p (r_idx hq175 hm176 hel177 Tryd.underlying25 ti34 rfl rfl) rfl ?_
          refine c_p (r_as rfl) rfl ?_
          refine t_nil ?_
          refine t_then hK173 ?_
          refine t_seq fun K178 hK179 => ?_
          refine t_quiet mixed (by kernel_rfl) (panic_then (panic_block (panic_then (panic_then (panic_block (panic_then panic_body)))))) ?_
          refine k_p (r_mv rfl) rfl ?_
          refine k_p (r_nc rfl) rfl ?_
          refine t_qf hq175 1 fun q180 hq181 => ?_
          refine k_p (r_fai hq175 hq181 Tryd.underlying34 rfl ti22 rfl rfl) rfl ?_
          refine t_oI k_api_DiskFile_opensO e1 hel177 fun t182 => ?_
          refine k_s (r_h1 a0 hq181 Tryd.underlying22 rfl rfl rfl) rfl ?_
          refine k_s (r_lnL a1 Tryd.underlying22 rfl) rfl ?_
          refine k_p (r_mv rfl) rfl ?_
          refine k_p (r_nc rfl) rfl ?_
          refine t_qf hq175 2 fun q183 hq184 => ?_
          refine k_p (r_fai hq175 hq184 Tryd.underlying34 rfl ti3 rfl rfl) rfl ?_
          refine k_s (r_h1 a0 hq184 Tryd.underlying3 rfl rfl rfl) rfl ?_
          refine k_p (r_i rfl rfl rfl) rfl ?_
          refine k_p (r_i rfl rfl rfl) rfl ?_
          refine k_p (r_as rfl) rfl ?_
          refine k_p (r_as rfl) rfl ?_
          refine k_z ?_
          refine t_then hK179 ?_
          refine t_seq fun K185 hK186 => ?_
          have J202 : ∀ (x201 : Int), f_kauditref24_Crash_j1 x157 x158 el177 (f_kauditref24_Crash_l1 z1 y22 k161) x201 = some r → T 78 c [vw (kSlice 3 (kInt .i64)) z1 [.slice p4 m5 c6], g_names] [[blk g10 [.int .i64 0, .slice none 0 0, .bool false, .int .i64 0] 27], [row 5 (kInt .u8) el177.Data (.slice t182.1 t182.2.1 t182.2.2)], [hole 34 k_api_DiskFile x157 x158.toNat [.string el177.Name, .slice t182.1 t182.2.1 t182.2.2, .int .i64 el177.Safe] (.slice t23.1 t23.2.1 t23.2.2)], [blk g24 [.int .i64 y22.Room, .slice t23.1 t23.2.1 t23.2.2, .bool false, .int .i64 0] 27]] [(1, .slice p4 m5 c6), (4, .pointer (some ⟨g10, 0, none⟩)), (5, .pointer (some ⟨g24, 0, none⟩)), (7, .pointer (some q174)), (8, .int .i64 x201), (20, .int .i64 (y22.Files.length : Int)), (21, .int .i64 x158)] K185 := by
            intro x201 h203
            unfold f_kauditref24_Crash_j1 at h203
            refine ti hK186 ?_
            refine t_seq fun K204 hK205 => ?_
            refine t_draw mixed (fun w_ => True) [] [14] rfl ?_
            refine q_p 0 (panic_then (panic_block (panic_then (panic_then (panic_block (panic_then panic_body)))))) rfl (by kernel_rfl) W0 (r_mv rfl) rfl ?_
            refine q_p 1 (panic_then (panic_block (panic_then (panic_then (panic_block (panic_then panic_body)))))) rfl (by kernel_rfl) W0 (r_mv rfl) rfl ?_
            refine q_p 2 (panic_then (panic_block (panic_then (panic_then (panic_block (panic_then panic_body)))))) rfl (by kernel_rfl) W0 (r_nc rfl) rfl ?_
            refine t_qf hq175 1 fun q208 hq209 => ?_
            refine q_p 3 (panic_then (panic_block (panic_then (panic_then (panic_block (panic_then panic_body)))))) rfl (by kernel_rfl) W0 (r_fai hq175 hq209 Tryd.underlying34 rfl ti22 rfl rfl) rfl ?_
            refine q_u 4 (panic_then (panic_block (panic_then (panic_then (panic_block (panic_then panic_body)))))) rfl (by kernel_rfl) W0 (by kernel_rfl) (r_h1 a2 hq209 Tryd.underlying22 rfl rfl rfl) rfl ?_
            refine q_p 5 (panic_then (panic_block (panic_then (panic_then (panic_block (panic_then panic_body)))))) rfl (by kernel_rfl) W0 (r_mv rfl) rfl ?_
            refine q_p 6 (panic_then (panic_block (panic_then (panic_then (panic_block (panic_then panic_body)))))) rfl (by kernel_rfl) W0 (r_nc rfl) rfl ?_
            refine t_qf hq175 2 fun q210 hq211 => ?_
            refine q_p 7 (panic_then (panic_block (panic_then (panic_then (panic_block (panic_then panic_body)))))) rfl (by kernel_rfl) W0 (r_fai hq175 hq211 Tryd.underlying34 rfl ti3 rfl rfl) rfl ?_
            refine q_u 8 (panic_then (panic_block (panic_then (panic_then (panic_block (panic_then panic_body)))))) rfl (by kernel_rfl) W0 (by kernel_rfl) (r_h1 a2 hq211 Tryd.underlying3 rfl rfl rfl) rfl ?_
            refine q_p 9 (panic_then (panic_block (panic_then (panic_then (panic_block (panic_then panic_body)))))) rfl (by kernel_rfl) W0 (r_mv rfl) rfl ?_
            refine q_p 10 (panic_then (panic_block (panic_then (panic_then (panic_block (panic_then panic_body)))))) rfl (by kernel_rfl) W0 (r_i rfl rfl rfl) rfl ?_
            obtain ⟨hc212, h203⟩ := ck_out h203
            refine t_vwq (i := 0) (j := (IntKind.wrap .i64 (el177.Safe + x201))) a1 Tryd.underlying22 ti5 hc212 fun t213 hv214 hr215 => ?_
            refine q_p 11 (panic_then (panic_block (panic_then (panic_then (panic_block (panic_then panic_body)))))) rfl (by kernel_rfl) W0 (hr215 rfl (.inl ⟨rfl, rfl⟩) (.inr ⟨_, _, rfl, rfl⟩)) rfl ?_
            refine q_p 12 (panic_then (panic_block (panic_then (panic_then (panic_block (panic_then panic_body)))))) rfl (by kernel_rfl) W0 (r_nc rfl) rfl ?_
            refine t_qf hq175 1 fun q216 hq217 => ?_
            refine q_p 13 (panic_then (panic_block (panic_then (panic_then (panic_block (panic_then panic_body)))))) rfl (by kernel_rfl) W0 (r_fai hq175 hq217 Tryd.underlying34 rfl ti22 rfl rfl) rfl ?_
            refine d1 14 rfl (by kernel_rfl) (by kernel_rfl) ?_
            refine t_vm (i := 0) (j := (IntKind.wrap .i64 (el177.Safe + x201))) e1 hv214 hc212 (.inl rfl) ?_
            refine t_hs u2 hq217 ti22 rfl rfl rfl rfl rfl (.s (.t (.s .z))) ?_
            refine dn (by kernel_rfl) ?_
            refine dz (by kernel_rfl) ?_
            refine t_then hK205 ?_
            refine t_region ?_
            refine c_p (r_mv rfl) rfl ?_
            refine c_p (r_mv rfl) rfl ?_
            refine c_p (r_nc rfl) rfl ?_
            refine t_qf hq175 1 fun q218 hq219 => ?_
            refine c_p (r_fai hq175 hq219 Tryd.underlying34 rfl ti22 rfl rfl) rfl ?_
            refine c_s (r_h1 a2 hq219 Tryd.underlying22 rfl rfl rfl) rfl ?_
            refine c_s (r_lnL a0 Tryd.underlying22 rfl) rfl ?_
            refine c_p (r_nc rfl) rfl ?_
            refine t_qf hq175 2 fun q220 hq221 => ?_
            refine c_p (r_fai hq175 hq221 Tryd.underlying34 rfl ti3 rfl rfl) rfl ?_
            refine nx (t_hs u2 hq221 ti3 rfl rfl rfl rfl rfl (.s (.s (.t (.s .z)))) ?_)
            refine t_nil ?_
            refine t_blockN ?_
            refine t_then hK169 ?_
            refine t_region ?_
            refine c_p (r_i rfl rfl rfl) rfl ?_
            refine c_p (r_mv rfl) rfl ?_
            refine t_nil ?_
            refine t_cI (u := (⟨el177.Name, (cut el177.Data 0 (IntKind.wrap .i64 (el177.Safe + x201))), ((cut el177.Data 0 (IntKind.wrap .i64 (el177.Safe + x201))).length : Int)⟩ : api_DiskFile)) (t := (t213.1, t213.2.1, t213.2.2)) k_api_DiskFile_shutsO (.cons e2 (.cons e0 .nil)) rfl (fun w Z hA => trivial) ?_
            have hn222 := at_set (u' := (⟨el177.Name, (cut el177.Data 0 (IntKind.wrap .i64 (el177.Safe + x201))), ((cut el177.Data 0 (IntKind.wrap .i64 (el177.Safe + x201))).length : Int)⟩ : api_DiskFile)) hel177
            exact t_norm (t_go (ih162 (x157.set x158.toNat (⟨el177.Name, (cut el177.Data 0 (IntKind.wrap .i64 (el177.Safe + x201))), ((cut el177.Data 0 (IntKind.wrap .i64 (el177.Safe + x201))).length : Int)⟩ : api_DiskFile)) (IntKind.wrap .i64 (x158 + 1)) h203) ⟨rfl, rfl, rfl, rfl, rfl, trivial⟩ (.cons e1 (.cons e0 (.cons e0 .nil))) (fun w Z hA => V1 a0 hA (V1 a1 hA (V0))))
          refine t_seq fun K187 hK188 => ?_
          refine t_region ?_
          refine c_p (r_mv rfl) rfl ?_
          refine c_p (r_mv rfl) rfl ?_
          refine c_s (r_lnA a0 Tryd.underlying52 rfl) rfl ?_
          refine c_p (r_i rfl rfl rfl) rfl ?_
          refine t_nil ?_
          refine t_then hK188 ?_
          rcases Bool.eq_false_or_eq_true (decide (x158 < (z1.length : Int))) with hb189 | hb189
          · replace h160 := itT hb189 h160
            refine t_T rfl hb189 ?_
            refine t_seq fun K190 hK191 => ?_
            refine t_region ?_
            refine c_p (r_mv rfl) rfl ?_
            refine c_p (r_mv rfl) rfl ?_
            obtain ⟨el195, hel195, h160⟩ := bs h160
            refine t_q a0 hel195 fun q192 hq193 hm194 => ?_
            refine c_p (r_idx hq193 hm194 hel195 Tryd.underlying52 ti3 rfl rfl) rfl ?_
            refine t_op (opens_int .i64) a0 hel195 fun t196 => ?_
            refine c_s (r_e1 a0 hq193 Tryd.underlying3 rfl rfl rfl) rfl ?_
            refine c_p (r_mv rfl) rfl ?_
            obtain ⟨hc197, h160⟩ := ck_out h160
            refine c_p (r_rem rfl rfl hc197) rfl ?_
            refine c_p (r_as rfl) rfl ?_
            refine t_nil ?_
            refine t_then hK191 ?_
            refine t_seq fun K198 hK199 => ?_
            refine t_region ?_
            refine c_p (r_mv rfl) rfl ?_
            refine c_p (r_i rfl rfl rfl) rfl ?_
            refine t_nil ?_
            refine t_then hK199 ?_
            rcases Bool.eq_false_or_eq_true (decide (((el195 : Int).tmod (IntKind.wrap .i64 ((IntKind.wrap .i64 ((el177.Data.length : Int) - el177.Safe)) + 1))) < 0)) with hb200 | hb200
            · replace h160 := itT hb200 h160
              refine t_T rfl hb200 ?_
              refine t_region ?_
              refine c_p (r_mv rfl) rfl ?_
              refine c_p (r_mv rfl) rfl ?_
              refine c_p (r_i rfl rfl rfl) rfl ?_
              refine c_p (r_as rfl) rfl ?_
              refine t_nil ?_
              exact t_norm (t_go (J202 (IntKind.wrap .i64 (((el195 : Int).tmod (IntKind.wrap .i64 ((IntKind.wrap .i64 ((el177.Data.length : Int) - el177.Safe)) + 1))) + (IntKind.wrap .i64 ((IntKind.wrap .i64 ((el177.Data.length : Int) - el177.Safe)) + 1)))) h160) ⟨rfl, rfl, rfl, rfl, rfl, rfl, rfl, trivial⟩ (.cons e2 (.cons e1 (.cons e0 (.cons e0 .nil)))) (fun w Z hA => V1 a1 hA (V1 a2 hA (V0))))
            · replace h160 := itF hb200 h160
              refine t_F rfl hb200 ?_
              refine t_skip ?_
              exact t_norm (t_go (J202 ((el195 : Int).tmod (IntKind.wrap .i64 ((IntKind.wrap .i64 ((el177.Data.length : Int) - el177.Safe)) + 1))) h160) ⟨rfl, rfl, rfl, rfl, rfl, rfl, rfl, trivial⟩ (.cons e2 (.cons e1 (.cons e0 (.cons e0 .nil)))) (fun w Z hA => V1 a1 hA (V1 a2 hA (V0))))
          · replace h160 := itF hb189 h160
            refine t_F rfl hb189 ?_
            refine t_skip ?_
            exact t_norm (t_go (J202 0 h160) ⟨rfl, rfl, rfl, rfl, rfl, rfl, rfl, trivial⟩ (.cons e2 (.cons e1 (.cons e0 (.cons e0 .nil)))) (fun w Z hA => V1 a0 hA (V1 a1 hA (V0))))
        · replace h160 := itF hb167 h160
          refine t_F rfl hb167 ?_
          refine t_exit ?_
          refine te (te (bx ?_))
          refine t_then hK28 ?_
          refine t_seq fun K223 hK224 => ?_
          refine t_region ?_
          refine c_s (r_ldA a2 Tryd.underlying27 rfl ti27 rfl rfl) rfl ?_
          refine nx (t_st u0 ti27 rfl rfl rfl rfl rfl (.t (.s (.s (.s (.s .z))))) ?_)
          refine t_nil ?_
          refine t_then hK224 ?_
          refine t_ret ?_
          exact ret1 rfl (v_N rfl a0 Tryd.underlying27 rfl ti27 rfl) (t_leave (hQ _ (Option.some.inj h160)) (t23.1, t23.2.1, t23.2.2) rfl (fun w Z hA => V0) (.cons e1 .nil))
    exact t_go (LP159 ((((y22.Files.length : Int) : Int) - (0)).toNat + 1) y22.Files 0 h) ⟨rfl, rfl, rfl, rfl, rfl, trivial⟩ (.cons e2 (.cons e1 (.cons e0 .nil))) (fun w Z hA => V1 a1 hA (V1 a2 hA (V0)))
  · replace h := itF hb17 h
    refine t_T rfl (congrArg Bool.not hb17) ?_
    refine t_seq fun K18 hK19 => ?_
    refine t_region ?_
    refine c_p (r_bu (ps := []) (cs := [.int .i64 0, .slice none 0 0, .bool false, .int .i64 0]) rfl (by kernel_rfl)) rfl ?_
    refine nx (t_st u0 ti27 rfl rfl rfl rfl rfl (.t (.s (.s (.s (.s .z))))) ?_)
    refine t_nil ?_
    refine t_then hK19 ?_
    refine t_ret ?_
    refine t_nr 34 k_api_DiskFile ?_
    exact tr (ret1 rfl (v_N rfl a1 Tryd.underlying27 rfl ti27 rfl) (t_leave (hQ _ (Option.some.inj h)) (none, 0, 0) rfl (fun w Z hA => V0) (.cons e0 .nil)))
end Go.Proofs.YtkjeedijloobgaaDoor.Gx
