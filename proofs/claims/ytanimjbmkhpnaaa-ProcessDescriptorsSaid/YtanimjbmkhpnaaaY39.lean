/- Function 39, kaudit/process.between: what it answers as a plain function, and that the Go code comes to exactly that (where the plain function gives an answer). -/
import Derived.Test.YtanimjbmkhpnaaaYT
set_option linter.unusedVariables false
set_option linter.unusedSimpArgs false
namespace Go.Proofs.Ytanimjbmkhpnaaa.Gx
open Go.Gx Go.RowKit
/-! ### kaudit/process.between: function 39 -/
def f_process_between_j3 (x134 : Bool) : Option (Bool) := some (!x134)
def f_process_between_j2 (x131 : Int) : Option (Bool) := f_process_between_j3 (decide (x131 ≥ 0))
def f_process_between_j1 (x93 : Int) (rec_f_process_between_l1 : Int → Option (Bool)) (x123 : Bool) : Option (Bool) := if x123 = true then (f_process_between_j2 x93) else (rec_f_process_between_l1 (IntKind.wrap .i64 (x93 + 1)))
def f_process_between_l1 (z0 : Int) (z1 : (List Int)) : Nat → Int → Option (Bool)
  | 0, _ => none
  | k96 + 1, x93 => if (decide (x93 < (z1.length : Int))) = true then ((at_ z1 x93).bind fun el112 => if (decide (el112 < 0)) = true then (f_process_between_j1 x93 (f_process_between_l1 z0 z1 k96) true) else (f_process_between_j1 x93 (f_process_between_l1 z0 z1 k96) (decide (el112 > z0)))) else (f_process_between_j2 (-1))
def f_process_between (z0 : Int) (z1 : (List Int)) : Option (Bool) := f_process_between_l1 z0 z1 ((((z1.length : Int) : Int) - (0)).toNat + 1) 0
set_option maxHeartbeats 4000000 in
set_option maxRecDepth 100000 in
theorem C39 (z0 : Int) (z1 : (List Int)) (p1 : Option Addr) (m2 : Nat) (c3 : Nat) (r : Bool) (h : f_process_between z0 z1 = some r) : FunG Try.prog 39 #[.int .i64 z0, .slice p1 m2 c3] [vw (kSlice 3 (kInt .i64)) z1 [.slice p1 m2 c3]] [] (fun (_ : Unit) => .bool r) (fun _ => []) (fun _ => []) := by
  unfold f_process_between at h
  refine t_begin (args := [.int .i64 z0, .slice p1 m2 c3]) Try.func39 rfl Try.ntmps39 rfl fun c R hR => ?_
  have hQ : ∀ X, X = r → ∀ w2 (_ : Unit), PostG c.w0 w2 c.M c.Y [] [] → R (.returned (.bool X)) w2 := fun X e => by subst e; exact hR
  refine t_seq fun K4 hK5 => ?_
  refine t_region ?_
  refine nx (t_bx (cs := [.int .i64 z0]) rfl rfl rfl fun g6 => ?_)
  refine c_p (r_as rfl) rfl ?_
  refine t_nil ?_
  refine t_then hK5 ?_
  refine t_seq fun K7 hK8 => ?_
  refine t_region ?_
  refine c_p (r_mv rfl) rfl ?_
  refine c_p (r_mf (vs := [.pointer (some ⟨g6, 0, none⟩)]) rfl) rfl ?_
  refine nx (t_in (args := [.slice p1 m2 c3, .func (.func 62) #[] #[.pointer (some ⟨g6, 0, none⟩)]]) (cap := []) (all := [.slice p1 m2 c3, .func (.func 62) #[] #[.pointer (some ⟨g6, 0, none⟩)]]) rfl rfl Try.func61 nm61 rfl rfl rfl Try.ntmps61 rfl fun R9 k10 hk11 hR12 => ?_)
  have J135 : ∀ (x134 : Bool), f_process_between_j3 x134 = some r → T 9 c [] [] [(4, .bool false), (7, .bool x134)] k10 := by
    intro x134 h136
    unfold f_process_between_j3 at h136
    refine ti hk11 ?_
    refine c_p (r_not rfl) rfl ?_
    refine c_p (r_as rfl) rfl ?_
    refine t_nil ?_
    refine t_then hK8 ?_
    refine t_ret ?_
    exact ret1 rfl (v_t rfl) (t_leave (hQ _ (Option.some.inj h136)) () rfl (fun w Z hA => V0) .nil)
  refine t_seq fun K13 hK14 => ?_
  refine t_region ?_
  refine c_p (r_as rfl) rfl ?_
  refine t_nil ?_
  refine t_then hK14 ?_
  refine t_seq fun K15 hK16 => ?_
  refine t_region ?_
  refine c_p (r_mv rfl) rfl ?_
  refine c_p (r_mv rfl) rfl ?_
  refine nx (t_in (args := [.slice p1 m2 c3, .func (.func 62) #[] #[.pointer (some ⟨g6, 0, none⟩)]]) (cap := []) (all := [.slice p1 m2 c3, .func (.func 62) #[] #[.pointer (some ⟨g6, 0, none⟩)]]) rfl rfl Try.func72 nm72 rfl rfl rfl Try.ntmps72 rfl fun R17 k18 hk19 hR20 => ?_)
  have J132 : ∀ (x131 : Int), f_process_between_j2 x131 = some r → T 9 c [] [] [(4, .bool false), (7, .int .i64 x131)] k18 := by
    intro x131 h133
    unfold f_process_between_j2 at h133
    refine ti hk19 ?_
    refine c_p (r_i rfl rfl rfl) rfl ?_
    refine c_p (r_as rfl) rfl ?_
    refine t_nil ?_
    refine t_then hK16 ?_
    refine t_ret ?_
    refine ret1 rfl (v_t rfl) (t_bk hR12 ?_)
    exact t_go (J135 (decide (x131 ≥ 0)) h133) ⟨rfl, rfl, trivial⟩ .nil (fun w Z hA => V0)
  refine t_seq fun K21 hK22 => ?_
  refine t_region ?_
  refine c_p (r_as rfl) rfl ?_
  refine t_nil ?_
  refine t_then hK22 ?_
  refine t_seq fun K23 hK24 => ?_
  refine t_seq fun K25 hK26 => ?_
  refine t_region ?_
  refine c_p (r_mv rfl) rfl ?_
  refine c_s (r_lnA a0 Try.underlying22 rfl) rfl ?_
  refine c_p (r_mv rfl) rfl ?_
  refine t_nil ?_
  refine t_then hK26 ?_
  refine t_block ?_
  refine t_lp fun k91 hk92 => ?_
  have LP94 : ∀ (k96 : Nat) (x93 : Int), f_process_between_l1 z0 z1 k96 x93 = some r → T 19 c [vw (kSlice 3 (kInt .i64)) z1 [.slice p1 m2 c3]] [[blk g6 [.int .i64 z0] 3]] [(0, .slice p1 m2 c3), (1, .func (.func 62) #[] #[.pointer (some ⟨g6, 0, none⟩)]), (7, .int .i64 (z1.length : Int)), (8, .int .i64 x93)] k91 := by
    intro k96
    induction k96 with
    | zero => intro x93 h95; rewrite [f_process_between_l1] at h95; cases h95
    | succ k96 ih97 =>
      intro x93 h95
      rewrite [f_process_between_l1] at h95
      refine ti hk92 ?_
      refine t_seq fun K98 hK99 => ?_
      refine t_region ?_
      refine c_p (r_i rfl rfl rfl) rfl ?_
      refine t_nil ?_
      refine t_then hK99 ?_
      refine t_seq fun K100 hK101 => ?_
      rcases Bool.eq_false_or_eq_true (decide (x93 < (z1.length : Int))) with hb102 | hb102
      · replace h95 := itT hb102 h95
        refine t_T rfl hb102 ?_
        refine t_skip ?_
        refine t_then hK101 ?_
        refine t_seq fun K103 hK104 => ?_
        refine t_block ?_
        refine t_seq fun K105 hK106 => ?_
        refine t_region ?_
        refine c_p (r_mv rfl) rfl ?_
        refine c_p (r_as rfl) rfl ?_
        refine t_nil ?_
        refine t_then hK106 ?_
        refine t_seq fun K107 hK108 => ?_
        refine t_region ?_
        refine c_p (r_mv rfl) rfl ?_
        refine c_p (r_mv rfl) rfl ?_
        refine c_p (r_mv rfl) rfl ?_
        obtain ⟨el112, hel112, h95⟩ := bs h95
        refine t_q a0 hel112 fun q109 hq110 hm111 => ?_
        refine c_p (r_idx hq110 hm111 hel112 Try.underlying22 ti3 rfl rfl) rfl ?_
        refine t_op (opens_int .i64) a0 hel112 fun t113 => ?_
        refine c_s (r_e1 a0 hq110 Try.underlying3 rfl rfl rfl) rfl ?_
        refine nx (t_in (args := [.int .i64 el112]) (cap := [.pointer (some ⟨g6, 0, none⟩)]) (all := [.int .i64 el112, .pointer (some ⟨g6, 0, none⟩)]) rfl rfl Try.func62 nm62 rfl rfl rfl Try.ntmps62 rfl fun R114 k115 hk116 hR117 => ?_)
        have J124 : ∀ (x123 : Bool), f_process_between_j1 x93 (f_process_between_l1 z0 z1 k96) x123 = some r → T 19 c [vw (kSlice 3 (kInt .i64)) z1 [.slice p1 m2 c3]] [[blk g6 [.int .i64 z0] 3]] [(0, .slice p1 m2 c3), (1, .func (.func 62) #[] #[.pointer (some ⟨g6, 0, none⟩)]), (5, .int .i64 x93), (7, .int .i64 (z1.length : Int)), (8, .int .i64 x93), (16, .bool x123)] k115 := by
          intro x123 h125
          unfold f_process_between_j1 at h125
          refine ti hk116 ?_
          refine t_nil ?_
          refine t_then hK108 ?_
          rcases Bool.eq_false_or_eq_true x123 with hb126 | hb126
          · replace h125 := itT hb126 h125
            refine t_T rfl hb126 ?_
            refine t_seq fun K127 hK128 => ?_
            refine t_region ?_
            refine c_p (r_mv rfl) rfl ?_
            refine c_p (r_as rfl) rfl ?_
            refine t_nil ?_
            refine t_then hK128 ?_
            refine t_ret ?_
            refine br (tr (tr (br (tr (ret1 rfl (v_t rfl) (t_bk hR20 ?_))))))
            exact t_go (J132 x93 h125) ⟨rfl, rfl, trivial⟩ .nil (fun w Z hA => V0)
          · replace h125 := itF hb126 h125
            refine t_F rfl hb126 ?_
            refine t_skip ?_
            refine t_blockN ?_
            refine t_then hK104 ?_
            refine t_region ?_
            refine c_p (r_i rfl rfl rfl) rfl ?_
            refine c_p (r_mv rfl) rfl ?_
            refine t_nil ?_
            exact t_norm (t_go (ih97 (IntKind.wrap .i64 (x93 + 1)) h125) ⟨rfl, rfl, rfl, rfl, trivial⟩ (.cons e0 .nil) (fun w Z hA => V1 a0 hA (V0)))
        refine t_seq fun K118 hK119 => ?_
        refine t_region ?_
        refine c_p (r_as rfl) rfl ?_
        refine t_nil ?_
        refine t_then hK119 ?_
        refine t_seq fun K120 hK121 => ?_
        refine t_region ?_
        refine c_p (r_mv rfl) rfl ?_
        refine c_p (r_i rfl rfl rfl) rfl ?_
        refine c_p (r_mv rfl) rfl ?_
        rcases Bool.eq_false_or_eq_true (decide (el112 < 0)) with hb122 | hb122
        · replace h95 := itT hb122 h95
          refine nx (pass rfl rfl hb122 rfl ?_)
          refine nx (pass rfl rfl hb122 rfl ?_)
          refine nx (pass rfl rfl hb122 rfl ?_)
          refine c_p (r_pT rfl hb122 rfl) rfl ?_
          refine c_p (r_as rfl) rfl ?_
          refine t_nil ?_
          refine t_then hK121 ?_
          refine t_ret ?_
          refine ret1 rfl (v_t rfl) (t_bk hR117 ?_)
          exact t_go (J124 true h95) ⟨rfl, rfl, rfl, rfl, rfl, rfl, trivial⟩ (.cons e0 .nil) (fun w Z hA => V1 a1 hA (V0))
        · replace h95 := itF hb122 h95
          refine nx (gd rfl rfl hb122 (sp (r_mv rfl) rfl ?_))
          refine nx (gd rfl rfl hb122 (ss (r_ld a0 Try.underlying3 rfl rfl rfl) rfl ?_))
          refine nx (gd rfl rfl hb122 (sp (r_i rfl rfl rfl) rfl ?_))
          refine c_p (r_pF rfl hb122 rfl) rfl ?_
          refine c_p (r_as rfl) rfl ?_
          refine t_nil ?_
          refine t_then hK121 ?_
          refine t_ret ?_
          refine ret1 rfl (v_t rfl) (t_bk hR117 ?_)
          exact t_go (J124 (decide (el112 > z0)) h95) ⟨rfl, rfl, rfl, rfl, rfl, rfl, trivial⟩ (.cons e0 .nil) (fun w Z hA => V1 a1 hA (V0))
      · replace h95 := itF hb102 h95
        refine t_F rfl hb102 ?_
        refine t_exit ?_
        refine te (te (bx ?_))
        refine t_then hK24 ?_
        refine t_seq fun K129 hK130 => ?_
        refine t_region ?_
        refine c_p (r_as rfl) rfl ?_
        refine t_nil ?_
        refine t_then hK130 ?_
        refine t_ret ?_
        refine ret1 rfl (v_t rfl) (t_bk hR20 ?_)
        exact t_go (J132 (-1) h95) ⟨rfl, rfl, trivial⟩ .nil (fun w Z hA => V0)
  exact t_go (LP94 ((((z1.length : Int) : Int) - (0)).toNat + 1) 0 h) ⟨rfl, rfl, rfl, rfl, trivial⟩ (.cons e0 .nil) (fun w Z hA => V1 a0 hA (V0))
end Go.Proofs.Ytanimjbmkhpnaaa.Gx
