/- Function 10, kaudit/process.Fork: what it answers as a plain function, and that the Go code comes to exactly that (where the plain function gives an answer). -/
import Derived.Test.YtanimjbmkhpnaaaYT
import Derived.Test.YtanimjbmkhpnaaaY32
import Derived.Test.YtanimjbmkhpnaaaY37
import Derived.Test.YtanimjbmkhpnaaaY54
set_option linter.unusedVariables false
set_option linter.unusedSimpArgs false
namespace Go.Proofs.Ytanimjbmkhpnaaa.Gx
open Go.Gx Go.RowKit
/-! ### kaudit/process.Fork: function 10 -/
def f_process_Fork_j3 (x106 : Int) (x107 : Int) (x111 : List api_Process) (x112 : Int) (x113 : Int) : Option (api_Table × Int × Int) := some ((⟨x106, x107, x111⟩ : api_Table), x112, x113)
def f_process_Fork_j2 (y34 : api_Table) (x84 : Int) (x88 : List api_Process) (x89 : Int) (x90 : Int) : Option (api_Table × Int × Int) := if (x90 != 0) = true then (f_process_Fork_j3 0 0 ([] : List api_Process) 0 x90) else (f_process_Fork_j3 x84 y34.NextSession x88 x89 0)
def f_process_Fork_j1 (y34 : api_Table) (x75 : Int) (x79 : List api_Process) (x80 : Int) (x81 : Int) : Option (api_Table × Int × Int) := f_process_Fork_j2 y34 x75 x79 x80 x81
def f_process_Fork (z0 : api_Table) (z1 : Int) : Option (api_Table × Int × Int) := (f_process_place z0 z1).bind fun y23 => if y23.2 = true then ((f_own_Table z0).bind fun y34 => (at_ y34.Processes y23.1).bind fun el41 => if (decide ((y34.Processes.length : Int) ≥ 16)) = true then (f_process_Fork_j1 y34 y34.Next y34.Processes 0 11) else (if (decide (y34.Next ≥ 1073741824)) = true then (f_process_Fork_j1 y34 y34.Next y34.Processes 0 11) else ((f_own_Process el41).bind fun y61 => ck (fits (y34.Processes.length + [(⟨y34.Next, z1, y61.UID, y61.EUID, y61.GID, y61.EGID, y61.AUID, y61.Session, y61.Cwd, y61.Comm, y61.Exe, y61.Open, y61.Audited⟩ : api_Process)].length) 144 = true) <| f_process_Fork_j1 y34 (IntKind.wrap .i64 (y34.Next + 1)) (y34.Processes ++ [(⟨y34.Next, z1, y61.UID, y61.EUID, y61.GID, y61.EGID, y61.AUID, y61.Session, y61.Cwd, y61.Comm, y61.Exe, y61.Open, y61.Audited⟩ : api_Process)]) y34.Next 0))) else (f_process_Fork_j3 0 0 ([] : List api_Process) 0 3)
set_option maxHeartbeats 4000000 in
set_option maxRecDepth 100000 in
theorem C10 (z0 : api_Table) (z1 : Int) (p1 : Option Addr) (m2 : Nat) (c3 : Nat) (r : api_Table × Int × Int) (h : f_process_Fork z0 z1 = some r) : FunG Try.prog 10 #[.agg #[.int .i64 z0.Next, .int .i64 z0.NextSession, .slice p1 m2 c3], .int .i64 z1] [vw (kSlice 38 k_api_Process) z0.Processes [.slice p1 m2 c3]] [] (fun t : (Option Addr × Nat × Nat) => .tuple #[.agg #[.int .i64 r.1.Next, .int .i64 r.1.NextSession, .slice t.1 t.2.1 t.2.2], .int .i64 r.2.1, .int .i64 r.2.2]) (fun t => []) (fun t => [[row 38 k_api_Process r.1.Processes (.slice t.1 t.2.1 t.2.2)]]) := by
  unfold f_process_Fork at h
  refine t_begin (args := [.agg #[.int .i64 z0.Next, .int .i64 z0.NextSession, .slice p1 m2 c3], .int .i64 z1]) Try.func10 rfl Try.ntmps10 rfl fun c R hR => ?_
  have hQ : ∀ X, X = r → ∀ w2 (t : (Option Addr × Nat × Nat)), PostG c.w0 w2 c.M c.Y [] [[row 38 k_api_Process X.1.Processes (.slice t.1 t.2.1 t.2.2)]] → R (.returned (.tuple #[.agg #[.int .i64 X.1.Next, .int .i64 X.1.NextSession, .slice t.1 t.2.1 t.2.2], .int .i64 X.2.1, .int .i64 X.2.2])) w2 := fun X e => by subst e; exact hR
  refine t_seq fun K4 hK5 => ?_
  refine t_region ?_
  refine nx (t_bx (cs := [.int .i64 z0.Next, .int .i64 z0.NextSession, .slice p1 m2 c3]) rfl rfl rfl fun g6 => ?_)
  refine nx (t_bx (cs := [.int .i64 z1]) rfl rfl rfl fun g7 => ?_)
  refine nx (t_al (cs := [.int .i64 0, .int .i64 0, .slice none 0 0]) ti28 rfl rfl fun g8 => ?_)
  refine c_p (r_as rfl) rfl ?_
  refine c_p (r_as rfl) rfl ?_
  refine t_nil ?_
  refine t_then hK5 ?_
  refine t_seq fun K9 hK10 => ?_
  refine t_region ?_
  refine c_s (r_ldA a2 Try.underlying28 rfl ti28 rfl rfl) rfl ?_
  refine c_s (r_ld a1 Try.underlying3 rfl rfl rfl) rfl ?_
  refine c_p (r_mf (vs := [.pointer (some ⟨g7, 0, none⟩)]) rfl) rfl ?_
  refine nx (t_in (args := [.agg #[.int .i64 z0.Next, .int .i64 z0.NextSession, .slice p1 m2 c3], .int .i64 z1, .func (.func 31) #[] #[.pointer (some ⟨g7, 0, none⟩)]]) (cap := []) (all := [.agg #[.int .i64 z0.Next, .int .i64 z0.NextSession, .slice p1 m2 c3], .int .i64 z1, .func (.func 31) #[] #[.pointer (some ⟨g7, 0, none⟩)]]) rfl rfl Try.func30 nm30 rfl rfl rfl Try.ntmps30 rfl fun R11 k12 hk13 hR14 => ?_)
  have J114 : ∀ (x106 : Int) (x107 : Int) (p108 : Option Addr) (m109 : Nat) (c110 : Nat) (x111 : List api_Process) (x112 : Int) (x113 : Int), f_process_Fork_j3 x106 x107 x111 x112 x113 = some r → T 14 c [] [[blk g8 [.int .i64 0, .int .i64 0, .slice none 0 0] 28], [row 38 k_api_Process x111 (.slice p108 m109 c110)]] [(4, .pointer (some ⟨g8, 0, none⟩)), (5, .int .i64 0), (6, .int .i64 0), (10, .tuple #[.agg #[.int .i64 x106, .int .i64 x107, .slice p108 m109 c110], .int .i64 x112, .int .i64 x113])] k12 := by
    intro x106 x107 p108 m109 c110 x111 x112 x113 h115
    unfold f_process_Fork_j3 at h115
    refine ti hk13 ?_
    refine c_p (r_ex rfl rfl) rfl ?_
    refine c_p (r_ex rfl rfl) rfl ?_
    refine c_p (r_ex rfl rfl) rfl ?_
    refine nx (t_st u0 ti28 rfl rfl rfl rfl rfl (.t (.s (.s (.s .z)))) ?_)
    refine c_p (r_as rfl) rfl ?_
    refine c_p (r_as rfl) rfl ?_
    refine t_nil ?_
    refine t_then hK10 ?_
    refine t_ret ?_
    exact ret3 rfl (v_N rfl a0 Try.underlying28 rfl ti28 rfl) (v_t rfl) (v_t rfl) (t_leave (hQ _ (Option.some.inj h115)) (p108, m109, c110) rfl (fun w Z hA => V0) (.cons e1 .nil))
  refine t_seq fun K15 hK16 => ?_
  refine t_region ?_
  refine nx (t_bx (cs := [.int .i64 z0.Next, .int .i64 z0.NextSession, .slice p1 m2 c3]) rfl rfl rfl fun g17 => ?_)
  refine nx (t_al (cs := [.int .i64 0, .int .i64 0, .slice none 0 0]) ti28 rfl rfl fun g18 => ?_)
  refine c_p (r_as rfl) rfl ?_
  refine c_p (r_as rfl) rfl ?_
  refine t_nil ?_
  refine t_then hK16 ?_
  refine t_seq fun K19 hK20 => ?_
  refine t_region ?_
  refine c_p (r_as rfl) rfl ?_
  refine t_nil ?_
  refine t_then hK20 ?_
  refine t_seq fun K21 hK22 => ?_
  refine t_region ?_
  refine c_s (r_ldA a1 Try.underlying28 rfl ti28 rfl rfl) rfl ?_
  refine c_p (r_mv rfl) rfl ?_
  obtain ⟨y23, hy23, h⟩ := bs h
  refine nx (t_ca (C37 _ _ _ _ _ _ hy23) Try.func37 nm37 rfl rfl rfl .nil (fun w Z hA => (V1 a0 hA V0)) rfl fun t24 => ?_)
  refine c_p (r_mv rfl) rfl ?_
  refine c_p (r_ex rfl rfl) rfl ?_
  refine c_p (r_ex rfl rfl) rfl ?_
  refine c_p (r_as rfl) rfl ?_
  refine c_p (r_as rfl) rfl ?_
  refine t_nil ?_
  refine t_then hK22 ?_
  refine t_seq fun K25 hK26 => ?_
  refine t_seq fun K27 hK28 => ?_
  refine t_region ?_
  refine c_p (r_mv rfl) rfl ?_
  refine c_p (r_not rfl) rfl ?_
  refine t_nil ?_
  refine t_then hK28 ?_
  rcases Bool.eq_false_or_eq_true y23.2 with hb29 | hb29
  · replace h := itT hb29 h
    refine t_F rfl (congrArg Bool.not hb29) ?_
    refine t_skip ?_
    refine t_then hK26 ?_
    refine t_seq fun K32 hK33 => ?_
    refine t_region ?_
    refine c_s (r_ldA a1 Try.underlying28 rfl ti28 rfl rfl) rfl ?_
    obtain ⟨y34, hy34, h⟩ := bs h
    refine nx (t_ca (C54 _ _ _ _ _ hy34) Try.func54 nm54 rfl rfl rfl .nil (fun w Z hA => (V1 a0 hA V0)) rfl fun t35 => ?_)
    refine nx (t_st u2 ti28 rfl rfl rfl rfl rfl (.t (.s (.s (.s .z)))) ?_)
    refine t_nil ?_
    refine t_then hK33 ?_
    refine t_seq fun K36 hK37 => ?_
    have J91 : ∀ (x84 : Int) (p85 : Option Addr) (m86 : Nat) (c87 : Nat) (x88 : List api_Process) (x89 : Int) (x90 : Int), f_process_Fork_j2 y34 x84 x88 x89 x90 = some r → T 42 c [] [[row 38 k_api_Process x88 (.slice p85 m86 c87)], [blk g17 [.int .i64 x84, .int .i64 y34.NextSession, .slice p85 m86 c87] 28], [blk g18 [.int .i64 0, .int .i64 0, .slice none 0 0] 28], [blk g8 [.int .i64 0, .int .i64 0, .slice none 0 0] 28]] [(3, .pointer (some ⟨g17, 0, none⟩)), (6, .pointer (some ⟨g18, 0, none⟩)), (9, .int .i64 0), (12, .int .i64 x89), (13, .int .i64 x90)] K36 := by
      intro x84 p85 m86 c87 x88 x89 x90 h92
      unfold f_process_Fork_j2 at h92
      refine ti hK37 ?_
      refine t_seq fun K93 hK94 => ?_
      refine t_seq fun K95 hK96 => ?_
      refine t_region ?_
      refine c_p (r_mv rfl) rfl ?_
      refine c_p (r_i rfl rfl rfl) rfl ?_
      refine t_nil ?_
      refine t_then hK96 ?_
      rcases Bool.eq_false_or_eq_true (x90 != 0) with hb97 | hb97
      · replace h92 := itT hb97 h92
        refine t_T rfl hb97 ?_
        refine t_seq fun K98 hK99 => ?_
        refine t_region ?_
        refine c_p (r_bu (ps := []) (cs := [.int .i64 0, .int .i64 0, .slice none 0 0]) rfl (by kernel_rfl)) rfl ?_
        refine c_p (r_mv rfl) rfl ?_
        refine c_p (r_mv rfl) rfl ?_
        refine nx (t_st u2 ti28 rfl rfl rfl rfl rfl (.t (.s (.s (.s .z)))) ?_)
        refine c_p (r_as rfl) rfl ?_
        refine c_p (r_as rfl) rfl ?_
        refine t_nil ?_
        refine t_then hK99 ?_
        refine t_ret ?_
        refine tr (ret3 rfl (v_N rfl a2 Try.underlying28 rfl ti28 rfl) (v_t rfl) (v_t rfl) (t_bk hR14 ?_))
        refine t_nr 38 k_api_Process ?_
        exact t_go (J114 0 0 none 0 0 ([] : List api_Process) 0 x90 h92) ⟨rfl, rfl, rfl, rfl, trivial⟩ (.cons e4 (.cons e0 .nil)) (fun w Z hA => V0)
      · replace h92 := itF hb97 h92
        refine t_F rfl hb97 ?_
        refine t_skip ?_
        refine t_then hK94 ?_
        refine t_seq fun K100 hK101 => ?_
        refine t_region ?_
        refine c_s (r_ldA a1 Try.underlying28 rfl ti28 rfl rfl) rfl ?_
        refine c_p (r_mv rfl) rfl ?_
        refine nx (t_st u2 ti28 rfl rfl rfl rfl rfl (.t (.s (.s (.s .z)))) ?_)
        refine c_p (r_as rfl) rfl ?_
        refine c_p (r_as rfl) rfl ?_
        refine t_nil ?_
        refine t_then hK101 ?_
        refine t_ret ?_
        refine ret3 rfl (v_N rfl a2 Try.underlying28 rfl ti28 rfl) (v_t rfl) (v_t rfl) (t_bk hR14 ?_)
        exact t_go (J114 x84 y34.NextSession p85 m86 c87 x88 x89 0 h92) ⟨rfl, rfl, rfl, rfl, trivial⟩ (.cons e3 (.cons e0 .nil)) (fun w Z hA => V0)
    refine t_region ?_
    refine c_p (r_mv rfl) rfl ?_
    refine c_p (r_fa (off' := 2) Try.underlying28 rfl ti26 rfl rfl) rfl ?_
    refine c_s (r_ld a2 Try.underlying26 rfl rfl rfl) rfl ?_
    refine c_p (r_mv rfl) rfl ?_
    obtain ⟨el41, hel41, h⟩ := bs h
    refine t_qL a0 hel41 fun q38 hq39 hm40 => ?_
    refine c_p (r_idx hq39 hm40 hel41 Try.underlying26 ti38 rfl rfl) rfl ?_
    refine nx (t_in (args := [.pointer (some ⟨g17, 0, none⟩), .pointer (some q38)]) (cap := [.pointer (some ⟨g7, 0, none⟩)]) (all := [.pointer (some ⟨g17, 0, none⟩), .pointer (some q38), .pointer (some ⟨g7, 0, none⟩)]) rfl rfl Try.func31 nm31 rfl rfl rfl Try.ntmps31 rfl fun R42 k43 hk44 hR45 => ?_)
    have J82 : ∀ (x75 : Int) (p76 : Option Addr) (m77 : Nat) (c78 : Nat) (x79 : List api_Process) (x80 : Int) (x81 : Int), f_process_Fork_j1 y34 x75 x79 x80 x81 = some r → T 42 c [] [[row 38 k_api_Process x79 (.slice p76 m77 c78)], [blk g17 [.int .i64 x75, .int .i64 y34.NextSession, .slice p76 m77 c78] 28], [blk g18 [.int .i64 0, .int .i64 0, .slice none 0 0] 28], [blk g8 [.int .i64 0, .int .i64 0, .slice none 0 0] 28]] [(3, .pointer (some ⟨g17, 0, none⟩)), (6, .pointer (some ⟨g18, 0, none⟩)), (9, .int .i64 0), (32, .tuple #[.int .i64 x80, .int .i64 x81])] k43 := by
      intro x75 p76 m77 c78 x79 x80 x81 h83
      unfold f_process_Fork_j1 at h83
      refine ti hk44 ?_
      refine c_p (r_mv rfl) rfl ?_
      refine c_p (r_ex rfl rfl) rfl ?_
      refine c_p (r_ex rfl rfl) rfl ?_
      refine c_p (r_as rfl) rfl ?_
      refine c_p (r_as rfl) rfl ?_
      refine t_nil ?_
      exact t_norm (t_go (J91 x75 p76 m77 c78 x79 x80 x81 h83) ⟨rfl, rfl, rfl, rfl, rfl, trivial⟩ (.cons e0 (.cons e0 (.cons e0 (.cons e0 .nil)))) (fun w Z hA => V0))
    refine t_seq fun K46 hK47 => ?_
    refine t_region ?_
    refine c_p (r_as rfl) rfl ?_
    refine c_p (r_as rfl) rfl ?_
    refine t_nil ?_
    refine t_then hK47 ?_
    refine t_seq fun K48 hK49 => ?_
    refine t_seq fun K50 hK51 => ?_
    refine t_region ?_
    refine c_p (r_mv rfl) rfl ?_
    refine c_p (r_nc rfl) rfl ?_
    refine c_p (r_fa (off' := 2) Try.underlying28 rfl ti26 rfl rfl) rfl ?_
    refine c_s (r_ld a2 Try.underlying26 rfl rfl rfl) rfl ?_
    refine c_s (r_lnL a0 Try.underlying26 rfl) rfl ?_
    refine c_p (r_i rfl rfl rfl) rfl ?_
    refine c_p (r_mv rfl) rfl ?_
    rcases Bool.eq_false_or_eq_true (decide ((y34.Processes.length : Int) ≥ 16)) with hb52 | hb52
    · replace h := itT hb52 h
      refine nx (pass rfl rfl hb52 rfl ?_)
      refine nx (pass rfl rfl hb52 rfl ?_)
      refine nx (pass rfl rfl hb52 rfl ?_)
      refine nx (pass rfl rfl hb52 rfl ?_)
      refine nx (pass rfl rfl hb52 rfl ?_)
      refine c_p (r_pT rfl hb52 rfl) rfl ?_
      refine t_nil ?_
      refine t_then hK51 ?_
      refine t_T rfl rfl ?_
      refine t_seq fun K53 hK54 => ?_
      refine t_region ?_
      refine c_p (r_as rfl) rfl ?_
      refine c_p (r_as rfl) rfl ?_
      refine t_nil ?_
      refine t_then hK54 ?_
      refine t_ret ?_
      refine tr (ret2 rfl (v_t rfl) (v_t rfl) (t_bk hR45 ?_))
      exact t_go (J82 y34.Next t35.1 t35.2.1 t35.2.2 y34.Processes 0 11 h) ⟨rfl, rfl, rfl, rfl, trivial⟩ (.cons e0 (.cons e1 (.cons e0 (.cons e0 .nil)))) (fun w Z hA => V0)
    · replace h := itF hb52 h
      refine nx (gd rfl rfl hb52 (sp (r_mv rfl) rfl ?_))
      refine nx (gd rfl rfl hb52 (sp (r_nc rfl) rfl ?_))
      refine nx (gd rfl rfl hb52 (sp (r_fa (off' := 0) Try.underlying28 rfl ti3 rfl rfl) rfl ?_))
      refine nx (gd rfl rfl hb52 (ss (r_ld a2 Try.underlying3 rfl rfl rfl) rfl ?_))
      refine nx (gd rfl rfl hb52 (sp (r_i rfl rfl rfl) rfl ?_))
      refine c_p (r_pF rfl hb52 rfl) rfl ?_
      refine t_nil ?_
      refine t_then hK51 ?_
      rcases Bool.eq_false_or_eq_true (decide (y34.Next ≥ 1073741824)) with hb55 | hb55
      · replace h := itT hb55 h
        refine t_T rfl hb55 ?_
        refine t_seq fun K56 hK57 => ?_
        refine t_region ?_
        refine c_p (r_as rfl) rfl ?_
        refine c_p (r_as rfl) rfl ?_
        refine t_nil ?_
        refine t_then hK57 ?_
        refine t_ret ?_
        refine tr (ret2 rfl (v_t rfl) (v_t rfl) (t_bk hR45 ?_))
        exact t_go (J82 y34.Next t35.1 t35.2.1 t35.2.2 y34.Processes 0 11 h) ⟨rfl, rfl, rfl, rfl, trivial⟩ (.cons e0 (.cons e1 (.cons e0 (.cons e0 .nil)))) (fun w Z hA => V0)
      · replace h := itF hb55 h
        refine t_F rfl hb55 ?_
        refine t_skip ?_
        refine t_then hK49 ?_
        refine t_seq fun K58 hK59 => ?_
        refine t_region ?_
        refine c_p (r_mv rfl) rfl ?_
        refine c_p (r_nc rfl) rfl ?_
        refine t_oI k_api_Process_opensO e0 hel41 fun t60 => ?_
        refine c_s (r_hA a0 hq39 Try.underlying38 rfl ti38 rfl rfl) rfl ?_
        obtain ⟨y61, hy61, h⟩ := bs h
        refine nx (t_cf (C32 _ _ _ _ _ hy61) (fun _ => (flat_cons (indK_slice 81 k_api_Descriptor_indK) flat_nil)) Try.func32 nm32 rfl rfl rfl .nil (fun w Z S hA hL => (FL a1 hL F0)) rfl fun t62 => ?_)
        refine nx (t_al (cs := [.int .i64 0, .int .i64 0, .int .i64 0, .int .i64 0, .int .i64 0, .int .i64 0, .int .i64 0, .int .i64 0, .int .i64 0, .int .i64 0, .string (⟨#[]⟩ : ByteArray), .string (⟨#[]⟩ : ByteArray), .slice none 0 0, .bool false]) ti38 rfl rfl fun g63 => ?_)
        refine nx (t_st u0 ti38 rfl rfl rfl rfl rfl (.t (.s (.s (.s (.s (.s (.s (.s (.s (.s (.s (.s (.s (.s (.s .z))))))))))))))) ?_)
        refine t_nil ?_
        refine t_then hK59 ?_
        refine t_seq fun K64 hK65 => ?_
        refine t_draw mixed (fun w_ => Bk g7 [.int .i64 z1] w_ ∧ True) [4] [6, 8] rfl ?_
        refine q_p 0 (panic_then panic_body) rfl (by kernel_rfl) W0 (r_mv rfl) rfl ?_
        refine q_p 1 (panic_then panic_body) rfl (by kernel_rfl) W0 (r_nc rfl) rfl ?_
        refine q_p 2 (panic_then panic_body) rfl (by kernel_rfl) W0 (r_fa (off' := 0) Try.underlying28 rfl ti3 rfl rfl) rfl ?_
        refine q_u 3 (panic_then panic_body) rfl (by kernel_rfl) W0 (by kernel_rfl) (r_ld a5 Try.underlying3 rfl rfl rfl) rfl ?_
        refine q_s 4 (panic_then panic_body) rfl (by kernel_rfl) W0 (by kernel_rfl) (fun w H => ⟨bk a7 H, trivial⟩) (b_ld (fun _ h => h.1) Try.underlying3 rfl rfl rfl) rfl ?_
        refine q_p 5 (panic_then panic_body) rfl (by kernel_rfl) W0 (r_fa (off' := 0) Try.underlying38 rfl ti3 rfl rfl) rfl ?_
        refine d1 6 rfl (by kernel_rfl) (by kernel_rfl) ?_
        refine t_st u0 ti3 rfl rfl rfl rfl rfl (.t (.s .z)) ?_
        refine dk (fun w H => ⟨bk a7 H, trivial⟩) ?_
        refine q_p 7 (panic_then panic_body) rfl (by kernel_rfl) W0 (r_fa (off' := 1) Try.underlying38 rfl ti3 rfl rfl) rfl ?_
        refine d1 8 rfl (by kernel_rfl) (by kernel_rfl) ?_
        refine t_st u0 ti3 rfl rfl rfl rfl rfl (.s (.t (.s .z))) ?_
        refine dn (by kernel_rfl) ?_
        refine dz (by kernel_rfl) ?_
        refine t_then hK65 ?_
        refine t_seq fun K66 hK67 => ?_
        refine t_region ?_
        refine c_p (r_mv rfl) rfl ?_
        refine c_p (r_nc rfl) rfl ?_
        refine c_p (r_fa (off' := 0) Try.underlying28 rfl ti3 rfl rfl) rfl ?_
        refine c_s (r_ld a5 Try.underlying3 rfl rfl rfl) rfl ?_
        refine c_p (r_i rfl rfl rfl) rfl ?_
        refine c_p (r_nc rfl) rfl ?_
        refine c_p (r_fa (off' := 0) Try.underlying28 rfl ti3 rfl rfl) rfl ?_
        refine nx (t_st u5 ti3 rfl rfl rfl rfl rfl (.t (.s .z)) ?_)
        refine t_nil ?_
        refine t_then hK67 ?_
        refine t_seq fun K68 hK69 => ?_
        refine t_draw mixed (fun w_ => Bk g17 [.int .i64 (IntKind.wrap .i64 (y34.Next + 1)), .int .i64 y34.NextSession, .slice t35.1 t35.2.1 t35.2.2] w_ ∧ True) [4] [6, 7, 10] rfl ?_
        refine q_p 0 (panic_then panic_body) rfl (by kernel_rfl) W0 (r_mv rfl) rfl ?_
        refine q_p 1 (panic_then panic_body) rfl (by kernel_rfl) W0 (r_mv rfl) rfl ?_
        refine q_p 2 (panic_then panic_body) rfl (by kernel_rfl) W0 (r_nc rfl) rfl ?_
        refine q_p 3 (panic_then panic_body) rfl (by kernel_rfl) W0 (r_fa (off' := 2) Try.underlying28 rfl ti26 rfl rfl) rfl ?_
        refine q_s 4 (panic_then panic_body) rfl (by kernel_rfl) W0 (by kernel_rfl) (fun w H => ⟨bk a5 H, trivial⟩) (b_ld (fun _ h => h.1) Try.underlying26 rfl rfl rfl) rfl ?_
        refine q_u 5 (panic_then panic_body) rfl (by kernel_rfl) W0 (by kernel_rfl) (r_ldA a0 Try.underlying38 rfl ti38 rfl rfl) rfl ?_
        refine d1 6 rfl (by kernel_rfl) (by kernel_rfl) ?_
        refine t_bs (ps := [(0, .agg #[.int .i64 y34.Next, .int .i64 z1, .int .i64 y61.UID, .int .i64 y61.EUID, .int .i64 y61.GID, .int .i64 y61.EGID, .int .i64 y61.AUID, .int .i64 y61.Session, .int .i64 y61.Cwd.Dev, .int .i64 y61.Cwd.Ino, .string y61.Comm, .string y61.Exe, .slice t62.1 t62.2.1 t62.2.2, .bool y61.Audited])]) (cs := [.int .i64 y34.Next, .int .i64 z1, .int .i64 y61.UID, .int .i64 y61.EUID, .int .i64 y61.GID, .int .i64 y61.EGID, .int .i64 y61.AUID, .int .i64 y61.Session, .int .i64 y61.Cwd.Dev, .int .i64 y61.Cwd.Ino, .string y61.Comm, .string y61.Exe, .slice t62.1 t62.2.1 t62.2.2, .bool y61.Audited]) Try.underlying26 ti38 rfl rfl (by kernel_rfl) rfl fun g70 => ?_
        refine dk (fun w H => ⟨bk a6 H, trivial⟩) ?_
        refine d1 7 rfl (by kernel_rfl) (by kernel_rfl) ?_
        refine t_cS (u := el41) (t := (t60.1, t60.2.1, t60.2.2)) k_api_Process_shutsO hel41 (.cons e3 (.cons e3 .nil)) rfl (fun w Z hA => trivial) ?_
        obtain ⟨hc71, h⟩ := ck_out h
        refine t_app (Kd := k_api_Process) (xs := y34.Processes) (ys := [(⟨y34.Next, z1, y61.UID, y61.EUID, y61.GID, y61.EGID, y61.AUID, y61.Session, y61.Cwd, y61.Comm, y61.Exe, y61.Open, y61.Audited⟩ : api_Process)]) (.cons e0 (.cons e2 .nil)) rfl rfl Try.underlying26 Try.underlying26 ti38 rfl rfl hc71 (srcB a1 (fun w Z S hA hN => (eoC (x := (⟨y34.Next, z1, y61.UID, y61.EUID, y61.GID, y61.EGID, y61.AUID, y61.Session, y61.Cwd, y61.Comm, y61.Exe, y61.Open, y61.Audited⟩ : api_Process)) (t := (t62.1, t62.2.1, t62.2.2)) k_api_Process_shutsO trivial eoN) S hN)) rfl fun t72 => ?_
        refine dn (by kernel_rfl) ?_
        refine q_p 8 (panic_then panic_body) rfl (by kernel_rfl) W0 (r_nc rfl) rfl ?_
        refine q_p 9 (panic_then panic_body) rfl (by kernel_rfl) W0 (r_fa (off' := 2) Try.underlying28 rfl ti26 rfl rfl) rfl ?_
        refine d1 10 rfl (by kernel_rfl) (by kernel_rfl) ?_
        refine t_st u4 ti26 rfl rfl rfl rfl rfl (.s (.s (.t (.s .z)))) ?_
        refine dn (by kernel_rfl) ?_
        refine dz (by kernel_rfl) ?_
        refine t_then hK69 ?_
        refine t_seq fun K73 hK74 => ?_
        refine t_region ?_
        refine c_p (r_fa (off' := 0) Try.underlying38 rfl ti3 rfl rfl) rfl ?_
        refine c_s (r_ld a2 Try.underlying3 rfl rfl rfl) rfl ?_
        refine c_p (r_as rfl) rfl ?_
        refine c_p (r_as rfl) rfl ?_
        refine t_nil ?_
        refine t_then hK74 ?_
        refine t_ret ?_
        refine ret2 rfl (v_t rfl) (v_t rfl) (t_bk hR45 ?_)
        exact t_go (J82 (IntKind.wrap .i64 (y34.Next + 1)) t72.1 t72.2.1 t72.2.2 (y34.Processes ++ [(⟨y34.Next, z1, y61.UID, y61.EUID, y61.GID, y61.EGID, y61.AUID, y61.Session, y61.Cwd, y61.Comm, y61.Exe, y61.Open, y61.Audited⟩ : api_Process)]) y34.Next 0 h) ⟨rfl, rfl, rfl, rfl, trivial⟩ (.cons e0 (.cons e3 (.cons e2 (.cons e2 .nil)))) (fun w Z hA => V0)
  · replace h := itF hb29 h
    refine t_T rfl (congrArg Bool.not hb29) ?_
    refine t_seq fun K30 hK31 => ?_
    refine t_region ?_
    refine c_p (r_bu (ps := []) (cs := [.int .i64 0, .int .i64 0, .slice none 0 0]) rfl (by kernel_rfl)) rfl ?_
    refine c_p (r_mv rfl) rfl ?_
    refine nx (t_st u0 ti28 rfl rfl rfl rfl rfl (.t (.s (.s (.s .z)))) ?_)
    refine c_p (r_as rfl) rfl ?_
    refine c_p (r_as rfl) rfl ?_
    refine t_nil ?_
    refine t_then hK31 ?_
    refine t_ret ?_
    refine tr (ret3 rfl (v_N rfl a0 Try.underlying28 rfl ti28 rfl) (v_t rfl) (v_t rfl) (t_bk hR14 ?_))
    refine t_nr 38 k_api_Process ?_
    exact t_go (J114 0 0 none 0 0 ([] : List api_Process) 0 3 h) ⟨rfl, rfl, rfl, rfl, trivial⟩ (.cons e3 (.cons e0 .nil)) (fun w Z hA => V0)
end Go.Proofs.Ytanimjbmkhpnaaa.Gx
