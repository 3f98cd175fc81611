/- Function 16, kaudit/process.Login: what it answers as a plain function, and that the Go code comes to exactly that (where the plain function gives an answer). -/
import Derived.Test.YtanimjbmkhpnaaaYT
import Derived.Test.YtanimjbmkhpnaaaY37
import Derived.Test.YtanimjbmkhpnaaaY39
import Derived.Test.YtanimjbmkhpnaaaY54
set_option linter.unusedVariables false
set_option linter.unusedSimpArgs false
namespace Go.Proofs.Ytanimjbmkhpnaaa.Gx
open Go.Gx Go.RowKit
/-! ### kaudit/process.Login: function 16 -/
def f_process_Login_j6 (x162 : Int) (x163 : Int) (x167 : List api_Process) (x168 : Int) : Option (api_Table × Int) := some ((⟨x162, x163, x167⟩ : api_Table), x168)
def f_process_Login_j5 (x150 : Int) (x151 : Int) (x155 : List api_Process) (x156 : Bool) (x157 : Int) : Option (api_Table × Int) := f_process_Login_j6 x150 x151 x155 x157
def f_process_Login_j4 (y45 : api_Table) (x132 : Int) (x133 : List api_Process) (x134 : Int) : Option (api_Table × Int) := if (x134 != 0) = true then (f_process_Login_j5 0 0 ([] : List api_Process) false x134) else (f_process_Login_j5 y45.Next x132 x133 true 0)
def f_process_Login_j3 (y45 : api_Table) (x127 : Int) (x128 : List api_Process) (x129 : Int) : Option (api_Table × Int) := f_process_Login_j4 y45 x127 x128 x129
def f_process_Login_j2 (y45 : api_Table) (x122 : Int) (x123 : Int) (x124 : List api_Process) : Option (api_Table × Int) := f_process_Login_j3 y45 x123 x124 x122
def f_process_Login_j1 (z2 : Int) (y34 : Int × Bool) (y45 : api_Table) (el52 : api_Process) : Option (api_Table × Int) := f_process_Login_j2 y45 0 (IntKind.wrap .i64 (y45.NextSession + 1)) (y45.Processes.set y34.1.toNat (⟨el52.PID, el52.PPID, el52.UID, el52.EUID, el52.GID, el52.EGID, z2, y45.NextSession, el52.Cwd, el52.Comm, el52.Exe, el52.Open, el52.Audited⟩ : api_Process))
def f_process_Login (z0 : api_Table) (z1 : Int) (z2 : Int) : Option (api_Table × Int) := (f_process_place z0 z1).bind fun y34 => if y34.2 = true then ((f_own_Table z0).bind fun y45 => (at_ y45.Processes y34.1).bind fun el52 => (f_process_between 4294967294 [z2]).bind fun y72 => if y72 = true then (if (el52.AUID != 4294967295) = true then (if (el52.EUID != 0) = true then (f_process_Login_j2 y45 1 y45.NextSession y45.Processes) else (if (decide (y45.NextSession ≥ 1073741824)) = true then (f_process_Login_j2 y45 11 y45.NextSession y45.Processes) else (f_process_Login_j1 z2 y34 y45 el52))) else (if (decide (y45.NextSession ≥ 1073741824)) = true then (f_process_Login_j2 y45 11 y45.NextSession y45.Processes) else (f_process_Login_j1 z2 y34 y45 el52))) else (f_process_Login_j2 y45 22 y45.NextSession y45.Processes)) else (f_process_Login_j5 0 0 ([] : List api_Process) false 3)
set_option maxHeartbeats 4000000 in
set_option maxRecDepth 100000 in
theorem C16 (z0 : api_Table) (z1 : Int) (z2 : Int) (p1 : Option Addr) (m2 : Nat) (c3 : Nat) (r : api_Table × Int) (h : f_process_Login z0 z1 z2 = some r) : FunG Try.prog 16 #[.agg #[.int .i64 z0.Next, .int .i64 z0.NextSession, .slice p1 m2 c3], .int .i64 z1, .int .i64 z2] [vw (kSlice 38 k_api_Process) z0.Processes [.slice p1 m2 c3]] [] (fun t : (Option Addr × Nat × Nat) => .tuple #[.agg #[.int .i64 r.1.Next, .int .i64 r.1.NextSession, .slice t.1 t.2.1 t.2.2], .int .i64 r.2]) (fun t => []) (fun t => [[row 38 k_api_Process r.1.Processes (.slice t.1 t.2.1 t.2.2)]]) := by
  unfold f_process_Login at h
  refine t_begin (args := [.agg #[.int .i64 z0.Next, .int .i64 z0.NextSession, .slice p1 m2 c3], .int .i64 z1, .int .i64 z2]) Try.func16 rfl Try.ntmps16 rfl fun c R hR => ?_
  have hQ : ∀ X, X = r → ∀ w2 (t : (Option Addr × Nat × Nat)), PostG c.w0 w2 c.M c.Y [] [[row 38 k_api_Process X.1.Processes (.slice t.1 t.2.1 t.2.2)]] → R (.returned (.tuple #[.agg #[.int .i64 X.1.Next, .int .i64 X.1.NextSession, .slice t.1 t.2.1 t.2.2], .int .i64 X.2])) w2 := fun X e => by subst e; exact hR
  refine t_seq fun K4 hK5 => ?_
  refine t_region ?_
  refine nx (t_bx (cs := [.int .i64 z0.Next, .int .i64 z0.NextSession, .slice p1 m2 c3]) rfl rfl rfl fun g6 => ?_)
  refine nx (t_bx (cs := [.int .i64 z2]) rfl rfl rfl fun g7 => ?_)
  refine nx (t_al (cs := [.int .i64 0, .int .i64 0, .slice none 0 0]) ti28 rfl rfl fun g8 => ?_)
  refine c_p (r_as rfl) rfl ?_
  refine t_nil ?_
  refine t_then hK5 ?_
  refine t_seq fun K9 hK10 => ?_
  refine t_region ?_
  refine c_s (r_ldA a2 Try.underlying28 rfl ti28 rfl rfl) rfl ?_
  refine c_p (r_mv rfl) rfl ?_
  refine c_p (r_mf (vs := [.pointer (some ⟨g7, 0, none⟩)]) rfl) rfl ?_
  refine nx (t_in (args := [.agg #[.int .i64 z0.Next, .int .i64 z0.NextSession, .slice p1 m2 c3], .int .i64 z1, .func (.func 38) #[] #[.pointer (some ⟨g7, 0, none⟩)]]) (cap := []) (all := [.agg #[.int .i64 z0.Next, .int .i64 z0.NextSession, .slice p1 m2 c3], .int .i64 z1, .func (.func 38) #[] #[.pointer (some ⟨g7, 0, none⟩)]]) rfl rfl Try.func34 nm34 rfl rfl rfl Try.ntmps34 rfl fun R11 k12 hk13 hR14 => ?_)
  have J169 : ∀ (x162 : Int) (x163 : Int) (p164 : Option Addr) (m165 : Nat) (c166 : Nat) (x167 : List api_Process) (x168 : Int), f_process_Login_j6 x162 x163 x167 x168 = some r → T 14 c [] [[blk g8 [.int .i64 0, .int .i64 0, .slice none 0 0] 28], [row 38 k_api_Process x167 (.slice p164 m165 c166)]] [(6, .pointer (some ⟨g8, 0, none⟩)), (7, .int .i64 0), (11, .tuple #[.agg #[.int .i64 x162, .int .i64 x163, .slice p164 m165 c166], .int .i64 x168])] k12 := by
    intro x162 x163 p164 m165 c166 x167 x168 h170
    unfold f_process_Login_j6 at h170
    refine ti hk13 ?_
    refine c_p (r_ex rfl rfl) rfl ?_
    refine c_p (r_ex rfl rfl) rfl ?_
    refine nx (t_st u0 ti28 rfl rfl rfl rfl rfl (.t (.s (.s (.s .z)))) ?_)
    refine c_p (r_as rfl) rfl ?_
    refine t_nil ?_
    refine t_then hK10 ?_
    refine t_ret ?_
    exact ret2 rfl (v_N rfl a0 Try.underlying28 rfl ti28 rfl) (v_t rfl) (t_leave (hQ _ (Option.some.inj h170)) (p164, m165, c166) rfl (fun w Z hA => V0) (.cons e1 .nil))
  refine t_seq fun K15 hK16 => ?_
  refine t_region ?_
  refine nx (t_bx (cs := [.int .i64 z0.Next, .int .i64 z0.NextSession, .slice p1 m2 c3]) rfl rfl rfl fun g17 => ?_)
  refine nx (t_bx (cs := [.func (.func 38) #[] #[.pointer (some ⟨g7, 0, none⟩)]]) rfl rfl rfl fun g18 => ?_)
  refine nx (t_al (cs := [.int .i64 0, .int .i64 0, .slice none 0 0]) ti28 rfl rfl fun g19 => ?_)
  refine c_p (r_as rfl) rfl ?_
  refine t_nil ?_
  refine t_then hK16 ?_
  refine t_seq fun K20 hK21 => ?_
  refine t_region ?_
  refine c_s (r_ldA a2 Try.underlying28 rfl ti28 rfl rfl) rfl ?_
  refine c_p (r_mv rfl) rfl ?_
  refine c_p (r_mf (vs := [.pointer (some ⟨g18, 0, none⟩)]) rfl) rfl ?_
  refine nx (t_in (args := [.agg #[.int .i64 z0.Next, .int .i64 z0.NextSession, .slice p1 m2 c3], .int .i64 z1, .func (.func 57) #[] #[.pointer (some ⟨g18, 0, none⟩)]]) (cap := []) (all := [.agg #[.int .i64 z0.Next, .int .i64 z0.NextSession, .slice p1 m2 c3], .int .i64 z1, .func (.func 57) #[] #[.pointer (some ⟨g18, 0, none⟩)]]) rfl rfl Try.func56 nm56 rfl rfl rfl Try.ntmps56 rfl fun R22 k23 hk24 hR25 => ?_)
  have J158 : ∀ (x150 : Int) (x151 : Int) (p152 : Option Addr) (m153 : Nat) (c154 : Nat) (x155 : List api_Process) (x156 : Bool) (x157 : Int), f_process_Login_j5 x150 x151 x155 x156 x157 = some r → T 20 c [vw (kSlice 38 k_api_Process) z0.Processes [.slice p1 m2 c3]] [[blk g17 [.int .i64 z0.Next, .int .i64 z0.NextSession, .slice p1 m2 c3] 28], [blk g19 [.int .i64 0, .int .i64 0, .slice none 0 0] 28], [row 38 k_api_Process x155 (.slice p152 m153 c154)], [blk g8 [.int .i64 0, .int .i64 0, .slice none 0 0] 28]] [(3, .pointer (some ⟨g17, 0, none⟩)), (6, .pointer (some ⟨g19, 0, none⟩)), (14, .tuple #[.agg #[.int .i64 x150, .int .i64 x151, .slice p152 m153 c154], .bool x156, .int .i64 x157])] k23 := by
    intro x150 x151 p152 m153 c154 x155 x156 x157 h159
    unfold f_process_Login_j5 at h159
    refine ti hk24 ?_
    refine c_p (r_mv rfl) rfl ?_
    refine c_p (r_ex rfl rfl) rfl ?_
    refine c_p (r_ex rfl rfl) rfl ?_
    refine c_p (r_ex rfl rfl) rfl ?_
    refine nx (t_st u0 ti28 rfl rfl rfl rfl rfl (.t (.s (.s (.s .z)))) ?_)
    refine c_p (r_as rfl) rfl ?_
    refine c_p (r_as rfl) rfl ?_
    refine t_nil ?_
    refine t_then hK21 ?_
    refine t_seq fun K160 hK161 => ?_
    refine t_region ?_
    refine c_s (r_ldA a0 Try.underlying28 rfl ti28 rfl rfl) rfl ?_
    refine c_p (r_mv rfl) rfl ?_
    refine nx (t_st u1 ti28 rfl rfl rfl rfl rfl (.t (.s (.s (.s .z)))) ?_)
    refine c_p (r_as rfl) rfl ?_
    refine t_nil ?_
    refine t_then hK161 ?_
    refine t_ret ?_
    refine ret2 rfl (v_N rfl a1 Try.underlying28 rfl ti28 rfl) (v_t rfl) (t_bk hR14 ?_)
    exact t_go (J169 x150 x151 p152 m153 c154 x155 x157 h159) ⟨rfl, rfl, rfl, trivial⟩ (.cons e3 (.cons e2 .nil)) (fun w Z hA => V0)
  refine t_seq fun K26 hK27 => ?_
  refine t_region ?_
  refine nx (t_bx (cs := [.int .i64 z0.Next, .int .i64 z0.NextSession, .slice p1 m2 c3]) rfl rfl rfl fun g28 => ?_)
  refine nx (t_al (cs := [.int .i64 0, .int .i64 0, .slice none 0 0]) ti28 rfl rfl fun g29 => ?_)
  refine c_p (r_as rfl) rfl ?_
  refine c_p (r_as rfl) rfl ?_
  refine t_nil ?_
  refine t_then hK27 ?_
  refine t_seq fun K30 hK31 => ?_
  refine t_region ?_
  refine c_p (r_as rfl) rfl ?_
  refine t_nil ?_
  refine t_then hK31 ?_
  refine t_seq fun K32 hK33 => ?_
  refine t_region ?_
  refine c_s (r_ldA a1 Try.underlying28 rfl ti28 rfl rfl) rfl ?_
  refine c_p (r_mv rfl) rfl ?_
  obtain ⟨y34, hy34, h⟩ := bs h
  refine nx (t_ca (C37 _ _ _ _ _ _ hy34) Try.func37 nm37 rfl rfl rfl .nil (fun w Z hA => (V1 a0 hA V0)) rfl fun t35 => ?_)
  refine c_p (r_mv rfl) rfl ?_
  refine c_p (r_ex rfl rfl) rfl ?_
  refine c_p (r_ex rfl rfl) rfl ?_
  refine c_p (r_as rfl) rfl ?_
  refine c_p (r_as rfl) rfl ?_
  refine t_nil ?_
  refine t_then hK33 ?_
  refine t_seq fun K36 hK37 => ?_
  refine t_seq fun K38 hK39 => ?_
  refine t_region ?_
  refine c_p (r_mv rfl) rfl ?_
  refine c_p (r_not rfl) rfl ?_
  refine t_nil ?_
  refine t_then hK39 ?_
  rcases Bool.eq_false_or_eq_true y34.2 with hb40 | hb40
  · replace h := itT hb40 h
    refine t_F rfl (congrArg Bool.not hb40) ?_
    refine t_skip ?_
    refine t_then hK37 ?_
    refine t_seq fun K43 hK44 => ?_
    refine t_region ?_
    refine c_s (r_ldA a1 Try.underlying28 rfl ti28 rfl rfl) rfl ?_
    obtain ⟨y45, hy45, h⟩ := bs h
    refine nx (t_ca (C54 _ _ _ _ _ hy45) Try.func54 nm54 rfl rfl rfl .nil (fun w Z hA => (V1 a0 hA V0)) rfl fun t46 => ?_)
    refine nx (t_st u2 ti28 rfl rfl rfl rfl rfl (.t (.s (.s (.s .z)))) ?_)
    refine t_nil ?_
    refine t_then hK44 ?_
    refine t_seq fun K47 hK48 => ?_
    have J135 : ∀ (x132 : Int) (x133 : List api_Process) (x134 : Int), f_process_Login_j4 y45 x132 x133 x134 = some r → T 42 c [vw (kSlice 38 k_api_Process) z0.Processes [.slice p1 m2 c3]] [[row 38 k_api_Process x133 (.slice t46.1 t46.2.1 t46.2.2)], [blk g28 [.int .i64 y45.Next, .int .i64 x132, .slice t46.1 t46.2.1 t46.2.2] 28], [blk g29 [.int .i64 0, .int .i64 0, .slice none 0 0] 28], [blk g17 [.int .i64 z0.Next, .int .i64 z0.NextSession, .slice p1 m2 c3] 28], [blk g19 [.int .i64 0, .int .i64 0, .slice none 0 0] 28], [blk g8 [.int .i64 0, .int .i64 0, .slice none 0 0] 28]] [(3, .pointer (some ⟨g28, 0, none⟩)), (6, .pointer (some ⟨g29, 0, none⟩)), (9, .bool false), (12, .bool true), (13, .int .i64 x134)] K47 := by
      intro x132 x133 x134 h136
      unfold f_process_Login_j4 at h136
      refine ti hK48 ?_
      refine t_seq fun K137 hK138 => ?_
      refine t_seq fun K139 hK140 => ?_
      refine t_region ?_
      refine c_p (r_mv rfl) rfl ?_
      refine c_p (r_i rfl rfl rfl) rfl ?_
      refine t_nil ?_
      refine t_then hK140 ?_
      rcases Bool.eq_false_or_eq_true (x134 != 0) with hb141 | hb141
      · replace h136 := itT hb141 h136
        refine t_T rfl hb141 ?_
        refine t_seq fun K142 hK143 => ?_
        refine t_region ?_
        refine c_p (r_bu (ps := []) (cs := [.int .i64 0, .int .i64 0, .slice none 0 0]) rfl (by kernel_rfl)) rfl ?_
        refine c_p (r_mv rfl) rfl ?_
        refine c_p (r_mv rfl) rfl ?_
        refine nx (t_st u2 ti28 rfl rfl rfl rfl rfl (.t (.s (.s (.s .z)))) ?_)
        refine c_p (r_as rfl) rfl ?_
        refine c_p (r_as rfl) rfl ?_
        refine t_nil ?_
        refine t_then hK143 ?_
        refine t_ret ?_
        refine tr (ret3 rfl (v_N rfl a2 Try.underlying28 rfl ti28 rfl) (v_t rfl) (v_t rfl) (t_bk hR25 ?_))
        refine t_nr 38 k_api_Process ?_
        exact t_go (J158 0 0 none 0 0 ([] : List api_Process) false x134 h136) ⟨rfl, rfl, rfl, trivial⟩ (.cons e4 (.cons e4 (.cons e0 (.cons e3 .nil)))) (fun w Z hA => V1 a0 hA (V0))
      · replace h136 := itF hb141 h136
        refine t_F rfl hb141 ?_
        refine t_skip ?_
        refine t_then hK138 ?_
        refine t_seq fun K144 hK145 => ?_
        refine t_region ?_
        refine c_s (r_ldA a1 Try.underlying28 rfl ti28 rfl rfl) rfl ?_
        refine c_p (r_mv rfl) rfl ?_
        refine nx (t_st u2 ti28 rfl rfl rfl rfl rfl (.t (.s (.s (.s .z)))) ?_)
        refine c_p (r_as rfl) rfl ?_
        refine c_p (r_as rfl) rfl ?_
        refine t_nil ?_
        refine t_then hK145 ?_
        refine t_ret ?_
        refine ret3 rfl (v_N rfl a2 Try.underlying28 rfl ti28 rfl) (v_t rfl) (v_t rfl) (t_bk hR25 ?_)
        exact t_go (J158 y45.Next x132 t46.1 t46.2.1 t46.2.2 x133 true 0 h136) ⟨rfl, rfl, rfl, trivial⟩ (.cons e3 (.cons e3 (.cons e0 (.cons e2 .nil)))) (fun w Z hA => V1 a0 hA (V0))
    refine t_region ?_
    refine c_p (r_mv rfl) rfl ?_
    refine c_p (r_fa (off' := 2) Try.underlying28 rfl ti26 rfl rfl) rfl ?_
    refine c_s (r_ld a2 Try.underlying26 rfl rfl rfl) rfl ?_
    refine c_p (r_mv rfl) rfl ?_
    obtain ⟨el52, hel52, h⟩ := bs h
    refine t_qL a0 hel52 fun q49 hq50 hm51 => ?_
    refine c_p (r_idx hq50 hm51 hel52 Try.underlying26 ti38 rfl rfl) rfl ?_
    refine nx (t_in (args := [.pointer (some ⟨g28, 0, none⟩), .pointer (some q49)]) (cap := [.pointer (some ⟨g18, 0, none⟩)]) (all := [.pointer (some ⟨g28, 0, none⟩), .pointer (some q49), .pointer (some ⟨g18, 0, none⟩)]) rfl rfl Try.func57 nm57 rfl rfl rfl Try.ntmps57 rfl fun R53 k54 hk55 hR56 => ?_)
    have J130 : ∀ (x127 : Int) (x128 : List api_Process) (x129 : Int), f_process_Login_j3 y45 x127 x128 x129 = some r → T 42 c [vw (kSlice 38 k_api_Process) z0.Processes [.slice p1 m2 c3]] [[row 38 k_api_Process x128 (.slice t46.1 t46.2.1 t46.2.2)], [blk g28 [.int .i64 y45.Next, .int .i64 x127, .slice t46.1 t46.2.1 t46.2.2] 28], [blk g29 [.int .i64 0, .int .i64 0, .slice none 0 0] 28], [blk g17 [.int .i64 z0.Next, .int .i64 z0.NextSession, .slice p1 m2 c3] 28], [blk g19 [.int .i64 0, .int .i64 0, .slice none 0 0] 28], [blk g8 [.int .i64 0, .int .i64 0, .slice none 0 0] 28]] [(3, .pointer (some ⟨g28, 0, none⟩)), (6, .pointer (some ⟨g29, 0, none⟩)), (9, .bool false), (32, .tuple #[.bool true, .int .i64 x129])] k54 := by
      intro x127 x128 x129 h131
      unfold f_process_Login_j3 at h131
      refine ti hk55 ?_
      refine c_p (r_mv rfl) rfl ?_
      refine c_p (r_ex rfl rfl) rfl ?_
      refine c_p (r_ex rfl rfl) rfl ?_
      refine c_p (r_as rfl) rfl ?_
      refine c_p (r_as rfl) rfl ?_
      refine t_nil ?_
      exact t_norm (t_go (J135 x127 x128 x129 h131) ⟨rfl, rfl, rfl, rfl, rfl, trivial⟩ (.cons e0 (.cons e0 (.cons e0 (.cons e0 (.cons e0 (.cons e0 .nil)))))) (fun w Z hA => V1 a0 hA (V0)))
    refine t_seq fun K57 hK58 => ?_
    refine t_region ?_
    refine c_p (r_as rfl) rfl ?_
    refine c_p (r_as rfl) rfl ?_
    refine t_nil ?_
    refine t_then hK58 ?_
    refine t_seq fun K59 hK60 => ?_
    refine t_region ?_
    refine c_s (r_ld a4 Try.underlying68 rfl rfl rfl) rfl ?_
    refine c_p (r_mv rfl) rfl ?_
    refine c_p (r_mv rfl) rfl ?_
    refine nx (t_in (args := [.pointer (some ⟨g28, 0, none⟩), .pointer (some q49)]) (cap := [.pointer (some ⟨g7, 0, none⟩)]) (all := [.pointer (some ⟨g28, 0, none⟩), .pointer (some q49), .pointer (some ⟨g7, 0, none⟩)]) rfl rfl Try.func38 nm38 rfl rfl rfl Try.ntmps38 rfl fun R61 k62 hk63 hR64 => ?_)
    have J125 : ∀ (x122 : Int) (x123 : Int) (x124 : List api_Process), f_process_Login_j2 y45 x122 x123 x124 = some r → T 11 c [vw (kSlice 38 k_api_Process) z0.Processes [.slice p1 m2 c3]] [[row 38 k_api_Process x124 (.slice t46.1 t46.2.1 t46.2.2)], [blk g28 [.int .i64 y45.Next, .int .i64 x123, .slice t46.1 t46.2.1 t46.2.2] 28], [blk g29 [.int .i64 0, .int .i64 0, .slice none 0 0] 28], [blk g17 [.int .i64 z0.Next, .int .i64 z0.NextSession, .slice p1 m2 c3] 28], [blk g19 [.int .i64 0, .int .i64 0, .slice none 0 0] 28], [blk g8 [.int .i64 0, .int .i64 0, .slice none 0 0] 28]] [(5, .bool false), (6, .int .i64 0), (10, .int .i64 x122)] k62 := by
      intro x122 x123 x124 h126
      unfold f_process_Login_j2 at h126
      refine ti hk63 ?_
      refine c_p (r_as rfl) rfl ?_
      refine c_p (r_as rfl) rfl ?_
      refine t_nil ?_
      refine t_then hK60 ?_
      refine t_ret ?_
      refine ret2 rfl (v_t rfl) (v_t rfl) (t_bk hR56 ?_)
      exact t_go (J130 x123 x124 x122 h126) ⟨rfl, rfl, rfl, rfl, trivial⟩ (.cons e0 (.cons e0 (.cons e0 (.cons e0 (.cons e0 (.cons e0 .nil)))))) (fun w Z hA => V1 a0 hA (V0))
    refine t_seq fun K65 hK66 => ?_
    refine t_region ?_
    refine c_p (r_as rfl) rfl ?_
    refine t_nil ?_
    refine t_then hK66 ?_
    refine t_seq fun K67 hK68 => ?_
    have J101 : ∀ (p98 : Option Addr) (m99 : Nat) (c100 : Nat), f_process_Login_j1 z2 y34 y45 el52 = some r → T 48 c [vw (kSlice 38 k_api_Process) z0.Processes [.slice p1 m2 c3]] [[row 81 k_api_Descriptor el52.Open (.slice p98 m99 c100)], [hole 38 k_api_Process y45.Processes y34.1.toNat [.int .i64 el52.PID, .int .i64 el52.PPID, .int .i64 el52.UID, .int .i64 el52.EUID, .int .i64 el52.GID, .int .i64 el52.EGID, .int .i64 el52.AUID, .int .i64 el52.Session, .int .i64 el52.Cwd.Dev, .int .i64 el52.Cwd.Ino, .string el52.Comm, .string el52.Exe, .slice p98 m99 c100, .bool el52.Audited] (.slice t46.1 t46.2.1 t46.2.2)], [blk g28 [.int .i64 y45.Next, .int .i64 y45.NextSession, .slice t46.1 t46.2.1 t46.2.2] 28], [blk g7 [.int .i64 z2] 3], [blk g29 [.int .i64 0, .int .i64 0, .slice none 0 0] 28], [blk g17 [.int .i64 z0.Next, .int .i64 z0.NextSession, .slice p1 m2 c3] 28], [blk g19 [.int .i64 0, .int .i64 0, .slice none 0 0] 28], [blk g8 [.int .i64 0, .int .i64 0, .slice none 0 0] 28]] [(0, .pointer (some ⟨g28, 0, none⟩)), (1, .pointer (some q49)), (2, .pointer (some ⟨g7, 0, none⟩))] K67 := by
      intro p98 m99 c100 h102
      unfold f_process_Login_j1 at h102
      refine ti hK68 ?_
      refine t_seq fun K103 hK104 => ?_
      refine t_draw mixed (fun w_ => True) [] [9, 12] rfl ?_
      refine q_p 0 (panic_then panic_body) rfl (by kernel_rfl) W0 (r_mv rfl) rfl ?_
      refine q_p 1 (panic_then panic_body) rfl (by kernel_rfl) W0 (r_mv rfl) rfl ?_
      refine q_u 2 (panic_then panic_body) rfl (by kernel_rfl) W0 (by kernel_rfl) (r_ld a3 Try.underlying3 rfl rfl rfl) rfl ?_
      refine q_p 3 (panic_then panic_body) rfl (by kernel_rfl) W0 (r_mv rfl) rfl ?_
      refine q_p 4 (panic_then panic_body) rfl (by kernel_rfl) W0 (r_nc rfl) rfl ?_
      refine q_p 5 (panic_then panic_body) rfl (by kernel_rfl) W0 (r_fa (off' := 1) Try.underlying28 rfl ti3 rfl rfl) rfl ?_
      refine q_u 6 (panic_then panic_body) rfl (by kernel_rfl) W0 (by kernel_rfl) (r_ld a2 Try.underlying3 rfl rfl rfl) rfl ?_
      refine q_p 7 (panic_then panic_body) rfl (by kernel_rfl) W0 (r_nc rfl) rfl ?_
      refine t_qf hq50 6 fun q105 hq106 => ?_
      refine q_p 8 (panic_then panic_body) rfl (by kernel_rfl) W0 (r_fai hq50 hq106 Try.underlying38 rfl ti3 rfl rfl) rfl ?_
      refine d1 9 rfl (by kernel_rfl) (by kernel_rfl) ?_
      refine t_hs u1 hq106 ti3 rfl rfl rfl rfl rfl (.s (.s (.s (.s (.s (.s (.t (.s .z)))))))) ?_
      refine dn (by kernel_rfl) ?_
      refine q_p 10 (panic_then panic_body) rfl (by kernel_rfl) W0 (r_nc rfl) rfl ?_
      refine t_qf hq50 7 fun q107 hq108 => ?_
      refine q_p 11 (panic_then panic_body) rfl (by kernel_rfl) W0 (r_fai hq50 hq108 Try.underlying38 rfl ti3 rfl rfl) rfl ?_
      refine d1 12 rfl (by kernel_rfl) (by kernel_rfl) ?_
      refine t_hs u1 hq108 ti3 rfl rfl rfl rfl rfl (.s (.s (.s (.s (.s (.s (.s (.t (.s .z))))))))) ?_
      refine dn (by kernel_rfl) ?_
      refine dz (by kernel_rfl) ?_
      refine t_then hK104 ?_
      refine t_seq fun K109 hK110 => ?_
      refine t_region ?_
      refine c_p (r_mv rfl) rfl ?_
      refine c_p (r_nc rfl) rfl ?_
      refine c_p (r_fa (off' := 1) Try.underlying28 rfl ti3 rfl rfl) rfl ?_
      refine c_s (r_ld a2 Try.underlying3 rfl rfl rfl) rfl ?_
      refine c_p (r_i rfl rfl rfl) rfl ?_
      refine c_p (r_nc rfl) rfl ?_
      refine c_p (r_fa (off' := 1) Try.underlying28 rfl ti3 rfl rfl) rfl ?_
      refine nx (t_st u2 ti3 rfl rfl rfl rfl rfl (.s (.t (.s .z))) ?_)
      refine t_nil ?_
      refine t_then hK110 ?_
      refine t_seq fun K111 hK112 => ?_
      refine t_region ?_
      refine c_p (r_as rfl) rfl ?_
      refine t_nil ?_
      refine t_then hK112 ?_
      refine t_ret ?_
      refine ret1 rfl (v_t rfl) (t_bk hR64 ?_)
      refine t_cI (u := (⟨el52.PID, el52.PPID, el52.UID, el52.EUID, el52.GID, el52.EGID, z2, y45.NextSession, el52.Cwd, el52.Comm, el52.Exe, el52.Open, el52.Audited⟩ : api_Process)) (t := (p98, m99, c100)) k_api_Process_shutsO (.cons e1 (.cons e0 .nil)) rfl (fun w Z hA => trivial) ?_
      have hn121 := at_set (u' := (⟨el52.PID, el52.PPID, el52.UID, el52.EUID, el52.GID, el52.EGID, z2, y45.NextSession, el52.Cwd, el52.Comm, el52.Exe, el52.Open, el52.Audited⟩ : api_Process)) hel52
      exact t_go (J125 0 (IntKind.wrap .i64 (y45.NextSession + 1)) (y45.Processes.set y34.1.toNat (⟨el52.PID, el52.PPID, el52.UID, el52.EUID, el52.GID, el52.EGID, z2, y45.NextSession, el52.Cwd, el52.Comm, el52.Exe, el52.Open, el52.Audited⟩ : api_Process)) h102) ⟨rfl, rfl, rfl, trivial⟩ (.cons e0 (.cons e0 (.cons e1 (.cons e1 (.cons e1 (.cons e1 .nil)))))) (fun w Z hA => V1 a0 hA (V0))
    refine t_block ?_
    refine t_seq fun K69 hK70 => ?_
    refine t_region ?_
    refine c_s (r_ld a7 Try.underlying3 rfl rfl rfl) rfl ?_
    refine nx (t_bs (ps := [(0, .int .i64 z2)]) (cs := [.int .i64 z2]) Try.underlying22 ti3 rfl rfl (by kernel_rfl) rfl fun g71 => ?_)
    refine t_tr (Kd := (kInt .i64)) (xs := [z2]) (.cons e0 .nil) rfl (fun w Z S hA hN => flat_EO (S := Nil) (flatK_int .i64) (er1 (c1 := [.int .i64 z2]) rfl er0)) ?_
    obtain ⟨y72, hy72, h⟩ := bs h
    refine nx (t_cf (C39 _ _ _ _ _ _ hy72) (fun _ => flat_nil) Try.func39 nm39 rfl rfl rfl .nil (fun w Z S hA hL => (FL a0 hL F0)) rfl fun t73 => ?_)
    refine c_p (r_not rfl) rfl ?_
    refine c_p (r_as rfl) rfl ?_
    refine t_nil ?_
    refine t_then hK70 ?_
    rcases Bool.eq_false_or_eq_true y72 with hb74 | hb74
    · replace h := itT hb74 h
      refine t_F rfl (congrArg Bool.not hb74) ?_
      refine t_seq fun K75 hK76 => ?_
      refine t_region ?_
      refine c_p (r_mv rfl) rfl ?_
      refine c_p (r_nc rfl) rfl ?_
      refine t_qf hq50 6 fun q77 hq78 => ?_
      refine c_p (r_fai hq50 hq78 Try.underlying38 rfl ti3 rfl rfl) rfl ?_
      refine t_oI k_api_Process_opensO e1 hel52 fun t79 => ?_
      refine c_s (r_h1 a0 hq78 Try.underlying3 rfl rfl rfl) rfl ?_
      refine c_p (r_i rfl rfl rfl) rfl ?_
      refine c_p (r_mv rfl) rfl ?_
      rcases Bool.eq_false_or_eq_true (el52.AUID != 4294967295) with hb80 | hb80
      · replace h := itT hb80 h
        refine nx (gd rfl rfl hb80 (sp (r_mv rfl) rfl ?_))
        refine nx (gd rfl rfl hb80 (sp (r_nc rfl) rfl ?_))
        refine t_qf hq50 3 fun q81 hq82 => ?_
        refine nx (gd rfl rfl hb80 (sp (r_fai hq50 hq82 Try.underlying38 rfl ti3 rfl rfl) rfl ?_))
        refine nx (gd rfl rfl hb80 (ss (r_h1 a0 hq82 Try.underlying3 rfl rfl rfl) rfl ?_))
        refine nx (gd rfl rfl hb80 (sp (r_i rfl rfl rfl) rfl ?_))
        refine c_p (r_pT rfl hb80 rfl) rfl ?_
        refine c_p (r_as rfl) rfl ?_
        refine t_nil ?_
        refine t_then hK76 ?_
        rcases Bool.eq_false_or_eq_true (el52.EUID != 0) with hb83 | hb83
        · replace h := itT hb83 h
          refine t_T rfl hb83 ?_
          refine t_seq fun K84 hK85 => ?_
          refine t_region ?_
          refine c_p (r_as rfl) rfl ?_
          refine t_nil ?_
          refine t_then hK85 ?_
          refine t_ret ?_
          refine br (tr (ret1 rfl (v_t rfl) (t_bk hR64 ?_)))
          refine t_cS (u := el52) (t := (t79.1, t79.2.1, t79.2.2)) k_api_Process_shutsO hel52 (.cons e0 (.cons e0 .nil)) rfl (fun w Z hA => trivial) ?_
          exact t_go (J125 1 y45.NextSession y45.Processes h) ⟨rfl, rfl, rfl, trivial⟩ (.cons e0 (.cons e2 (.cons e1 (.cons e3 (.cons e1 (.cons e2 .nil)))))) (fun w Z hA => V1 a0 hA (V0))
        · replace h := itF hb83 h
          refine t_F rfl hb83 ?_
          refine t_seq fun K86 hK87 => ?_
          refine t_region ?_
          refine c_p (r_mv rfl) rfl ?_
          refine c_p (r_nc rfl) rfl ?_
          refine c_p (r_fa (off' := 1) Try.underlying28 rfl ti3 rfl rfl) rfl ?_
          refine c_s (r_ld a4 Try.underlying3 rfl rfl rfl) rfl ?_
          refine c_p (r_i rfl rfl rfl) rfl ?_
          refine c_p (r_as rfl) rfl ?_
          refine t_nil ?_
          refine t_then hK87 ?_
          rcases Bool.eq_false_or_eq_true (decide (y45.NextSession ≥ 1073741824)) with hb88 | hb88
          · replace h := itT hb88 h
            refine t_T rfl hb88 ?_
            refine t_seq fun K89 hK90 => ?_
            refine t_region ?_
            refine c_p (r_as rfl) rfl ?_
            refine t_nil ?_
            refine t_then hK90 ?_
            refine t_ret ?_
            refine br (tr (ret1 rfl (v_t rfl) (t_bk hR64 ?_)))
            refine t_cS (u := el52) (t := (t79.1, t79.2.1, t79.2.2)) k_api_Process_shutsO hel52 (.cons e0 (.cons e0 .nil)) rfl (fun w Z hA => trivial) ?_
            exact t_go (J125 11 y45.NextSession y45.Processes h) ⟨rfl, rfl, rfl, trivial⟩ (.cons e0 (.cons e2 (.cons e1 (.cons e3 (.cons e1 (.cons e2 .nil)))))) (fun w Z hA => V1 a0 hA (V0))
          · replace h := itF hb88 h
            refine t_F rfl hb88 ?_
            refine t_skip ?_
            refine t_blockN ?_
            exact t_norm (t_go (J101 t79.1 t79.2.1 t79.2.2 h) ⟨rfl, rfl, rfl, trivial⟩ (.cons e1 (.cons e0 (.cons e2 (.cons e6 (.cons e1 (.cons e3 (.cons e1 (.cons e2 .nil)))))))) (fun w Z hA => V1 a0 hA (V0)))
      · replace h := itF hb80 h
        refine nx (pass rfl rfl hb80 rfl ?_)
        refine nx (pass rfl rfl hb80 rfl ?_)
        refine nx (pass rfl rfl hb80 rfl ?_)
        refine nx (pass rfl rfl hb80 rfl ?_)
        refine nx (pass rfl rfl hb80 rfl ?_)
        refine c_p (r_pF rfl hb80 rfl) rfl ?_
        refine c_p (r_as rfl) rfl ?_
        refine t_nil ?_
        refine t_then hK76 ?_
        refine t_F rfl rfl ?_
        refine t_seq fun K91 hK92 => ?_
        refine t_region ?_
        refine c_p (r_mv rfl) rfl ?_
        refine c_p (r_nc rfl) rfl ?_
        refine c_p (r_fa (off' := 1) Try.underlying28 rfl ti3 rfl rfl) rfl ?_
        refine c_s (r_ld a4 Try.underlying3 rfl rfl rfl) rfl ?_
        refine c_p (r_i rfl rfl rfl) rfl ?_
        refine c_p (r_as rfl) rfl ?_
        refine t_nil ?_
        refine t_then hK92 ?_
        rcases Bool.eq_false_or_eq_true (decide (y45.NextSession ≥ 1073741824)) with hb93 | hb93
        · replace h := itT hb93 h
          refine t_T rfl hb93 ?_
          refine t_seq fun K94 hK95 => ?_
          refine t_region ?_
          refine c_p (r_as rfl) rfl ?_
          refine t_nil ?_
          refine t_then hK95 ?_
          refine t_ret ?_
          refine br (tr (ret1 rfl (v_t rfl) (t_bk hR64 ?_)))
          refine t_cS (u := el52) (t := (t79.1, t79.2.1, t79.2.2)) k_api_Process_shutsO hel52 (.cons e0 (.cons e0 .nil)) rfl (fun w Z hA => trivial) ?_
          exact t_go (J125 11 y45.NextSession y45.Processes h) ⟨rfl, rfl, rfl, trivial⟩ (.cons e0 (.cons e2 (.cons e1 (.cons e3 (.cons e1 (.cons e2 .nil)))))) (fun w Z hA => V1 a0 hA (V0))
        · replace h := itF hb93 h
          refine t_F rfl hb93 ?_
          refine t_skip ?_
          refine t_blockN ?_
          exact t_norm (t_go (J101 t79.1 t79.2.1 t79.2.2 h) ⟨rfl, rfl, rfl, trivial⟩ (.cons e1 (.cons e0 (.cons e2 (.cons e6 (.cons e1 (.cons e3 (.cons e1 (.cons e2 .nil)))))))) (fun w Z hA => V1 a0 hA (V0)))
    · replace h := itF hb74 h
      refine t_T rfl (congrArg Bool.not hb74) ?_
      refine t_seq fun K96 hK97 => ?_
      refine t_region ?_
      refine c_p (r_as rfl) rfl ?_
      refine t_nil ?_
      refine t_then hK97 ?_
      refine t_ret ?_
      refine br (tr (ret1 rfl (v_t rfl) (t_bk hR64 ?_)))
      exact t_go (J125 22 y45.NextSession y45.Processes h) ⟨rfl, rfl, rfl, trivial⟩ (.cons e1 (.cons e2 (.cons e1 (.cons e3 (.cons e1 (.cons e2 .nil)))))) (fun w Z hA => V1 a0 hA (V0))
  · replace h := itF hb40 h
    refine t_T rfl (congrArg Bool.not hb40) ?_
    refine t_seq fun K41 hK42 => ?_
    refine t_region ?_
    refine c_p (r_bu (ps := []) (cs := [.int .i64 0, .int .i64 0, .slice none 0 0]) rfl (by kernel_rfl)) rfl ?_
    refine c_p (r_mv rfl) rfl ?_
    refine nx (t_st u0 ti28 rfl rfl rfl rfl rfl (.t (.s (.s (.s .z)))) ?_)
    refine c_p (r_as rfl) rfl ?_
    refine c_p (r_as rfl) rfl ?_
    refine t_nil ?_
    refine t_then hK42 ?_
    refine t_ret ?_
    refine tr (ret3 rfl (v_N rfl a0 Try.underlying28 rfl ti28 rfl) (v_t rfl) (v_t rfl) (t_bk hR25 ?_))
    refine t_nr 38 k_api_Process ?_
    exact t_go (J158 0 0 none 0 0 ([] : List api_Process) false 3 h) ⟨rfl, rfl, rfl, trivial⟩ (.cons e5 (.cons e3 (.cons e0 (.cons e3 .nil)))) (fun w Z hA => V1 a0 hA (V0))
end Go.Proofs.Ytanimjbmkhpnaaa.Gx
