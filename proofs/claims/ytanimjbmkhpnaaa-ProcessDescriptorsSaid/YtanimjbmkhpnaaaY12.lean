/- Function 12, kaudit/process.Setuid: what it answers as a plain function, and that the Go code comes to exactly that (where the plain function gives an answer). -/
import Derived.Test.YtanimjbmkhpnaaaYT
import Derived.Test.YtanimjbmkhpnaaaY37
import Derived.Test.YtanimjbmkhpnaaaY39
import Derived.Test.YtanimjbmkhpnaaaY54
set_option linter.unusedVariables false
set_option linter.unusedSimpArgs false
namespace Go.Proofs.Ytanimjbmkhpnaaa.Gx
open Go.Gx Go.RowKit
/-! ### kaudit/process.Setuid: function 12 -/
def f_process_Setuid_j6 (x158 : Int) (x159 : Int) (x163 : List api_Process) (x164 : Int) : Option (api_Table × Int) := some ((⟨x158, x159, x163⟩ : api_Table), x164)
def f_process_Setuid_j5 (x146 : Int) (x147 : Int) (x151 : List api_Process) (x152 : Bool) (x153 : Int) : Option (api_Table × Int) := f_process_Setuid_j6 x146 x147 x151 x153
def f_process_Setuid_j4 (y45 : api_Table) (x129 : List api_Process) (x130 : Int) : Option (api_Table × Int) := if (x130 != 0) = true then (f_process_Setuid_j5 0 0 ([] : List api_Process) false x130) else (f_process_Setuid_j5 y45.Next y45.NextSession x129 true 0)
def f_process_Setuid_j3 (y34 : Int × Bool) (y45 : api_Table) (el52 : api_Process) (x120 : Int) (x121 : Int) (x125 : Int) : Option (api_Table × Int) := f_process_Setuid_j4 y45 (y45.Processes.set y34.1.toNat (⟨el52.PID, el52.PPID, x120, x121, el52.GID, el52.EGID, el52.AUID, el52.Session, el52.Cwd, el52.Comm, el52.Exe, el52.Open, el52.Audited⟩ : api_Process)) x125
def f_process_Setuid_j2 (y34 : Int × Bool) (y45 : api_Table) (el52 : api_Process) (x112 : Int) (x113 : Int) (x114 : Int) : Option (api_Table × Int) := f_process_Setuid_j3 y34 y45 el52 x113 x114 x112
def f_process_Setuid_j1 (y34 : Int × Bool) (y45 : api_Table) (el52 : api_Process) (x107 : Int) (x108 : Int) (x109 : Int) : Option (api_Table × Int) := f_process_Setuid_j2 y34 y45 el52 x107 x108 x109
def f_process_Setuid (z0 : api_Table) (z1 : Int) (z2 : Int) : Option (api_Table × Int) := (f_process_place z0 z1).bind fun y34 => if y34.2 = true then ((f_own_Table z0).bind fun y45 => (at_ y45.Processes y34.1).bind fun el52 => (f_process_between 4294967294 [z2]).bind fun y87 => if y87 = true then (if (el52.EUID == 0) = true then (f_process_Setuid_j1 y34 y45 el52 0 z2 z2) else (if (z2 == el52.UID) = true then (f_process_Setuid_j1 y34 y45 el52 0 el52.UID z2) else (if (z2 == el52.EUID) = true then (f_process_Setuid_j1 y34 y45 el52 0 el52.UID z2) else (f_process_Setuid_j1 y34 y45 el52 1 el52.UID el52.EUID)))) else (f_process_Setuid_j1 y34 y45 el52 22 el52.UID el52.EUID)) else (f_process_Setuid_j5 0 0 ([] : List api_Process) false 3)
set_option maxHeartbeats 4000000 in
set_option maxRecDepth 100000 in
theorem C12 (z0 : api_Table) (z1 : Int) (z2 : Int) (p1 : Option Addr) (m2 : Nat) (c3 : Nat) (r : api_Table × Int) (h : f_process_Setuid z0 z1 z2 = some r) : FunG Try.prog 12 #[.agg #[.int .i64 z0.Next, .int .i64 z0.NextSession, .slice p1 m2 c3], .int .i64 z1, .int .i64 z2] [vw (kSlice 38 k_api_Process) z0.Processes [.slice p1 m2 c3]] [] (fun t : (Option Addr × Nat × Nat) => .tuple #[.agg #[.int .i64 r.1.Next, .int .i64 r.1.NextSession, .slice t.1 t.2.1 t.2.2], .int .i64 r.2]) (fun t => []) (fun t => [[row 38 k_api_Process r.1.Processes (.slice t.1 t.2.1 t.2.2)]]) := by
  unfold f_process_Setuid at h
  refine t_begin (args := [.agg #[.int .i64 z0.Next, .int .i64 z0.NextSession, .slice p1 m2 c3], .int .i64 z1, .int .i64 z2]) Try.func12 rfl Try.ntmps12 rfl fun c R hR => ?_
  have hQ : ∀ X, X = r → ∀ w2 (t : (Option Addr × Nat × Nat)), PostG c.w0 w2 c.M c.Y [] [[row 38 k_api_Process X.1.Processes (.slice t.1 t.2.1 t.2.2)]] → R (.returned (.tuple #[.agg #[.int .i64 X.1.Next, .int .i64 X.1.NextSession, .slice t.1 t.2.1 t.2.2], .int .i64 X.2])) w2 := fun X e => by subst e; exact hR
  refine t_seq fun K4 hK5 => ?_
  refine t_region ?_
  refine nx (t_bx (cs := [.int .i64 z0.Next, .int .i64 z0.NextSession, .slice p1 m2 c3]) rfl rfl rfl fun g6 => ?_)
  refine nx (t_bx (cs := [.int .i64 z2]) rfl rfl rfl fun g7 => ?_)
  refine nx (t_al (cs := [.int .i64 0, .int .i64 0, .slice none 0 0]) ti28 rfl rfl fun g8 => ?_)
  refine c_p (r_as rfl) rfl ?_
  refine t_nil ?_
  refine t_then hK5 ?_
  refine t_seq fun K9 hK10 => ?_
  refine t_region ?_
  refine c_s (r_ldA a2 Try.underlying28 rfl ti28 rfl rfl) rfl ?_
  refine c_p (r_mv rfl) rfl ?_
  refine c_p (r_mf (vs := [.pointer (some ⟨g7, 0, none⟩)]) rfl) rfl ?_
  refine nx (t_in (args := [.agg #[.int .i64 z0.Next, .int .i64 z0.NextSession, .slice p1 m2 c3], .int .i64 z1, .func (.func 35) #[] #[.pointer (some ⟨g7, 0, none⟩)]]) (cap := []) (all := [.agg #[.int .i64 z0.Next, .int .i64 z0.NextSession, .slice p1 m2 c3], .int .i64 z1, .func (.func 35) #[] #[.pointer (some ⟨g7, 0, none⟩)]]) rfl rfl Try.func34 nm34 rfl rfl rfl Try.ntmps34 rfl fun R11 k12 hk13 hR14 => ?_)
  have J165 : ∀ (x158 : Int) (x159 : Int) (p160 : Option Addr) (m161 : Nat) (c162 : Nat) (x163 : List api_Process) (x164 : Int), f_process_Setuid_j6 x158 x159 x163 x164 = some r → T 14 c [] [[blk g8 [.int .i64 0, .int .i64 0, .slice none 0 0] 28], [row 38 k_api_Process x163 (.slice p160 m161 c162)]] [(6, .pointer (some ⟨g8, 0, none⟩)), (7, .int .i64 0), (11, .tuple #[.agg #[.int .i64 x158, .int .i64 x159, .slice p160 m161 c162], .int .i64 x164])] k12 := by
    intro x158 x159 p160 m161 c162 x163 x164 h166
    unfold f_process_Setuid_j6 at h166
    refine ti hk13 ?_
    refine c_p (r_ex rfl rfl) rfl ?_
    refine c_p (r_ex rfl rfl) rfl ?_
    refine nx (t_st u0 ti28 rfl rfl rfl rfl rfl (.t (.s (.s (.s .z)))) ?_)
    refine c_p (r_as rfl) rfl ?_
    refine t_nil ?_
    refine t_then hK10 ?_
    refine t_ret ?_
    exact ret2 rfl (v_N rfl a0 Try.underlying28 rfl ti28 rfl) (v_t rfl) (t_leave (hQ _ (Option.some.inj h166)) (p160, m161, c162) rfl (fun w Z hA => V0) (.cons e1 .nil))
  refine t_seq fun K15 hK16 => ?_
  refine t_region ?_
  refine nx (t_bx (cs := [.int .i64 z0.Next, .int .i64 z0.NextSession, .slice p1 m2 c3]) rfl rfl rfl fun g17 => ?_)
  refine nx (t_bx (cs := [.func (.func 35) #[] #[.pointer (some ⟨g7, 0, none⟩)]]) rfl rfl rfl fun g18 => ?_)
  refine nx (t_al (cs := [.int .i64 0, .int .i64 0, .slice none 0 0]) ti28 rfl rfl fun g19 => ?_)
  refine c_p (r_as rfl) rfl ?_
  refine t_nil ?_
  refine t_then hK16 ?_
  refine t_seq fun K20 hK21 => ?_
  refine t_region ?_
  refine c_s (r_ldA a2 Try.underlying28 rfl ti28 rfl rfl) rfl ?_
  refine c_p (r_mv rfl) rfl ?_
  refine c_p (r_mf (vs := [.pointer (some ⟨g18, 0, none⟩)]) rfl) rfl ?_
  refine nx (t_in (args := [.agg #[.int .i64 z0.Next, .int .i64 z0.NextSession, .slice p1 m2 c3], .int .i64 z1, .func (.func 57) #[] #[.pointer (some ⟨g18, 0, none⟩)]]) (cap := []) (all := [.agg #[.int .i64 z0.Next, .int .i64 z0.NextSession, .slice p1 m2 c3], .int .i64 z1, .func (.func 57) #[] #[.pointer (some ⟨g18, 0, none⟩)]]) rfl rfl Try.func56 nm56 rfl rfl rfl Try.ntmps56 rfl fun R22 k23 hk24 hR25 => ?_)
  have J154 : ∀ (x146 : Int) (x147 : Int) (p148 : Option Addr) (m149 : Nat) (c150 : Nat) (x151 : List api_Process) (x152 : Bool) (x153 : Int), f_process_Setuid_j5 x146 x147 x151 x152 x153 = some r → T 20 c [vw (kSlice 38 k_api_Process) z0.Processes [.slice p1 m2 c3]] [[blk g17 [.int .i64 z0.Next, .int .i64 z0.NextSession, .slice p1 m2 c3] 28], [blk g19 [.int .i64 0, .int .i64 0, .slice none 0 0] 28], [row 38 k_api_Process x151 (.slice p148 m149 c150)], [blk g8 [.int .i64 0, .int .i64 0, .slice none 0 0] 28]] [(3, .pointer (some ⟨g17, 0, none⟩)), (6, .pointer (some ⟨g19, 0, none⟩)), (14, .tuple #[.agg #[.int .i64 x146, .int .i64 x147, .slice p148 m149 c150], .bool x152, .int .i64 x153])] k23 := by
    intro x146 x147 p148 m149 c150 x151 x152 x153 h155
    unfold f_process_Setuid_j5 at h155
    refine ti hk24 ?_
    refine c_p (r_mv rfl) rfl ?_
    refine c_p (r_ex rfl rfl) rfl ?_
    refine c_p (r_ex rfl rfl) rfl ?_
    refine c_p (r_ex rfl rfl) rfl ?_
    refine nx (t_st u0 ti28 rfl rfl rfl rfl rfl (.t (.s (.s (.s .z)))) ?_)
    refine c_p (r_as rfl) rfl ?_
    refine c_p (r_as rfl) rfl ?_
    refine t_nil ?_
    refine t_then hK21 ?_
    refine t_seq fun K156 hK157 => ?_
    refine t_region ?_
    refine c_s (r_ldA a0 Try.underlying28 rfl ti28 rfl rfl) rfl ?_
    refine c_p (r_mv rfl) rfl ?_
    refine nx (t_st u1 ti28 rfl rfl rfl rfl rfl (.t (.s (.s (.s .z)))) ?_)
    refine c_p (r_as rfl) rfl ?_
    refine t_nil ?_
    refine t_then hK157 ?_
    refine t_ret ?_
    refine ret2 rfl (v_N rfl a1 Try.underlying28 rfl ti28 rfl) (v_t rfl) (t_bk hR14 ?_)
    exact t_go (J165 x146 x147 p148 m149 c150 x151 x153 h155) ⟨rfl, rfl, rfl, trivial⟩ (.cons e3 (.cons e2 .nil)) (fun w Z hA => V0)
  refine t_seq fun K26 hK27 => ?_
  refine t_region ?_
  refine nx (t_bx (cs := [.int .i64 z0.Next, .int .i64 z0.NextSession, .slice p1 m2 c3]) rfl rfl rfl fun g28 => ?_)
  refine nx (t_al (cs := [.int .i64 0, .int .i64 0, .slice none 0 0]) ti28 rfl rfl fun g29 => ?_)
  refine c_p (r_as rfl) rfl ?_
  refine c_p (r_as rfl) rfl ?_
  refine t_nil ?_
  refine t_then hK27 ?_
  refine t_seq fun K30 hK31 => ?_
  refine t_region ?_
  refine c_p (r_as rfl) rfl ?_
  refine t_nil ?_
  refine t_then hK31 ?_
  refine t_seq fun K32 hK33 => ?_
  refine t_region ?_
  refine c_s (r_ldA a1 Try.underlying28 rfl ti28 rfl rfl) rfl ?_
  refine c_p (r_mv rfl) rfl ?_
  obtain ⟨y34, hy34, h⟩ := bs h
  refine nx (t_ca (C37 _ _ _ _ _ _ hy34) Try.func37 nm37 rfl rfl rfl .nil (fun w Z hA => (V1 a0 hA V0)) rfl fun t35 => ?_)
  refine c_p (r_mv rfl) rfl ?_
  refine c_p (r_ex rfl rfl) rfl ?_
  refine c_p (r_ex rfl rfl) rfl ?_
  refine c_p (r_as rfl) rfl ?_
  refine c_p (r_as rfl) rfl ?_
  refine t_nil ?_
  refine t_then hK33 ?_
  refine t_seq fun K36 hK37 => ?_
  refine t_seq fun K38 hK39 => ?_
  refine t_region ?_
  refine c_p (r_mv rfl) rfl ?_
  refine c_p (r_not rfl) rfl ?_
  refine t_nil ?_
  refine t_then hK39 ?_
  rcases Bool.eq_false_or_eq_true y34.2 with hb40 | hb40
  · replace h := itT hb40 h
    refine t_F rfl (congrArg Bool.not hb40) ?_
    refine t_skip ?_
    refine t_then hK37 ?_
    refine t_seq fun K43 hK44 => ?_
    refine t_region ?_
    refine c_s (r_ldA a1 Try.underlying28 rfl ti28 rfl rfl) rfl ?_
    obtain ⟨y45, hy45, h⟩ := bs h
    refine nx (t_ca (C54 _ _ _ _ _ hy45) Try.func54 nm54 rfl rfl rfl .nil (fun w Z hA => (V1 a0 hA V0)) rfl fun t46 => ?_)
    refine nx (t_st u2 ti28 rfl rfl rfl rfl rfl (.t (.s (.s (.s .z)))) ?_)
    refine t_nil ?_
    refine t_then hK44 ?_
    refine t_seq fun K47 hK48 => ?_
    have J131 : ∀ (x129 : List api_Process) (x130 : Int), f_process_Setuid_j4 y45 x129 x130 = some r → T 42 c [vw (kSlice 38 k_api_Process) z0.Processes [.slice p1 m2 c3]] [[row 38 k_api_Process x129 (.slice t46.1 t46.2.1 t46.2.2)], [blk g28 [.int .i64 y45.Next, .int .i64 y45.NextSession, .slice t46.1 t46.2.1 t46.2.2] 28], [blk g29 [.int .i64 0, .int .i64 0, .slice none 0 0] 28], [blk g17 [.int .i64 z0.Next, .int .i64 z0.NextSession, .slice p1 m2 c3] 28], [blk g19 [.int .i64 0, .int .i64 0, .slice none 0 0] 28], [blk g8 [.int .i64 0, .int .i64 0, .slice none 0 0] 28]] [(3, .pointer (some ⟨g28, 0, none⟩)), (6, .pointer (some ⟨g29, 0, none⟩)), (9, .bool false), (12, .bool true), (13, .int .i64 x130)] K47 := by
      intro x129 x130 h132
      unfold f_process_Setuid_j4 at h132
      refine ti hK48 ?_
      refine t_seq fun K133 hK134 => ?_
      refine t_seq fun K135 hK136 => ?_
      refine t_region ?_
      refine c_p (r_mv rfl) rfl ?_
      refine c_p (r_i rfl rfl rfl) rfl ?_
      refine t_nil ?_
      refine t_then hK136 ?_
      rcases Bool.eq_false_or_eq_true (x130 != 0) with hb137 | hb137
      · replace h132 := itT hb137 h132
        refine t_T rfl hb137 ?_
        refine t_seq fun K138 hK139 => ?_
        refine t_region ?_
        refine c_p (r_bu (ps := []) (cs := [.int .i64 0, .int .i64 0, .slice none 0 0]) rfl (by kernel_rfl)) rfl ?_
        refine c_p (r_mv rfl) rfl ?_
        refine c_p (r_mv rfl) rfl ?_
        refine nx (t_st u2 ti28 rfl rfl rfl rfl rfl (.t (.s (.s (.s .z)))) ?_)
        refine c_p (r_as rfl) rfl ?_
        refine c_p (r_as rfl) rfl ?_
        refine t_nil ?_
        refine t_then hK139 ?_
        refine t_ret ?_
        refine tr (ret3 rfl (v_N rfl a2 Try.underlying28 rfl ti28 rfl) (v_t rfl) (v_t rfl) (t_bk hR25 ?_))
        refine t_nr 38 k_api_Process ?_
        exact t_go (J154 0 0 none 0 0 ([] : List api_Process) false x130 h132) ⟨rfl, rfl, rfl, trivial⟩ (.cons e4 (.cons e4 (.cons e0 (.cons e3 .nil)))) (fun w Z hA => V1 a0 hA (V0))
      · replace h132 := itF hb137 h132
        refine t_F rfl hb137 ?_
        refine t_skip ?_
        refine t_then hK134 ?_
        refine t_seq fun K140 hK141 => ?_
        refine t_region ?_
        refine c_s (r_ldA a1 Try.underlying28 rfl ti28 rfl rfl) rfl ?_
        refine c_p (r_mv rfl) rfl ?_
        refine nx (t_st u2 ti28 rfl rfl rfl rfl rfl (.t (.s (.s (.s .z)))) ?_)
        refine c_p (r_as rfl) rfl ?_
        refine c_p (r_as rfl) rfl ?_
        refine t_nil ?_
        refine t_then hK141 ?_
        refine t_ret ?_
        refine ret3 rfl (v_N rfl a2 Try.underlying28 rfl ti28 rfl) (v_t rfl) (v_t rfl) (t_bk hR25 ?_)
        exact t_go (J154 y45.Next y45.NextSession t46.1 t46.2.1 t46.2.2 x129 true 0 h132) ⟨rfl, rfl, rfl, trivial⟩ (.cons e3 (.cons e3 (.cons e0 (.cons e2 .nil)))) (fun w Z hA => V1 a0 hA (V0))
    refine t_region ?_
    refine c_p (r_mv rfl) rfl ?_
    refine c_p (r_fa (off' := 2) Try.underlying28 rfl ti26 rfl rfl) rfl ?_
    refine c_s (r_ld a2 Try.underlying26 rfl rfl rfl) rfl ?_
    refine c_p (r_mv rfl) rfl ?_
    obtain ⟨el52, hel52, h⟩ := bs h
    refine t_qL a0 hel52 fun q49 hq50 hm51 => ?_
    refine c_p (r_idx hq50 hm51 hel52 Try.underlying26 ti38 rfl rfl) rfl ?_
    refine nx (t_in (args := [.pointer (some ⟨g28, 0, none⟩), .pointer (some q49)]) (cap := [.pointer (some ⟨g18, 0, none⟩)]) (all := [.pointer (some ⟨g28, 0, none⟩), .pointer (some q49), .pointer (some ⟨g18, 0, none⟩)]) rfl rfl Try.func57 nm57 rfl rfl rfl Try.ntmps57 rfl fun R53 k54 hk55 hR56 => ?_)
    have J126 : ∀ (x120 : Int) (x121 : Int) (p122 : Option Addr) (m123 : Nat) (c124 : Nat) (x125 : Int), f_process_Setuid_j3 y34 y45 el52 x120 x121 x125 = some r → T 42 c [vw (kSlice 38 k_api_Process) z0.Processes [.slice p1 m2 c3]] [[row 81 k_api_Descriptor el52.Open (.slice p122 m123 c124)], [hole 38 k_api_Process y45.Processes y34.1.toNat [.int .i64 el52.PID, .int .i64 el52.PPID, .int .i64 x120, .int .i64 x121, .int .i64 el52.GID, .int .i64 el52.EGID, .int .i64 el52.AUID, .int .i64 el52.Session, .int .i64 el52.Cwd.Dev, .int .i64 el52.Cwd.Ino, .string el52.Comm, .string el52.Exe, .slice p122 m123 c124, .bool el52.Audited] (.slice t46.1 t46.2.1 t46.2.2)], [blk g28 [.int .i64 y45.Next, .int .i64 y45.NextSession, .slice t46.1 t46.2.1 t46.2.2] 28], [blk g29 [.int .i64 0, .int .i64 0, .slice none 0 0] 28], [blk g17 [.int .i64 z0.Next, .int .i64 z0.NextSession, .slice p1 m2 c3] 28], [blk g19 [.int .i64 0, .int .i64 0, .slice none 0 0] 28], [blk g8 [.int .i64 0, .int .i64 0, .slice none 0 0] 28]] [(3, .pointer (some ⟨g28, 0, none⟩)), (6, .pointer (some ⟨g29, 0, none⟩)), (9, .bool false), (32, .tuple #[.bool true, .int .i64 x125])] k54 := by
      intro x120 x121 p122 m123 c124 x125 h127
      unfold f_process_Setuid_j3 at h127
      refine ti hk55 ?_
      refine c_p (r_mv rfl) rfl ?_
      refine c_p (r_ex rfl rfl) rfl ?_
      refine c_p (r_ex rfl rfl) rfl ?_
      refine c_p (r_as rfl) rfl ?_
      refine c_p (r_as rfl) rfl ?_
      refine t_nil ?_
      refine t_cI (u := (⟨el52.PID, el52.PPID, x120, x121, el52.GID, el52.EGID, el52.AUID, el52.Session, el52.Cwd, el52.Comm, el52.Exe, el52.Open, el52.Audited⟩ : api_Process)) (t := (p122, m123, c124)) k_api_Process_shutsO (.cons e1 (.cons e0 .nil)) rfl (fun w Z hA => trivial) ?_
      have hn128 := at_set (u' := (⟨el52.PID, el52.PPID, x120, x121, el52.GID, el52.EGID, el52.AUID, el52.Session, el52.Cwd, el52.Comm, el52.Exe, el52.Open, el52.Audited⟩ : api_Process)) hel52
      exact t_norm (t_go (J131 (y45.Processes.set y34.1.toNat (⟨el52.PID, el52.PPID, x120, x121, el52.GID, el52.EGID, el52.AUID, el52.Session, el52.Cwd, el52.Comm, el52.Exe, el52.Open, el52.Audited⟩ : api_Process)) x125 h127) ⟨rfl, rfl, rfl, rfl, rfl, trivial⟩ (.cons e0 (.cons e0 (.cons e0 (.cons e0 (.cons e0 (.cons e0 .nil)))))) (fun w Z hA => V1 a0 hA (V0)))
    refine t_seq fun K57 hK58 => ?_
    refine t_region ?_
    refine c_p (r_as rfl) rfl ?_
    refine c_p (r_as rfl) rfl ?_
    refine t_nil ?_
    refine t_then hK58 ?_
    refine t_seq fun K59 hK60 => ?_
    refine t_region ?_
    refine c_s (r_ld a4 Try.underlying68 rfl rfl rfl) rfl ?_
    refine c_p (r_mv rfl) rfl ?_
    refine c_p (r_mv rfl) rfl ?_
    refine nx (t_in (args := [.pointer (some ⟨g28, 0, none⟩), .pointer (some q49)]) (cap := [.pointer (some ⟨g7, 0, none⟩)]) (all := [.pointer (some ⟨g28, 0, none⟩), .pointer (some q49), .pointer (some ⟨g7, 0, none⟩)]) rfl rfl Try.func35 nm35 rfl rfl rfl Try.ntmps35 rfl fun R61 k62 hk63 hR64 => ?_)
    have J118 : ∀ (x112 : Int) (x113 : Int) (x114 : Int) (p115 : Option Addr) (m116 : Nat) (c117 : Nat), f_process_Setuid_j2 y34 y45 el52 x112 x113 x114 = some r → T 11 c [vw (kSlice 38 k_api_Process) z0.Processes [.slice p1 m2 c3]] [[row 81 k_api_Descriptor el52.Open (.slice p115 m116 c117)], [hole 38 k_api_Process y45.Processes y34.1.toNat [.int .i64 el52.PID, .int .i64 el52.PPID, .int .i64 x113, .int .i64 x114, .int .i64 el52.GID, .int .i64 el52.EGID, .int .i64 el52.AUID, .int .i64 el52.Session, .int .i64 el52.Cwd.Dev, .int .i64 el52.Cwd.Ino, .string el52.Comm, .string el52.Exe, .slice p115 m116 c117, .bool el52.Audited] (.slice t46.1 t46.2.1 t46.2.2)], [blk g28 [.int .i64 y45.Next, .int .i64 y45.NextSession, .slice t46.1 t46.2.1 t46.2.2] 28], [blk g29 [.int .i64 0, .int .i64 0, .slice none 0 0] 28], [blk g17 [.int .i64 z0.Next, .int .i64 z0.NextSession, .slice p1 m2 c3] 28], [blk g19 [.int .i64 0, .int .i64 0, .slice none 0 0] 28], [blk g8 [.int .i64 0, .int .i64 0, .slice none 0 0] 28]] [(5, .bool false), (6, .int .i64 0), (10, .int .i64 x112)] k62 := by
      intro x112 x113 x114 p115 m116 c117 h119
      unfold f_process_Setuid_j2 at h119
      refine ti hk63 ?_
      refine c_p (r_as rfl) rfl ?_
      refine c_p (r_as rfl) rfl ?_
      refine t_nil ?_
      refine t_then hK60 ?_
      refine t_ret ?_
      refine ret2 rfl (v_t rfl) (v_t rfl) (t_bk hR56 ?_)
      exact t_go (J126 x113 x114 p115 m116 c117 x112 h119) ⟨rfl, rfl, rfl, rfl, trivial⟩ (.cons e0 (.cons e0 (.cons e0 (.cons e0 (.cons e0 (.cons e0 (.cons e0 .nil))))))) (fun w Z hA => V1 a0 hA (V0))
    refine t_seq fun K65 hK66 => ?_
    refine t_region ?_
    refine c_p (r_as rfl) rfl ?_
    refine t_nil ?_
    refine t_then hK66 ?_
    refine t_seq fun K67 hK68 => ?_
    refine t_draw mixed (fun w_ => True) [] [12] rfl ?_
    refine q_p 0 (panic_then panic_body) rfl (by kernel_rfl) W0 (r_mv rfl) rfl ?_
    refine q_p 1 (panic_then panic_body) rfl (by kernel_rfl) W0 (r_nc rfl) rfl ?_
    refine t_qf hq50 3 fun q69 hq70 => ?_
    refine q_p 2 (panic_then panic_body) rfl (by kernel_rfl) W0 (r_fai hq50 hq70 Try.underlying38 rfl ti3 rfl rfl) rfl ?_
    refine t_oI k_api_Process_opensO e0 hel52 fun t71 => ?_
    refine q_u 3 (panic_then panic_body) rfl (by kernel_rfl) W0 (by kernel_rfl) (r_h1 a0 hq70 Try.underlying3 rfl rfl rfl) rfl ?_
    refine q_p 4 (panic_then panic_body) rfl (by kernel_rfl) W0 (r_i rfl rfl rfl) rfl ?_
    refine q_u 5 (panic_then panic_body) rfl (by kernel_rfl) W0 (by kernel_rfl) (r_ld a8 Try.underlying3 rfl rfl rfl) rfl ?_
    refine q_p 6 (panic_then panic_body) rfl (by kernel_rfl) W0 (r_mv rfl) rfl ?_
    refine q_p 7 (panic_then panic_body) rfl (by kernel_rfl) W0 (r_nc rfl) rfl ?_
    refine t_qf hq50 2 fun q72 hq73 => ?_
    refine q_p 8 (panic_then panic_body) rfl (by kernel_rfl) W0 (r_fai hq50 hq73 Try.underlying38 rfl ti3 rfl rfl) rfl ?_
    refine q_p 9 (panic_then panic_body) rfl (by kernel_rfl) W0 (r_mv rfl) rfl ?_
    refine q_p 10 (panic_then panic_body) rfl (by kernel_rfl) W0 (r_nc rfl) rfl ?_
    refine t_qf hq50 3 fun q74 hq75 => ?_
    refine q_p 11 (panic_then panic_body) rfl (by kernel_rfl) W0 (r_fai hq50 hq75 Try.underlying38 rfl ti3 rfl rfl) rfl ?_
    refine d1 12 rfl (by kernel_rfl) (by kernel_rfl) ?_
    refine t_in (args := [.bool (el52.EUID == 0), .int .i64 z2, .pointer (some q72), .pointer (some q74)]) (cap := []) (all := [.bool (el52.EUID == 0), .int .i64 z2, .pointer (some q72), .pointer (some q74)]) rfl rfl Try.func36 nm36 rfl rfl rfl Try.ntmps36 rfl fun R76 k77 hk78 hR79 => ?_
    have J110 : ∀ (x107 : Int) (x108 : Int) (x109 : Int), f_process_Setuid_j1 y34 y45 el52 x107 x108 x109 = some r → T 19 c [vw (kSlice 38 k_api_Process) z0.Processes [.slice p1 m2 c3]] [[row 81 k_api_Descriptor el52.Open (.slice t71.1 t71.2.1 t71.2.2)], [hole 38 k_api_Process y45.Processes y34.1.toNat [.int .i64 el52.PID, .int .i64 el52.PPID, .int .i64 x108, .int .i64 x109, .int .i64 el52.GID, .int .i64 el52.EGID, .int .i64 el52.AUID, .int .i64 el52.Session, .int .i64 el52.Cwd.Dev, .int .i64 el52.Cwd.Ino, .string el52.Comm, .string el52.Exe, .slice t71.1 t71.2.1 t71.2.2, .bool el52.Audited] (.slice t46.1 t46.2.1 t46.2.2)], [blk g28 [.int .i64 y45.Next, .int .i64 y45.NextSession, .slice t46.1 t46.2.1 t46.2.2] 28], [blk g29 [.int .i64 0, .int .i64 0, .slice none 0 0] 28], [blk g17 [.int .i64 z0.Next, .int .i64 z0.NextSession, .slice p1 m2 c3] 28], [blk g19 [.int .i64 0, .int .i64 0, .slice none 0 0] 28], [blk g8 [.int .i64 0, .int .i64 0, .slice none 0 0] 28]] [(5, .int .i64 0), (18, .int .i64 x107)] k77 := by
      intro x107 x108 x109 h111
      unfold f_process_Setuid_j1 at h111
      refine ti hk78 ?_
      refine dn (by kernel_rfl) ?_
      refine q_p 13 (panic_then panic_body) rfl (by kernel_rfl) W0 (r_as rfl) rfl ?_
      refine dz (by kernel_rfl) ?_
      refine t_then hK68 ?_
      refine t_ret ?_
      refine ret1 rfl (v_t rfl) (t_bk hR64 ?_)
      exact t_go (J118 x107 x108 x109 t71.1 t71.2.1 t71.2.2 h111) ⟨rfl, rfl, rfl, trivial⟩ (.cons e0 (.cons e0 (.cons e0 (.cons e0 (.cons e0 (.cons e0 (.cons e0 .nil))))))) (fun w Z hA => V1 a0 hA (V0))
    refine t_seq fun K80 hK81 => ?_
    refine t_region ?_
    refine c_p (r_as rfl) rfl ?_
    refine t_nil ?_
    refine t_then hK81 ?_
    refine t_seq fun K82 hK83 => ?_
    refine t_block ?_
    refine t_seq fun K84 hK85 => ?_
    refine t_region ?_
    refine c_p (r_mv rfl) rfl ?_
    refine nx (t_bs (ps := [(0, .int .i64 z2)]) (cs := [.int .i64 z2]) Try.underlying22 ti3 rfl rfl (by kernel_rfl) rfl fun g86 => ?_)
    refine t_tr (Kd := (kInt .i64)) (xs := [z2]) (.cons e0 .nil) rfl (fun w Z S hA hN => flat_EO (S := Nil) (flatK_int .i64) (er1 (c1 := [.int .i64 z2]) rfl er0)) ?_
    obtain ⟨y87, hy87, h⟩ := bs h
    refine nx (t_cf (C39 _ _ _ _ _ _ hy87) (fun _ => flat_nil) Try.func39 nm39 rfl rfl rfl .nil (fun w Z S hA hL => (FL a0 hL F0)) rfl fun t88 => ?_)
    refine c_p (r_not rfl) rfl ?_
    refine c_p (r_as rfl) rfl ?_
    refine t_nil ?_
    refine t_then hK85 ?_
    rcases Bool.eq_false_or_eq_true y87 with hb89 | hb89
    · replace h := itT hb89 h
      refine t_F rfl (congrArg Bool.not hb89) ?_
      refine t_seq fun K90 hK91 => ?_
      refine t_region ?_
      refine c_p (r_mv rfl) rfl ?_
      refine c_p (r_as rfl) rfl ?_
      refine t_nil ?_
      refine t_then hK91 ?_
      rcases Bool.eq_false_or_eq_true (el52.EUID == 0) with hb92 | hb92
      · replace h := itT hb92 h
        refine t_T rfl hb92 ?_
        refine t_region ?_
        refine c_p (r_mv rfl) rfl ?_
        refine c_p (r_mv rfl) rfl ?_
        refine c_p (r_mv rfl) rfl ?_
        refine c_p (r_mv rfl) rfl ?_
        refine c_p (r_nc rfl) rfl ?_
        refine nx (t_hs u1 hq73 ti3 rfl rfl rfl rfl rfl (.s (.s (.t (.s .z)))) ?_)
        refine c_p (r_nc rfl) rfl ?_
        refine nx (t_hs u1 hq75 ti3 rfl rfl rfl rfl rfl (.s (.s (.s (.t (.s .z))))) ?_)
        refine t_nil ?_
        refine t_blockN ?_
        refine t_then hK83 ?_
        refine t_seq fun K101 hK102 => ?_
        refine t_region ?_
        refine c_p (r_as rfl) rfl ?_
        refine t_nil ?_
        refine t_then hK102 ?_
        refine t_ret ?_
        refine ret1 rfl (v_t rfl) (t_bk hR79 ?_)
        exact t_go (J110 0 z2 z2 h) ⟨rfl, rfl, trivial⟩ (.cons e2 (.cons e1 (.cons e2 (.cons e1 (.cons e3 (.cons e1 (.cons e2 .nil))))))) (fun w Z hA => V1 a0 hA (V0))
      · replace h := itF hb92 h
        refine t_F rfl hb92 ?_
        refine t_seq fun K93 hK94 => ?_
        refine t_region ?_
        refine c_p (r_mv rfl) rfl ?_
        refine c_p (r_mv rfl) rfl ?_
        refine c_p (r_nc rfl) rfl ?_
        refine c_s (r_h1 a1 hq73 Try.underlying3 rfl rfl rfl) rfl ?_
        refine c_p (r_i rfl rfl rfl) rfl ?_
        refine c_p (r_mv rfl) rfl ?_
        rcases Bool.eq_false_or_eq_true (z2 == el52.UID) with hb95 | hb95
        · replace h := itT hb95 h
          refine nx (pass rfl rfl hb95 rfl ?_)
          refine nx (pass rfl rfl hb95 rfl ?_)
          refine nx (pass rfl rfl hb95 rfl ?_)
          refine nx (pass rfl rfl hb95 rfl ?_)
          refine nx (pass rfl rfl hb95 rfl ?_)
          refine c_p (r_pT rfl hb95 rfl) rfl ?_
          refine c_p (r_as rfl) rfl ?_
          refine t_nil ?_
          refine t_then hK94 ?_
          refine t_T rfl rfl ?_
          refine t_region ?_
          refine c_p (r_mv rfl) rfl ?_
          refine c_p (r_mv rfl) rfl ?_
          refine c_p (r_nc rfl) rfl ?_
          refine nx (t_hs u1 hq75 ti3 rfl rfl rfl rfl rfl (.s (.s (.s (.t (.s .z))))) ?_)
          refine t_nil ?_
          refine t_blockN ?_
          refine t_then hK83 ?_
          refine t_seq fun K103 hK104 => ?_
          refine t_region ?_
          refine c_p (r_as rfl) rfl ?_
          refine t_nil ?_
          refine t_then hK104 ?_
          refine t_ret ?_
          refine ret1 rfl (v_t rfl) (t_bk hR79 ?_)
          exact t_go (J110 0 el52.UID z2 h) ⟨rfl, rfl, trivial⟩ (.cons e2 (.cons e1 (.cons e2 (.cons e1 (.cons e3 (.cons e1 (.cons e2 .nil))))))) (fun w Z hA => V1 a0 hA (V0))
        · replace h := itF hb95 h
          refine nx (gd rfl rfl hb95 (sp (r_mv rfl) rfl ?_))
          refine nx (gd rfl rfl hb95 (sp (r_mv rfl) rfl ?_))
          refine nx (gd rfl rfl hb95 (sp (r_nc rfl) rfl ?_))
          refine nx (gd rfl rfl hb95 (ss (r_h1 a1 hq75 Try.underlying3 rfl rfl rfl) rfl ?_))
          refine nx (gd rfl rfl hb95 (sp (r_i rfl rfl rfl) rfl ?_))
          refine c_p (r_pF rfl hb95 rfl) rfl ?_
          refine c_p (r_as rfl) rfl ?_
          refine t_nil ?_
          refine t_then hK94 ?_
          rcases Bool.eq_false_or_eq_true (z2 == el52.EUID) with hb96 | hb96
          · replace h := itT hb96 h
            refine t_T rfl hb96 ?_
            refine t_region ?_
            refine c_p (r_mv rfl) rfl ?_
            refine c_p (r_mv rfl) rfl ?_
            refine c_p (r_nc rfl) rfl ?_
            refine nx (t_hs u1 hq75 ti3 rfl rfl rfl rfl rfl (.s (.s (.s (.t (.s .z))))) ?_)
            refine t_nil ?_
            refine t_blockN ?_
            refine t_then hK83 ?_
            refine t_seq fun K105 hK106 => ?_
            refine t_region ?_
            refine c_p (r_as rfl) rfl ?_
            refine t_nil ?_
            refine t_then hK106 ?_
            refine t_ret ?_
            refine ret1 rfl (v_t rfl) (t_bk hR79 ?_)
            exact t_go (J110 0 el52.UID z2 h) ⟨rfl, rfl, trivial⟩ (.cons e2 (.cons e1 (.cons e2 (.cons e1 (.cons e3 (.cons e1 (.cons e2 .nil))))))) (fun w Z hA => V1 a0 hA (V0))
          · replace h := itF hb96 h
            refine t_F rfl hb96 ?_
            refine t_seq fun K97 hK98 => ?_
            refine t_region ?_
            refine c_p (r_as rfl) rfl ?_
            refine t_nil ?_
            refine t_then hK98 ?_
            refine t_ret ?_
            refine br (tr (ret1 rfl (v_t rfl) (t_bk hR79 ?_)))
            exact t_go (J110 1 el52.UID el52.EUID h) ⟨rfl, rfl, trivial⟩ (.cons e2 (.cons e1 (.cons e2 (.cons e1 (.cons e3 (.cons e1 (.cons e2 .nil))))))) (fun w Z hA => V1 a0 hA (V0))
    · replace h := itF hb89 h
      refine t_T rfl (congrArg Bool.not hb89) ?_
      refine t_seq fun K99 hK100 => ?_
      refine t_region ?_
      refine c_p (r_as rfl) rfl ?_
      refine t_nil ?_
      refine t_then hK100 ?_
      refine t_ret ?_
      refine br (tr (ret1 rfl (v_t rfl) (t_bk hR79 ?_)))
      exact t_go (J110 22 el52.UID el52.EUID h) ⟨rfl, rfl, trivial⟩ (.cons e2 (.cons e1 (.cons e2 (.cons e1 (.cons e3 (.cons e1 (.cons e2 .nil))))))) (fun w Z hA => V1 a0 hA (V0))
  · replace h := itF hb40 h
    refine t_T rfl (congrArg Bool.not hb40) ?_
    refine t_seq fun K41 hK42 => ?_
    refine t_region ?_
    refine c_p (r_bu (ps := []) (cs := [.int .i64 0, .int .i64 0, .slice none 0 0]) rfl (by kernel_rfl)) rfl ?_
    refine c_p (r_mv rfl) rfl ?_
    refine nx (t_st u0 ti28 rfl rfl rfl rfl rfl (.t (.s (.s (.s .z)))) ?_)
    refine c_p (r_as rfl) rfl ?_
    refine c_p (r_as rfl) rfl ?_
    refine t_nil ?_
    refine t_then hK42 ?_
    refine t_ret ?_
    refine tr (ret3 rfl (v_N rfl a0 Try.underlying28 rfl ti28 rfl) (v_t rfl) (v_t rfl) (t_bk hR25 ?_))
    refine t_nr 38 k_api_Process ?_
    exact t_go (J154 0 0 none 0 0 ([] : List api_Process) false 3 h) ⟨rfl, rfl, rfl, trivial⟩ (.cons e5 (.cons e3 (.cons e0 (.cons e3 .nil)))) (fun w Z hA => V1 a0 hA (V0))
end Go.Proofs.Ytanimjbmkhpnaaa.Gx
