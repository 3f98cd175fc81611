/- Function 29, kaudit/process.OpenFile: what it answers as a plain function, and that the Go code comes to exactly that (where the plain function gives an answer). -/
import Derived.Test.YtanimjbmkhpnaaaYT
import Derived.Test.YtanimjbmkhpnaaaY37
import Derived.Test.YtanimjbmkhpnaaaY53
import Derived.Test.YtanimjbmkhpnaaaY54
set_option linter.unusedVariables false
set_option linter.unusedSimpArgs false
namespace Go.Proofs.Ytanimjbmkhpnaaa.Gx
open Go.Gx Go.RowKit
/-! ### kaudit/process.OpenFile: function 29 -/
def f_process_OpenFile_j5 (x175 : Int) (x176 : Int) (x180 : List api_Process) (x181 : Int) (x182 : Int) : Option (api_Table × Int × Int) := some ((⟨x175, x176, x180⟩ : api_Table), x181, x182)
def f_process_OpenFile_j4 (y35 : api_Table) (x157 : List api_Process) (x158 : Int) (x159 : Int) : Option (api_Table × Int × Int) := if (x159 != 0) = true then (f_process_OpenFile_j5 0 0 ([] : List api_Process) 0 x159) else (f_process_OpenFile_j5 y35.Next y35.NextSession x157 x158 0)
def f_process_OpenFile_j3 (y24 : Int × Bool) (y35 : api_Table) (el42 : api_Process) (x151 : List api_Descriptor) (x152 : Int) (x153 : Int) : Option (api_Table × Int × Int) := f_process_OpenFile_j4 y35 (y35.Processes.set y24.1.toNat (⟨el42.PID, el42.PPID, el42.UID, el42.EUID, el42.GID, el42.EGID, el42.AUID, el42.Session, el42.Cwd, el42.Comm, el42.Exe, x151, el42.Audited⟩ : api_Process)) x152 x153
def f_process_OpenFile_j2 (y24 : Int × Bool) (y35 : api_Table) (el42 : api_Process) (x123 : Int) (x143 : List api_Descriptor) : Option (api_Table × Int × Int) := f_process_OpenFile_j3 y24 y35 el42 x143 x123 0
def f_process_OpenFile_j1 (z2 : api_File) (z3 : Int) (y24 : Int × Bool) (y35 : api_Table) (el42 : api_Process) (x123 : Int) : Option (api_Table × Int × Int) := (f_slices_Insert_api_Descriptor_api_Descriptor el42.Open x123 [(⟨x123, z2, z3⟩ : api_Descriptor)]).bind fun y131 => f_process_OpenFile_j2 y24 y35 el42 x123 y131
def f_process_OpenFile_l1 (z2 : api_File) (z3 : Int) (y24 : Int × Bool) (y35 : api_Table) (el42 : api_Process) : Nat → Int → Option (api_Table × Int × Int)
  | 0, _ => none
  | k104 + 1, x101 => if (decide (x101 < (el42.Open.length : Int))) = true then ((at_ el42.Open x101).bind fun el118 => if (el118.FD == x101) = true then (f_process_OpenFile_l1 z2 z3 y24 y35 el42 k104 (IntKind.wrap .i64 (x101 + 1))) else (f_process_OpenFile_j1 z2 z3 y24 y35 el42 x101)) else (f_process_OpenFile_j1 z2 z3 y24 y35 el42 x101)
def f_process_OpenFile (z0 : api_Table) (z1 : Int) (z2 : api_File) (z3 : Int) : Option (api_Table × Int × Int) := (f_process_place z0 z1).bind fun y24 => if y24.2 = true then ((f_own_Table z0).bind fun y35 => (at_ y35.Processes y24.1).bind fun el42 => if (decide ((el42.Open.length : Int) ≥ 8)) = true then (f_process_OpenFile_j3 y24 y35 el42 el42.Open 0 24) else (f_process_OpenFile_l1 z2 z3 y24 y35 el42 ((((el42.Open.length : Int) : Int) - (0)).toNat + 1) 0)) else (f_process_OpenFile_j5 0 0 ([] : List api_Process) 0 3)
set_option maxHeartbeats 4000000 in
set_option maxRecDepth 100000 in
theorem C29 (z0 : api_Table) (z1 : Int) (z2 : api_File) (z3 : Int) (p1 : Option Addr) (m2 : Nat) (c3 : Nat) (r : api_Table × Int × Int) (h : f_process_OpenFile z0 z1 z2 z3 = some r) : FunG Try.prog 29 #[.agg #[.int .i64 z0.Next, .int .i64 z0.NextSession, .slice p1 m2 c3], .int .i64 z1, .agg #[.int .i64 z2.Dev, .int .i64 z2.Ino], .int .i64 z3] [vw (kSlice 38 k_api_Process) z0.Processes [.slice p1 m2 c3]] [] (fun t : (Option Addr × Nat × Nat) => .tuple #[.agg #[.int .i64 r.1.Next, .int .i64 r.1.NextSession, .slice t.1 t.2.1 t.2.2], .int .i64 r.2.1, .int .i64 r.2.2]) (fun t => []) (fun t => [[row 38 k_api_Process r.1.Processes (.slice t.1 t.2.1 t.2.2)]]) := by
  unfold f_process_OpenFile at h
  refine t_begin (args := [.agg #[.int .i64 z0.Next, .int .i64 z0.NextSession, .slice p1 m2 c3], .int .i64 z1, .agg #[.int .i64 z2.Dev, .int .i64 z2.Ino], .int .i64 z3]) Try.func29 rfl Try.ntmps29 rfl fun c R hR => ?_
  have hQ : ∀ X, X = r → ∀ w2 (t : (Option Addr × Nat × Nat)), PostG c.w0 w2 c.M c.Y [] [[row 38 k_api_Process X.1.Processes (.slice t.1 t.2.1 t.2.2)]] → R (.returned (.tuple #[.agg #[.int .i64 X.1.Next, .int .i64 X.1.NextSession, .slice t.1 t.2.1 t.2.2], .int .i64 X.2.1, .int .i64 X.2.2])) w2 := fun X e => by subst e; exact hR
  refine t_seq fun K4 hK5 => ?_
  refine t_region ?_
  refine nx (t_bx (cs := [.int .i64 z0.Next, .int .i64 z0.NextSession, .slice p1 m2 c3]) rfl rfl rfl fun g6 => ?_)
  refine nx (t_bx (cs := [.int .i64 z2.Dev, .int .i64 z2.Ino]) rfl rfl rfl fun g7 => ?_)
  refine nx (t_bx (cs := [.int .i64 z3]) rfl rfl rfl fun g8 => ?_)
  refine nx (t_al (cs := [.int .i64 0, .int .i64 0, .slice none 0 0]) ti28 rfl rfl fun g9 => ?_)
  refine c_p (r_as rfl) rfl ?_
  refine c_p (r_as rfl) rfl ?_
  refine t_nil ?_
  refine t_then hK5 ?_
  refine t_seq fun K10 hK11 => ?_
  refine t_region ?_
  refine c_s (r_ldA a3 Try.underlying28 rfl ti28 rfl rfl) rfl ?_
  refine c_p (r_mv rfl) rfl ?_
  refine c_p (r_mf (vs := [.pointer (some ⟨g7, 0, none⟩), .pointer (some ⟨g8, 0, none⟩)]) rfl) rfl ?_
  refine nx (t_in (args := [.agg #[.int .i64 z0.Next, .int .i64 z0.NextSession, .slice p1 m2 c3], .int .i64 z1, .func (.func 52) #[] #[.pointer (some ⟨g7, 0, none⟩), .pointer (some ⟨g8, 0, none⟩)]]) (cap := []) (all := [.agg #[.int .i64 z0.Next, .int .i64 z0.NextSession, .slice p1 m2 c3], .int .i64 z1, .func (.func 52) #[] #[.pointer (some ⟨g7, 0, none⟩), .pointer (some ⟨g8, 0, none⟩)]]) rfl rfl Try.func30 nm30 rfl rfl rfl Try.ntmps30 rfl fun R12 k13 hk14 hR15 => ?_)
  have J183 : ∀ (x175 : Int) (x176 : Int) (p177 : Option Addr) (m178 : Nat) (c179 : Nat) (x180 : List api_Process) (x181 : Int) (x182 : Int), f_process_OpenFile_j5 x175 x176 x180 x181 x182 = some r → T 18 c [] [[blk g9 [.int .i64 0, .int .i64 0, .slice none 0 0] 28], [row 38 k_api_Process x180 (.slice p177 m178 c179)]] [(8, .pointer (some ⟨g9, 0, none⟩)), (9, .int .i64 0), (10, .int .i64 0), (14, .tuple #[.agg #[.int .i64 x175, .int .i64 x176, .slice p177 m178 c179], .int .i64 x181, .int .i64 x182])] k13 := by
    intro x175 x176 p177 m178 c179 x180 x181 x182 h184
    unfold f_process_OpenFile_j5 at h184
    refine ti hk14 ?_
    refine c_p (r_ex rfl rfl) rfl ?_
    refine c_p (r_ex rfl rfl) rfl ?_
    refine c_p (r_ex rfl rfl) rfl ?_
    refine nx (t_st u0 ti28 rfl rfl rfl rfl rfl (.t (.s (.s (.s .z)))) ?_)
    refine c_p (r_as rfl) rfl ?_
    refine c_p (r_as rfl) rfl ?_
    refine t_nil ?_
    refine t_then hK11 ?_
    refine t_ret ?_
    exact ret3 rfl (v_N rfl a0 Try.underlying28 rfl ti28 rfl) (v_t rfl) (v_t rfl) (t_leave (hQ _ (Option.some.inj h184)) (p177, m178, c179) rfl (fun w Z hA => V0) (.cons e1 .nil))
  refine t_seq fun K16 hK17 => ?_
  refine t_region ?_
  refine nx (t_bx (cs := [.int .i64 z0.Next, .int .i64 z0.NextSession, .slice p1 m2 c3]) rfl rfl rfl fun g18 => ?_)
  refine nx (t_al (cs := [.int .i64 0, .int .i64 0, .slice none 0 0]) ti28 rfl rfl fun g19 => ?_)
  refine c_p (r_as rfl) rfl ?_
  refine c_p (r_as rfl) rfl ?_
  refine t_nil ?_
  refine t_then hK17 ?_
  refine t_seq fun K20 hK21 => ?_
  refine t_region ?_
  refine c_p (r_as rfl) rfl ?_
  refine t_nil ?_
  refine t_then hK21 ?_
  refine t_seq fun K22 hK23 => ?_
  refine t_region ?_
  refine c_s (r_ldA a1 Try.underlying28 rfl ti28 rfl rfl) rfl ?_
  refine c_p (r_mv rfl) rfl ?_
  obtain ⟨y24, hy24, h⟩ := bs h
  refine nx (t_ca (C37 _ _ _ _ _ _ hy24) Try.func37 nm37 rfl rfl rfl .nil (fun w Z hA => (V1 a0 hA V0)) rfl fun t25 => ?_)
  refine c_p (r_mv rfl) rfl ?_
  refine c_p (r_ex rfl rfl) rfl ?_
  refine c_p (r_ex rfl rfl) rfl ?_
  refine c_p (r_as rfl) rfl ?_
  refine c_p (r_as rfl) rfl ?_
  refine t_nil ?_
  refine t_then hK23 ?_
  refine t_seq fun K26 hK27 => ?_
  refine t_seq fun K28 hK29 => ?_
  refine t_region ?_
  refine c_p (r_mv rfl) rfl ?_
  refine c_p (r_not rfl) rfl ?_
  refine t_nil ?_
  refine t_then hK29 ?_
  rcases Bool.eq_false_or_eq_true y24.2 with hb30 | hb30
  · replace h := itT hb30 h
    refine t_F rfl (congrArg Bool.not hb30) ?_
    refine t_skip ?_
    refine t_then hK27 ?_
    refine t_seq fun K33 hK34 => ?_
    refine t_region ?_
    refine c_s (r_ldA a1 Try.underlying28 rfl ti28 rfl rfl) rfl ?_
    obtain ⟨y35, hy35, h⟩ := bs h
    refine nx (t_ca (C54 _ _ _ _ _ hy35) Try.func54 nm54 rfl rfl rfl .nil (fun w Z hA => (V1 a0 hA V0)) rfl fun t36 => ?_)
    refine nx (t_st u2 ti28 rfl rfl rfl rfl rfl (.t (.s (.s (.s .z)))) ?_)
    refine t_nil ?_
    refine t_then hK34 ?_
    refine t_seq fun K37 hK38 => ?_
    have J160 : ∀ (x157 : List api_Process) (x158 : Int) (x159 : Int), f_process_OpenFile_j4 y35 x157 x158 x159 = some r → T 42 c [] [[row 38 k_api_Process x157 (.slice t36.1 t36.2.1 t36.2.2)], [blk g18 [.int .i64 y35.Next, .int .i64 y35.NextSession, .slice t36.1 t36.2.1 t36.2.2] 28], [blk g19 [.int .i64 0, .int .i64 0, .slice none 0 0] 28], [blk g9 [.int .i64 0, .int .i64 0, .slice none 0 0] 28]] [(3, .pointer (some ⟨g18, 0, none⟩)), (6, .pointer (some ⟨g19, 0, none⟩)), (9, .int .i64 0), (12, .int .i64 x158), (13, .int .i64 x159)] K37 := by
      intro x157 x158 x159 h161
      unfold f_process_OpenFile_j4 at h161
      refine ti hK38 ?_
      refine t_seq fun K162 hK163 => ?_
      refine t_seq fun K164 hK165 => ?_
      refine t_region ?_
      refine c_p (r_mv rfl) rfl ?_
      refine c_p (r_i rfl rfl rfl) rfl ?_
      refine t_nil ?_
      refine t_then hK165 ?_
      rcases Bool.eq_false_or_eq_true (x159 != 0) with hb166 | hb166
      · replace h161 := itT hb166 h161
        refine t_T rfl hb166 ?_
        refine t_seq fun K167 hK168 => ?_
        refine t_region ?_
        refine c_p (r_bu (ps := []) (cs := [.int .i64 0, .int .i64 0, .slice none 0 0]) rfl (by kernel_rfl)) rfl ?_
        refine c_p (r_mv rfl) rfl ?_
        refine c_p (r_mv rfl) rfl ?_
        refine nx (t_st u2 ti28 rfl rfl rfl rfl rfl (.t (.s (.s (.s .z)))) ?_)
        refine c_p (r_as rfl) rfl ?_
        refine c_p (r_as rfl) rfl ?_
        refine t_nil ?_
        refine t_then hK168 ?_
        refine t_ret ?_
        refine tr (ret3 rfl (v_N rfl a2 Try.underlying28 rfl ti28 rfl) (v_t rfl) (v_t rfl) (t_bk hR15 ?_))
        refine t_nr 38 k_api_Process ?_
        exact t_go (J183 0 0 none 0 0 ([] : List api_Process) 0 x159 h161) ⟨rfl, rfl, rfl, rfl, trivial⟩ (.cons e4 (.cons e0 .nil)) (fun w Z hA => V0)
      · replace h161 := itF hb166 h161
        refine t_F rfl hb166 ?_
        refine t_skip ?_
        refine t_then hK163 ?_
        refine t_seq fun K169 hK170 => ?_
        refine t_region ?_
        refine c_s (r_ldA a1 Try.underlying28 rfl ti28 rfl rfl) rfl ?_
        refine c_p (r_mv rfl) rfl ?_
        refine nx (t_st u2 ti28 rfl rfl rfl rfl rfl (.t (.s (.s (.s .z)))) ?_)
        refine c_p (r_as rfl) rfl ?_
        refine c_p (r_as rfl) rfl ?_
        refine t_nil ?_
        refine t_then hK170 ?_
        refine t_ret ?_
        refine ret3 rfl (v_N rfl a2 Try.underlying28 rfl ti28 rfl) (v_t rfl) (v_t rfl) (t_bk hR15 ?_)
        exact t_go (J183 y35.Next y35.NextSession t36.1 t36.2.1 t36.2.2 x157 x158 0 h161) ⟨rfl, rfl, rfl, rfl, trivial⟩ (.cons e3 (.cons e0 .nil)) (fun w Z hA => V0)
    refine t_region ?_
    refine c_p (r_mv rfl) rfl ?_
    refine c_p (r_fa (off' := 2) Try.underlying28 rfl ti26 rfl rfl) rfl ?_
    refine c_s (r_ld a2 Try.underlying26 rfl rfl rfl) rfl ?_
    refine c_p (r_mv rfl) rfl ?_
    obtain ⟨el42, hel42, h⟩ := bs h
    refine t_qL a0 hel42 fun q39 hq40 hm41 => ?_
    refine c_p (r_idx hq40 hm41 hel42 Try.underlying26 ti38 rfl rfl) rfl ?_
    refine nx (t_in (args := [.pointer (some ⟨g18, 0, none⟩), .pointer (some q39)]) (cap := [.pointer (some ⟨g7, 0, none⟩), .pointer (some ⟨g8, 0, none⟩)]) (all := [.pointer (some ⟨g18, 0, none⟩), .pointer (some q39), .pointer (some ⟨g7, 0, none⟩), .pointer (some ⟨g8, 0, none⟩)]) rfl rfl Try.func52 nm52 rfl rfl rfl Try.ntmps52 rfl fun R43 k44 hk45 hR46 => ?_)
    have J154 : ∀ (p148 : Option Addr) (m149 : Nat) (c150 : Nat) (x151 : List api_Descriptor) (x152 : Int) (x153 : Int), f_process_OpenFile_j3 y24 y35 el42 x151 x152 x153 = some r → T 42 c [] [[row 81 k_api_Descriptor x151 (.slice p148 m149 c150)], [hole 38 k_api_Process y35.Processes y24.1.toNat [.int .i64 el42.PID, .int .i64 el42.PPID, .int .i64 el42.UID, .int .i64 el42.EUID, .int .i64 el42.GID, .int .i64 el42.EGID, .int .i64 el42.AUID, .int .i64 el42.Session, .int .i64 el42.Cwd.Dev, .int .i64 el42.Cwd.Ino, .string el42.Comm, .string el42.Exe, .slice p148 m149 c150, .bool el42.Audited] (.slice t36.1 t36.2.1 t36.2.2)], [blk g18 [.int .i64 y35.Next, .int .i64 y35.NextSession, .slice t36.1 t36.2.1 t36.2.2] 28], [blk g19 [.int .i64 0, .int .i64 0, .slice none 0 0] 28], [blk g9 [.int .i64 0, .int .i64 0, .slice none 0 0] 28]] [(3, .pointer (some ⟨g18, 0, none⟩)), (6, .pointer (some ⟨g19, 0, none⟩)), (9, .int .i64 0), (32, .tuple #[.int .i64 x152, .int .i64 x153])] k44 := by
      intro p148 m149 c150 x151 x152 x153 h155
      unfold f_process_OpenFile_j3 at h155
      refine ti hk45 ?_
      refine c_p (r_mv rfl) rfl ?_
      refine c_p (r_ex rfl rfl) rfl ?_
      refine c_p (r_ex rfl rfl) rfl ?_
      refine c_p (r_as rfl) rfl ?_
      refine c_p (r_as rfl) rfl ?_
      refine t_nil ?_
      refine t_cI (u := (⟨el42.PID, el42.PPID, el42.UID, el42.EUID, el42.GID, el42.EGID, el42.AUID, el42.Session, el42.Cwd, el42.Comm, el42.Exe, x151, el42.Audited⟩ : api_Process)) (t := (p148, m149, c150)) k_api_Process_shutsO (.cons e1 (.cons e0 .nil)) rfl (fun w Z hA => trivial) ?_
      have hn156 := at_set (u' := (⟨el42.PID, el42.PPID, el42.UID, el42.EUID, el42.GID, el42.EGID, el42.AUID, el42.Session, el42.Cwd, el42.Comm, el42.Exe, x151, el42.Audited⟩ : api_Process)) hel42
      exact t_norm (t_go (J160 (y35.Processes.set y24.1.toNat (⟨el42.PID, el42.PPID, el42.UID, el42.EUID, el42.GID, el42.EGID, el42.AUID, el42.Session, el42.Cwd, el42.Comm, el42.Exe, x151, el42.Audited⟩ : api_Process)) x152 x153 h155) ⟨rfl, rfl, rfl, rfl, rfl, trivial⟩ (.cons e0 (.cons e0 (.cons e0 (.cons e0 .nil)))) (fun w Z hA => V0))
    refine t_seq fun K47 hK48 => ?_
    refine t_region ?_
    refine c_p (r_as rfl) rfl ?_
    refine c_p (r_as rfl) rfl ?_
    refine t_nil ?_
    refine t_then hK48 ?_
    refine t_seq fun K49 hK50 => ?_
    refine t_seq fun K51 hK52 => ?_
    refine t_region ?_
    refine c_p (r_mv rfl) rfl ?_
    refine c_p (r_nc rfl) rfl ?_
    refine t_qf hq40 12 fun q53 hq54 => ?_
    refine c_p (r_fai hq40 hq54 Try.underlying38 rfl ti36 rfl rfl) rfl ?_
    refine t_oI k_api_Process_opensO e0 hel42 fun t55 => ?_
    refine c_s (r_h1 a0 hq54 Try.underlying36 rfl rfl rfl) rfl ?_
    refine c_s (r_lnL a1 Try.underlying36 rfl) rfl ?_
    refine c_p (r_i rfl rfl rfl) rfl ?_
    refine t_nil ?_
    refine t_then hK52 ?_
    rcases Bool.eq_false_or_eq_true (decide ((el42.Open.length : Int) ≥ 8)) with hb56 | hb56
    · replace h := itT hb56 h
      refine t_T rfl hb56 ?_
      refine t_seq fun K57 hK58 => ?_
      refine t_region ?_
      refine c_p (r_as rfl) rfl ?_
      refine c_p (r_as rfl) rfl ?_
      refine t_nil ?_
      refine t_then hK58 ?_
      refine t_ret ?_
      refine tr (ret2 rfl (v_t rfl) (v_t rfl) (t_bk hR46 ?_))
      exact t_go (J154 t55.1 t55.2.1 t55.2.2 el42.Open 0 24 h) ⟨rfl, rfl, rfl, rfl, trivial⟩ (.cons e1 (.cons e0 (.cons e1 (.cons e0 (.cons e0 .nil))))) (fun w Z hA => V0)
    · replace h := itF hb56 h
      refine t_F rfl hb56 ?_
      refine t_skip ?_
      refine t_then hK50 ?_
      refine t_seq fun K59 hK60 => ?_
      refine t_region ?_
      refine c_p (r_as rfl) rfl ?_
      refine t_nil ?_
      refine t_then hK60 ?_
      refine t_seq fun K61 hK62 => ?_
      have J124 : ∀ (x123 : Int), f_process_OpenFile_j1 z2 z3 y24 y35 el42 x123 = some r → T 51 c [] [[row 81 k_api_Descriptor el42.Open (.slice t55.1 t55.2.1 t55.2.2)], [hole 38 k_api_Process y35.Processes y24.1.toNat [.int .i64 el42.PID, .int .i64 el42.PPID, .int .i64 el42.UID, .int .i64 el42.EUID, .int .i64 el42.GID, .int .i64 el42.EGID, .int .i64 el42.AUID, .int .i64 el42.Session, .int .i64 el42.Cwd.Dev, .int .i64 el42.Cwd.Ino, .string el42.Comm, .string el42.Exe, .slice t55.1 t55.2.1 t55.2.2, .bool el42.Audited] (.slice t36.1 t36.2.1 t36.2.2)], [blk g7 [.int .i64 z2.Dev, .int .i64 z2.Ino] 31], [blk g8 [.int .i64 z3] 3], [blk g18 [.int .i64 y35.Next, .int .i64 y35.NextSession, .slice t36.1 t36.2.1 t36.2.2] 28], [blk g19 [.int .i64 0, .int .i64 0, .slice none 0 0] 28], [blk g9 [.int .i64 0, .int .i64 0, .slice none 0 0] 28]] [(1, .pointer (some q39)), (2, .pointer (some ⟨g7, 0, none⟩)), (3, .pointer (some ⟨g8, 0, none⟩)), (8, .int .i64 x123)] K61 := by
        intro x123 h125
        unfold f_process_OpenFile_j1 at h125
        refine ti hK62 ?_
        refine t_seq fun K126 hK127 => ?_
        refine t_draw mixed (fun w_ => Bk g7 [.int .i64 z2.Dev, .int .i64 z2.Ino] w_ ∧ Bk g8 [.int .i64 z3] w_ ∧ True) [7, 8] [4, 10, 11, 14] rfl ?_
        refine q_p 0 (panic_then panic_body) rfl (by kernel_rfl) W0 (r_mv rfl) rfl ?_
        refine q_p 1 (panic_then panic_body) rfl (by kernel_rfl) W0 (r_mv rfl) rfl ?_
        refine q_p 2 (panic_then panic_body) rfl (by kernel_rfl) W0 (r_nc rfl) rfl ?_
        refine t_qf hq40 12 fun q128 hq129 => ?_
        refine q_p 3 (panic_then panic_body) rfl (by kernel_rfl) W0 (r_fai hq40 hq129 Try.underlying38 rfl ti36 rfl rfl) rfl ?_
        refine q_p 5 (panic_then panic_body) rfl (by kernel_rfl) W0 (r_mv rfl) rfl ?_
        refine q_p 6 (panic_then panic_body) rfl (by kernel_rfl) W0 (r_mv rfl) rfl ?_
        refine q_s 7 (panic_then panic_body) rfl (by kernel_rfl) W0 (by kernel_rfl) (fun w H => ⟨bk a2 H, bk a3 H, trivial⟩) (b_ldN (fun _ h => h.1) Try.underlying31 rfl ti31 rfl (.t (.s (.s .z)))) rfl ?_
        refine q_s 8 (panic_then panic_body) rfl (by kernel_rfl) W0 (by kernel_rfl) (fun w H => ⟨bk a2 H, bk a3 H, trivial⟩) (b_ld (fun _ h => h.2.1) Try.underlying3 rfl rfl rfl) rfl ?_
        refine q_p 9 (panic_then panic_body) rfl (by kernel_rfl) W0 (r_bu (ps := [(0, .int .i64 x123), (1, .agg #[.int .i64 z2.Dev, .int .i64 z2.Ino]), (2, .int .i64 z3)]) (cs := [.int .i64 x123, .int .i64 z2.Dev, .int .i64 z2.Ino, .int .i64 z3]) rfl (by kernel_rfl)) rfl ?_
        have J144 : ∀ (p140 : Option Addr) (m141 : Nat) (c142 : Nat) (x143 : List api_Descriptor), f_process_OpenFile_j2 y24 y35 el42 x123 x143 = some r → T 51 c [] [[row 81 k_api_Descriptor x143 (.slice p140 m141 c142)], [hole 38 k_api_Process y35.Processes y24.1.toNat [.int .i64 el42.PID, .int .i64 el42.PPID, .int .i64 el42.UID, .int .i64 el42.EUID, .int .i64 el42.GID, .int .i64 el42.EGID, .int .i64 el42.AUID, .int .i64 el42.Session, .int .i64 el42.Cwd.Dev, .int .i64 el42.Cwd.Ino, .string el42.Comm, .string el42.Exe, .slice p140 m141 c142, .bool el42.Audited] (.slice t36.1 t36.2.1 t36.2.2)], [blk g18 [.int .i64 y35.Next, .int .i64 y35.NextSession, .slice t36.1 t36.2.1 t36.2.2] 28], [blk g19 [.int .i64 0, .int .i64 0, .slice none 0 0] 28], [blk g9 [.int .i64 0, .int .i64 0, .slice none 0 0] 28]] [(8, .int .i64 x123)] K126 := by
          intro p140 m141 c142 x143 h145
          unfold f_process_OpenFile_j2 at h145
          refine t_fold ?_
          refine t_then hK127 ?_
          refine t_seq fun K146 hK147 => ?_
          refine t_region ?_
          refine c_p (r_mv rfl) rfl ?_
          refine c_p (r_as rfl) rfl ?_
          refine c_p (r_as rfl) rfl ?_
          refine t_nil ?_
          refine t_then hK147 ?_
          refine t_ret ?_
          refine ret2 rfl (v_t rfl) (v_t rfl) (t_bk hR46 ?_)
          exact t_go (J154 p140 m141 c142 x143 x123 0 h145) ⟨rfl, rfl, rfl, rfl, trivial⟩ (.cons e0 (.cons e0 (.cons e0 (.cons e0 (.cons e0 .nil))))) (fun w Z hA => V0)
        refine d2 4 10 rfl rfl (by kernel_rfl) (by kernel_rfl) ?_ ?_
        · refine ss (r_h1 a1 hq129 Try.underlying36 rfl rfl rfl) rfl ?_
          refine dk (fun w H => ⟨bk a2 H, bk a3 H, trivial⟩) ?_
          refine d1 10 rfl (by kernel_rfl) (by kernel_rfl) ?_
          refine t_bs (ps := [(0, .agg #[.int .i64 x123, .int .i64 z2.Dev, .int .i64 z2.Ino, .int .i64 z3])]) (cs := [.int .i64 x123, .int .i64 z2.Dev, .int .i64 z2.Ino, .int .i64 z3]) Try.underlying36 ti81 rfl rfl (by kernel_rfl) rfl fun g130 => ?_
          refine dn (by kernel_rfl) ?_
          refine d1 11 rfl (by kernel_rfl) (by kernel_rfl) ?_
          refine t_tr (Kd := k_api_Descriptor) (xs := [(⟨x123, z2, z3⟩ : api_Descriptor)]) (.cons e0 .nil) rfl (fun w Z S hA hN => flat_EO (S := Nil) k_api_Descriptor_flatK (er1 (c1 := [.int .i64 x123, .int .i64 z2.Dev, .int .i64 z2.Ino, .int .i64 z3]) (k_api_Descriptor_shuts (x := (⟨x123, z2, z3⟩ : api_Descriptor)) (t := ()) trivial) er0)) ?_
          obtain ⟨y131, hy131, h125⟩ := bs h125
          refine t_ca (C53 _ _ _ _ _ _ _ _ _ _ hy131) Try.func53 nm53 rfl rfl rfl (.cons e1 (.cons e0 .nil)) (fun w Z hA => V0) rfl fun t132 => ?_
          refine dn (by kernel_rfl) ?_
          refine q_p 12 (panic_then panic_body) rfl (by kernel_rfl) W0 (r_nc rfl) rfl ?_
          refine t_qf hq40 12 fun q133 hq134 => ?_
          refine q_p 13 (panic_then panic_body) rfl (by kernel_rfl) W0 (r_fai hq40 hq134 Try.underlying38 rfl ti36 rfl rfl) rfl ?_
          refine d1 14 rfl (by kernel_rfl) (by kernel_rfl) ?_
          refine t_hs u1 hq134 ti36 rfl rfl rfl rfl rfl (.s (.s (.s (.s (.s (.s (.s (.s (.s (.s (.s (.s (.t (.s .z)))))))))))))) ?_
          refine dn (by kernel_rfl) ?_
          refine dz (by kernel_rfl) ?_
          exact t_norm (t_go (J144 t132.1 t132.2.1 t132.2.2 y131 h125) ⟨rfl, trivial⟩ (.cons e0 (.cons e0 (.cons e2 (.cons e2 (.cons e2 .nil))))) (fun w Z hA => V0))
        · refine t_bs (ps := [(0, .agg #[.int .i64 x123, .int .i64 z2.Dev, .int .i64 z2.Ino, .int .i64 z3])]) (cs := [.int .i64 x123, .int .i64 z2.Dev, .int .i64 z2.Ino, .int .i64 z3]) Try.underlying36 ti81 rfl rfl (by kernel_rfl) rfl fun g135 => ?_
          refine dn (by kernel_rfl) ?_
          refine d1 4 rfl (by kernel_rfl) (by kernel_rfl) ?_
          refine ss (r_h1 a2 hq129 Try.underlying36 rfl rfl rfl) rfl ?_
          refine dk (fun w H => ⟨bk a3 H, bk a4 H, trivial⟩) ?_
          refine d1 11 rfl (by kernel_rfl) (by kernel_rfl) ?_
          refine t_tr (Kd := k_api_Descriptor) (xs := [(⟨x123, z2, z3⟩ : api_Descriptor)]) (.cons e0 .nil) rfl (fun w Z S hA hN => flat_EO (S := Nil) k_api_Descriptor_flatK (er1 (c1 := [.int .i64 x123, .int .i64 z2.Dev, .int .i64 z2.Ino, .int .i64 z3]) (k_api_Descriptor_shuts (x := (⟨x123, z2, z3⟩ : api_Descriptor)) (t := ()) trivial) er0)) ?_
          obtain ⟨y136, hy136, h125⟩ := bs h125
          refine t_ca (C53 _ _ _ _ _ _ _ _ _ _ hy136) Try.func53 nm53 rfl rfl rfl (.cons e1 (.cons e0 .nil)) (fun w Z hA => V0) rfl fun t137 => ?_
          refine dn (by kernel_rfl) ?_
          refine q_p 12 (panic_then panic_body) rfl (by kernel_rfl) W0 (r_nc rfl) rfl ?_
          refine t_qf hq40 12 fun q138 hq139 => ?_
          refine q_p 13 (panic_then panic_body) rfl (by kernel_rfl) W0 (r_fai hq40 hq139 Try.underlying38 rfl ti36 rfl rfl) rfl ?_
          refine d1 14 rfl (by kernel_rfl) (by kernel_rfl) ?_
          refine t_hs u1 hq139 ti36 rfl rfl rfl rfl rfl (.s (.s (.s (.s (.s (.s (.s (.s (.s (.s (.s (.s (.t (.s .z)))))))))))))) ?_
          refine dn (by kernel_rfl) ?_
          refine dz (by kernel_rfl) ?_
          exact t_norm (t_go (J144 t137.1 t137.2.1 t137.2.2 y136 h125) ⟨rfl, trivial⟩ (.cons e0 (.cons e0 (.cons e2 (.cons e2 (.cons e2 .nil))))) (fun w Z hA => V0))
      refine t_block ?_
      refine t_lp fun k99 hk100 => ?_
      have LP102 : ∀ (k104 : Nat) (x101 : Int), f_process_OpenFile_l1 z2 z3 y24 y35 el42 k104 x101 = some r → T 51 c [] [[row 81 k_api_Descriptor el42.Open (.slice t55.1 t55.2.1 t55.2.2)], [hole 38 k_api_Process y35.Processes y24.1.toNat [.int .i64 el42.PID, .int .i64 el42.PPID, .int .i64 el42.UID, .int .i64 el42.EUID, .int .i64 el42.GID, .int .i64 el42.EGID, .int .i64 el42.AUID, .int .i64 el42.Session, .int .i64 el42.Cwd.Dev, .int .i64 el42.Cwd.Ino, .string el42.Comm, .string el42.Exe, .slice t55.1 t55.2.1 t55.2.2, .bool el42.Audited] (.slice t36.1 t36.2.1 t36.2.2)], [blk g7 [.int .i64 z2.Dev, .int .i64 z2.Ino] 31], [blk g8 [.int .i64 z3] 3], [blk g18 [.int .i64 y35.Next, .int .i64 y35.NextSession, .slice t36.1 t36.2.1 t36.2.2] 28], [blk g19 [.int .i64 0, .int .i64 0, .slice none 0 0] 28], [blk g9 [.int .i64 0, .int .i64 0, .slice none 0 0] 28]] [(1, .pointer (some q39)), (2, .pointer (some ⟨g7, 0, none⟩)), (3, .pointer (some ⟨g8, 0, none⟩)), (8, .int .i64 x101)] k99 := by
        intro k104
        induction k104 with
        | zero => intro x101 h103; rewrite [f_process_OpenFile_l1] at h103; cases h103
        | succ k104 ih105 =>
          intro x101 h103
          rewrite [f_process_OpenFile_l1] at h103
          refine ti hk100 ?_
          refine t_seq fun K106 hK107 => ?_
          refine t_seq fun K108 hK109 => ?_
          refine t_region ?_
          refine c_p (r_mv rfl) rfl ?_
          refine c_p (r_mv rfl) rfl ?_
          refine c_p (r_nc rfl) rfl ?_
          refine t_qf hq40 12 fun q110 hq111 => ?_
          refine c_p (r_fai hq40 hq111 Try.underlying38 rfl ti36 rfl rfl) rfl ?_
          refine c_s (r_h1 a1 hq111 Try.underlying36 rfl rfl rfl) rfl ?_
          refine c_s (r_lnL a0 Try.underlying36 rfl) rfl ?_
          refine c_p (r_i rfl rfl rfl) rfl ?_
          refine c_p (r_mv rfl) rfl ?_
          rcases Bool.eq_false_or_eq_true (decide (x101 < (el42.Open.length : Int))) with hb112 | hb112
          · replace h103 := itT hb112 h103
            refine nx (gd rfl rfl hb112 (sp (r_mv rfl) rfl ?_))
            refine nx (gd rfl rfl hb112 (sp (r_nc rfl) rfl ?_))
            refine t_qf hq40 12 fun q113 hq114 => ?_
            refine nx (gd rfl rfl hb112 (sp (r_fai hq40 hq114 Try.underlying38 rfl ti36 rfl rfl) rfl ?_))
            refine nx (gd rfl rfl hb112 (ss (r_h1 a1 hq114 Try.underlying36 rfl rfl rfl) rfl ?_))
            refine nx (gd rfl rfl hb112 (sp (r_mv rfl) rfl ?_))
            obtain ⟨el118, hel118, h103⟩ := bs h103
            refine t_qL a0 hel118 fun q115 hq116 hm117 => ?_
            refine nx (gd rfl rfl hb112 (sp (r_idx hq116 hm117 hel118 Try.underlying36 ti81 rfl rfl) rfl ?_))
            refine t_qf hq116 0 fun q119 hq120 => ?_
            refine nx (gd rfl rfl hb112 (sp (r_fai hq116 hq120 Try.underlying81 rfl ti3 rfl rfl) rfl ?_))
            refine t_oI k_api_Descriptor_opensO e0 hel118 fun t121 => ?_
            refine nx (gd rfl rfl hb112 (ss (r_h1 a0 hq120 Try.underlying3 rfl rfl rfl) rfl ?_))
            refine nx (gd rfl rfl hb112 (sp (r_mv rfl) rfl ?_))
            refine nx (gd rfl rfl hb112 (sp (r_i rfl rfl rfl) rfl ?_))
            refine c_p (r_pT rfl hb112 rfl) rfl ?_
            refine t_nil ?_
            refine t_then hK109 ?_
            rcases Bool.eq_false_or_eq_true (el118.FD == x101) with hb122 | hb122
            · replace h103 := itT hb122 h103
              refine t_T rfl hb122 ?_
              refine t_skip ?_
              refine t_then hK107 ?_
              refine t_block ?_
              refine t_region ?_
              refine c_p (r_mv rfl) rfl ?_
              refine c_p (r_i rfl rfl rfl) rfl ?_
              refine c_p (r_as rfl) rfl ?_
              refine t_nil ?_
              refine t_blockN ?_
              refine t_cS (u := el118) (t := ()) k_api_Descriptor_shutsO hel118 (.cons e0 .nil) rfl (fun w Z hA => trivial) ?_
              exact t_norm (t_go (ih105 (IntKind.wrap .i64 (x101 + 1)) h103) ⟨rfl, rfl, rfl, rfl, trivial⟩ (.cons e0 (.cons e0 (.cons e0 (.cons e0 (.cons e0 (.cons e0 (.cons e0 .nil))))))) (fun w Z hA => V0))
            · replace h103 := itF hb122 h103
              refine t_F rfl hb122 ?_
              refine t_exit ?_
              refine te (te (bx ?_))
              refine t_cS (u := el118) (t := ()) k_api_Descriptor_shutsO hel118 (.cons e0 .nil) rfl (fun w Z hA => trivial) ?_
              exact t_norm (t_go (J124 x101 h103) ⟨rfl, rfl, rfl, rfl, trivial⟩ (.cons e0 (.cons e0 (.cons e0 (.cons e0 (.cons e0 (.cons e0 (.cons e0 .nil))))))) (fun w Z hA => V0))
          · replace h103 := itF hb112 h103
            refine nx (pass rfl rfl hb112 rfl ?_)
            refine nx (pass rfl rfl hb112 rfl ?_)
            refine nx (pass rfl rfl hb112 rfl ?_)
            refine nx (pass rfl rfl hb112 rfl ?_)
            refine nx (pass rfl rfl hb112 rfl ?_)
            refine nx (pass rfl rfl hb112 rfl ?_)
            refine nx (pass rfl rfl hb112 rfl ?_)
            refine nx (pass rfl rfl hb112 rfl ?_)
            refine nx (pass rfl rfl hb112 rfl ?_)
            refine nx (pass rfl rfl hb112 rfl ?_)
            refine c_p (r_pF rfl hb112 rfl) rfl ?_
            refine t_nil ?_
            refine t_then hK109 ?_
            refine t_F rfl rfl ?_
            refine t_exit ?_
            refine te (te (bx ?_))
            exact t_norm (t_go (J124 x101 h103) ⟨rfl, rfl, rfl, rfl, trivial⟩ (.cons e0 (.cons e0 (.cons e0 (.cons e0 (.cons e0 (.cons e0 (.cons e0 .nil))))))) (fun w Z hA => V0))
      exact t_go (LP102 ((((el42.Open.length : Int) : Int) - (0)).toNat + 1) 0 h) ⟨rfl, rfl, rfl, rfl, trivial⟩ (.cons e1 (.cons e0 (.cons e4 (.cons e3 (.cons e1 (.cons e0 (.cons e0 .nil))))))) (fun w Z hA => V0)
  · replace h := itF hb30 h
    refine t_T rfl (congrArg Bool.not hb30) ?_
    refine t_seq fun K31 hK32 => ?_
    refine t_region ?_
    refine c_p (r_bu (ps := []) (cs := [.int .i64 0, .int .i64 0, .slice none 0 0]) rfl (by kernel_rfl)) rfl ?_
    refine c_p (r_mv rfl) rfl ?_
    refine nx (t_st u0 ti28 rfl rfl rfl rfl rfl (.t (.s (.s (.s .z)))) ?_)
    refine c_p (r_as rfl) rfl ?_
    refine c_p (r_as rfl) rfl ?_
    refine t_nil ?_
    refine t_then hK32 ?_
    refine t_ret ?_
    refine tr (ret3 rfl (v_N rfl a0 Try.underlying28 rfl ti28 rfl) (v_t rfl) (v_t rfl) (t_bk hR15 ?_))
    refine t_nr 38 k_api_Process ?_
    exact t_go (J183 0 0 none 0 0 ([] : List api_Process) 0 3 h) ⟨rfl, rfl, rfl, rfl, trivial⟩ (.cons e3 (.cons e0 .nil)) (fun w Z hA => V0)
end Go.Proofs.Ytanimjbmkhpnaaa.Gx
