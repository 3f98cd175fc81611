/- Function 26, kaudit/kauditref09.Get: what it answers as a plain function, and that the Go code comes to exactly that (where the plain function gives an answer). -/
import Derived.Test.YtanimjbmkhpnaaaYT
import Derived.Test.YtanimjbmkhpnaaaY33
set_option linter.unusedVariables false
set_option linter.unusedSimpArgs false
namespace Go.Proofs.Ytanimjbmkhpnaaa.Gx
open Go.Gx Go.RowKit
/-! ### kaudit/kauditref09.Get: function 26 -/
def f_kauditref09_Get_l1 (z0 : api_Table) (z1 : Int) : Nat → Int → Option (api_Process × Bool)
  | 0, _ => none
  | k69 + 1, x66 => if (decide (x66 < (z0.Processes.length : Int))) = true then ((at_ z0.Processes x66).bind fun el83 => if (el83.PID == z1) = true then ((f_kauditref09_CopyProcess el83).bind fun y94 => some (y94, true)) else (f_kauditref09_Get_l1 z0 z1 k69 (IntKind.wrap .i64 (x66 + 1)))) else (some ((⟨0, 0, 0, 0, 0, 0, 0, 0, (⟨0, 0⟩ : api_File), (⟨#[]⟩ : ByteArray), (⟨#[]⟩ : ByteArray), ([] : List api_Descriptor), false⟩ : api_Process), false))
def f_kauditref09_Get (z0 : api_Table) (z1 : Int) : Option (api_Process × Bool) := f_kauditref09_Get_l1 z0 z1 ((((z0.Processes.length : Int) : Int) - (0)).toNat + 1) 0
set_option maxHeartbeats 4000000 in
set_option maxRecDepth 100000 in
theorem C26 (z0 : api_Table) (z1 : Int) (p1 : Option Addr) (m2 : Nat) (c3 : Nat) (r : api_Process × Bool) (h : f_kauditref09_Get z0 z1 = some r) : FunG Try.prog 26 #[.agg #[.int .i64 z0.Next, .int .i64 z0.NextSession, .slice p1 m2 c3], .int .i64 z1] [vw (kSlice 38 k_api_Process) z0.Processes [.slice p1 m2 c3]] [] (fun t : (Option Addr × Nat × Nat) => .tuple #[.agg #[.int .i64 r.1.PID, .int .i64 r.1.PPID, .int .i64 r.1.UID, .int .i64 r.1.EUID, .int .i64 r.1.GID, .int .i64 r.1.EGID, .int .i64 r.1.AUID, .int .i64 r.1.Session, .int .i64 r.1.Cwd.Dev, .int .i64 r.1.Cwd.Ino, .string r.1.Comm, .string r.1.Exe, .slice t.1 t.2.1 t.2.2, .bool r.1.Audited], .bool r.2]) (fun t => []) (fun t => [[row 81 k_api_Descriptor r.1.Open (.slice t.1 t.2.1 t.2.2)]]) := by
  unfold f_kauditref09_Get at h
  refine t_begin (args := [.agg #[.int .i64 z0.Next, .int .i64 z0.NextSession, .slice p1 m2 c3], .int .i64 z1]) Try.func26 rfl Try.ntmps26 rfl fun c R hR => ?_
  have hQ : ∀ X, X = r → ∀ w2 (t : (Option Addr × Nat × Nat)), PostG c.w0 w2 c.M c.Y [] [[row 81 k_api_Descriptor X.1.Open (.slice t.1 t.2.1 t.2.2)]] → R (.returned (.tuple #[.agg #[.int .i64 X.1.PID, .int .i64 X.1.PPID, .int .i64 X.1.UID, .int .i64 X.1.EUID, .int .i64 X.1.GID, .int .i64 X.1.EGID, .int .i64 X.1.AUID, .int .i64 X.1.Session, .int .i64 X.1.Cwd.Dev, .int .i64 X.1.Cwd.Ino, .string X.1.Comm, .string X.1.Exe, .slice t.1 t.2.1 t.2.2, .bool X.1.Audited], .bool X.2])) w2 := fun X e => by subst e; exact hR
  refine t_seq fun K4 hK5 => ?_
  refine t_region ?_
  refine nx (t_bx (cs := [.int .i64 z0.Next, .int .i64 z0.NextSession, .slice p1 m2 c3]) rfl rfl rfl fun g6 => ?_)
  refine nx (t_al (cs := [.int .i64 0, .int .i64 0, .int .i64 0, .int .i64 0, .int .i64 0, .int .i64 0, .int .i64 0, .int .i64 0, .int .i64 0, .int .i64 0, .string (⟨#[]⟩ : ByteArray), .string (⟨#[]⟩ : ByteArray), .slice none 0 0, .bool false]) ti38 rfl rfl fun g7 => ?_)
  refine c_p (r_as rfl) rfl ?_
  refine t_nil ?_
  refine t_then hK5 ?_
  refine t_seq fun K8 hK9 => ?_
  refine t_seq fun K10 hK11 => ?_
  refine t_region ?_
  refine c_p (r_as rfl) rfl ?_
  refine t_nil ?_
  refine t_then hK11 ?_
  refine t_block ?_
  refine t_lp fun k64 hk65 => ?_
  have LP67 : ∀ (k69 : Nat) (x66 : Int), f_kauditref09_Get_l1 z0 z1 k69 x66 = some r → T 29 c [vw (kSlice 38 k_api_Process) z0.Processes [.slice p1 m2 c3]] [[blk g6 [.int .i64 z0.Next, .int .i64 z0.NextSession, .slice p1 m2 c3] 28], [blk g7 [.int .i64 0, .int .i64 0, .int .i64 0, .int .i64 0, .int .i64 0, .int .i64 0, .int .i64 0, .int .i64 0, .int .i64 0, .int .i64 0, .string (⟨#[]⟩ : ByteArray), .string (⟨#[]⟩ : ByteArray), .slice none 0 0, .bool false] 38]] [(1, .int .i64 z1), (2, .pointer (some ⟨g6, 0, none⟩)), (4, .pointer (some ⟨g7, 0, none⟩)), (6, .int .i64 x66)] k64 := by
    intro k69
    induction k69 with
    | zero => intro x66 h68; rewrite [f_kauditref09_Get_l1] at h68; cases h68
    | succ k69 ih70 =>
      intro x66 h68
      rewrite [f_kauditref09_Get_l1] at h68
      refine ti hk65 ?_
      refine t_seq fun K71 hK72 => ?_
      refine t_seq fun K73 hK74 => ?_
      refine t_region ?_
      refine c_p (r_mv rfl) rfl ?_
      refine c_p (r_fa (off' := 2) Try.underlying28 rfl ti26 rfl rfl) rfl ?_
      refine c_s (r_ld a0 Try.underlying26 rfl rfl rfl) rfl ?_
      refine c_s (r_lnA a0 Try.underlying26 rfl) rfl ?_
      refine c_p (r_i rfl rfl rfl) rfl ?_
      refine t_nil ?_
      refine t_then hK74 ?_
      rcases Bool.eq_false_or_eq_true (decide (x66 < (z0.Processes.length : Int))) with hb75 | hb75
      · replace h68 := itT hb75 h68
        refine t_T rfl hb75 ?_
        refine t_skip ?_
        refine t_then hK72 ?_
        refine t_seq fun K76 hK77 => ?_
        refine t_block ?_
        refine t_seq fun K78 hK79 => ?_
        refine t_region ?_
        refine c_p (r_fa (off' := 2) Try.underlying28 rfl ti26 rfl rfl) rfl ?_
        refine c_s (r_ld a0 Try.underlying26 rfl rfl rfl) rfl ?_
        refine c_p (r_mv rfl) rfl ?_
        obtain ⟨el83, hel83, h68⟩ := bs h68
        refine t_q a0 hel83 fun q80 hq81 hm82 => ?_
        refine c_p (r_idx hq81 hm82 hel83 Try.underlying26 ti38 rfl rfl) rfl ?_
        refine t_qf hq81 0 fun q84 hq85 => ?_
        refine c_p (r_fai hq81 hq85 Try.underlying38 rfl ti3 rfl rfl) rfl ?_
        refine t_op k_api_Process_opens a0 hel83 fun t86 => ?_
        refine c_s (r_e1 a1 hq85 Try.underlying3 rfl rfl rfl) rfl ?_
        refine c_p (r_mv rfl) rfl ?_
        refine c_p (r_i rfl rfl rfl) rfl ?_
        refine t_nil ?_
        refine t_then hK79 ?_
        rcases Bool.eq_false_or_eq_true (el83.PID == z1) with hb87 | hb87
        · replace h68 := itT hb87 h68
          refine t_T rfl hb87 ?_
          refine t_seq fun K88 hK89 => ?_
          refine t_region ?_
          refine c_p (r_fa (off' := 2) Try.underlying28 rfl ti26 rfl rfl) rfl ?_
          refine c_s (r_ld a0 Try.underlying26 rfl rfl rfl) rfl ?_
          refine c_p (r_mv rfl) rfl ?_
          refine t_q a2 hel83 fun q90 hq91 hm92 => ?_
          refine c_p (r_idx hq91 hm92 hel83 Try.underlying26 ti38 rfl rfl) rfl ?_
          refine t_op k_api_Process_opens a2 hel83 fun t93 => ?_
          refine c_s (r_eA a1 hq91 Try.underlying38 rfl ti38 rfl rfl) rfl ?_
          obtain ⟨y94, hy94, h68⟩ := bs h68
          refine nx (t_ca (C33 _ _ _ _ _ hy94) Try.func33 nm33 rfl rfl rfl .nil (fun w Z hA => (V1 a0 hA V0)) rfl fun t95 => ?_)
          refine nx (t_st u2 ti38 rfl rfl rfl rfl rfl (.t (.s (.s (.s (.s (.s (.s (.s (.s (.s (.s (.s (.s (.s (.s .z))))))))))))))) ?_)
          refine c_p (r_as rfl) rfl ?_
          refine t_nil ?_
          refine t_then hK89 ?_
          refine t_ret ?_
          exact br (tr (tr (br (tr (ret2 rfl (v_N rfl a2 Try.underlying38 rfl ti38 rfl) (v_t rfl) (t_leave (hQ _ (Option.some.inj h68)) (t95.1, t95.2.1, t95.2.2) rfl (fun w Z hA => V0) (.cons e0 .nil)))))))
        · replace h68 := itF hb87 h68
          refine t_F rfl hb87 ?_
          refine t_skip ?_
          refine t_blockN ?_
          refine t_then hK77 ?_
          refine t_region ?_
          refine c_p (r_mv rfl) rfl ?_
          refine c_p (r_i rfl rfl rfl) rfl ?_
          refine c_p (r_as rfl) rfl ?_
          refine t_nil ?_
          exact t_norm (t_go (ih70 (IntKind.wrap .i64 (x66 + 1)) h68) ⟨rfl, rfl, rfl, rfl, trivial⟩ (.cons e0 (.cons e0 .nil)) (fun w Z hA => V1 a2 hA (V0)))
      · replace h68 := itF hb75 h68
        refine t_F rfl hb75 ?_
        refine t_exit ?_
        refine te (te (bx ?_))
        refine t_then hK9 ?_
        refine t_seq fun K96 hK97 => ?_
        refine t_region ?_
        refine c_p (r_bu (ps := []) (cs := [.int .i64 0, .int .i64 0, .int .i64 0, .int .i64 0, .int .i64 0, .int .i64 0, .int .i64 0, .int .i64 0, .int .i64 0, .int .i64 0, .string (⟨#[]⟩ : ByteArray), .string (⟨#[]⟩ : ByteArray), .slice none 0 0, .bool false]) rfl (by kernel_rfl)) rfl ?_
        refine nx (t_st u1 ti38 rfl rfl rfl rfl rfl (.t (.s (.s (.s (.s (.s (.s (.s (.s (.s (.s (.s (.s (.s (.s .z))))))))))))))) ?_)
        refine c_p (r_as rfl) rfl ?_
        refine t_nil ?_
        refine t_then hK97 ?_
        refine t_ret ?_
        refine t_nr 81 k_api_Descriptor ?_
        exact ret2 rfl (v_N rfl a2 Try.underlying38 rfl ti38 rfl) (v_t rfl) (t_leave (hQ _ (Option.some.inj h68)) (none, 0, 0) rfl (fun w Z hA => V0) (.cons e0 .nil))
  exact t_go (LP67 ((((z0.Processes.length : Int) : Int) - (0)).toNat + 1) 0 h) ⟨rfl, rfl, rfl, rfl, trivial⟩ (.cons e1 (.cons e0 .nil)) (fun w Z hA => V1 a0 hA (V0))
end Go.Proofs.Ytanimjbmkhpnaaa.Gx
