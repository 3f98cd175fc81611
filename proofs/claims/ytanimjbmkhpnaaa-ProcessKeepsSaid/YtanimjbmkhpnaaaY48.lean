/- Function 48, kaudit/kauditref09.process: what it answers as a plain function, and that the Go code comes to exactly that (where the plain function gives an answer). -/
import Derived.Test.YtanimjbmkhpnaaaYT
import Derived.Test.YtanimjbmkhpnaaaY26
import Derived.Test.YtanimjbmkhpnaaaY65
set_option linter.unusedVariables false
set_option linter.unusedSimpArgs false
namespace Go.Proofs.Ytanimjbmkhpnaaa.Gx
open Go.Gx Go.RowKit
/-! ### kaudit/kauditref09.process: function 48 -/
def f_kauditref09_process_l1 (el12 : api_Process) : Nat → Int → Option (Bool)
  | 0, _ => none
  | k205 + 1, x202 => if (decide (x202 < (el12.Open.length : Int))) = true then ((at_ el12.Open x202).bind fun el219 => if (decide (el219.FD < 0)) = true then (some false) else (if (decide (el219.FD ≥ 8)) = true then (some false) else (if (decide (x202 > 0)) = true then ((at_ el12.Open (IntKind.wrap .i64 (x202 - 1))).bind fun el235 => if (decide (el235.FD ≥ el219.FD)) = true then (some false) else (f_kauditref09_process_l1 el12 k205 (IntKind.wrap .i64 (x202 + 1)))) else (f_kauditref09_process_l1 el12 k205 (IntKind.wrap .i64 (x202 + 1)))))) else (some true)
def f_kauditref09_process_j3 (el12 : api_Process) : Option (Bool) := f_kauditref09_process_l1 el12 ((((el12.Open.length : Int) : Int) - (0)).toNat + 1) 0
def f_kauditref09_process_j2 (z0 : api_Table) (el12 : api_Process) : Option (Bool) := (f_kauditref09_identity el12.UID).bind fun y86 => if y86 = true then ((f_kauditref09_identity el12.EUID).bind fun y89 => if y89 = true then ((f_kauditref09_identity el12.GID).bind fun y92 => if y92 = true then ((f_kauditref09_identity el12.EGID).bind fun y95 => if y95 = true then (if (decide (el12.AUID < 0)) = true then (some false) else (if (decide (el12.AUID > 4294967295)) = true then (some false) else (if (el12.Session != 4294967295) = true then (if (decide (el12.Session < 0)) = true then (some false) else (if (decide (el12.Session ≥ z0.NextSession)) = true then (some false) else (f_kauditref09_process_j3 el12))) else (f_kauditref09_process_j3 el12)))) else (some false)) else (some false)) else (some false)) else (some false)
def f_kauditref09_process_j1 (z0 : api_Table) (z1 : Int) (el12 : api_Process) : Option (Bool) := if (decide (z1 > 0)) = true then ((f_kauditref09_Get z0 el12.PPID).bind fun y69 => if y69.2 = true then (if (decide (el12.PPID ≥ el12.PID)) = true then (some false) else (f_kauditref09_process_j2 z0 el12)) else (some false)) else (f_kauditref09_process_j2 z0 el12)
def f_kauditref09_process (z0 : api_Table) (z1 : Int) : Option (Bool) := (at_ z0.Processes z1).bind fun el12 => if (z1 == 0) = true then (if (el12.PID != 1) = true then (some false) else (if (el12.PPID != 0) = true then (some false) else (if (decide (z1 > 0)) = true then ((at_ z0.Processes (IntKind.wrap .i64 (z1 - 1))).bind fun el27 => if (decide (el27.PID ≥ el12.PID)) = true then (some false) else (if (decide (el12.PID ≥ z0.Next)) = true then (some false) else (f_kauditref09_process_j1 z0 z1 el12))) else (if (decide (el12.PID ≥ z0.Next)) = true then (some false) else (f_kauditref09_process_j1 z0 z1 el12))))) else (if (decide (z1 > 0)) = true then ((at_ z0.Processes (IntKind.wrap .i64 (z1 - 1))).bind fun el31 => if (decide (el31.PID ≥ el12.PID)) = true then (some false) else (if (decide (el12.PID ≥ z0.Next)) = true then (some false) else (f_kauditref09_process_j1 z0 z1 el12))) else (if (decide (el12.PID ≥ z0.Next)) = true then (some false) else (f_kauditref09_process_j1 z0 z1 el12)))
set_option maxHeartbeats 4000000 in
set_option maxRecDepth 100000 in
theorem C48 (z0 : api_Table) (z1 : Int) (p1 : Option Addr) (m2 : Nat) (c3 : Nat) (r : Bool) (h : f_kauditref09_process z0 z1 = some r) : FunG Try.prog 48 #[.agg #[.int .i64 z0.Next, .int .i64 z0.NextSession, .slice p1 m2 c3], .int .i64 z1] [vw (kSlice 38 k_api_Process) z0.Processes [.slice p1 m2 c3]] [] (fun (_ : Unit) => .bool r) (fun _ => []) (fun _ => []) := by
  unfold f_kauditref09_process at h
  refine t_begin (args := [.agg #[.int .i64 z0.Next, .int .i64 z0.NextSession, .slice p1 m2 c3], .int .i64 z1]) Try.func48 rfl Try.ntmps48 rfl fun c R hR => ?_
  have hQ : ∀ X, X = r → ∀ w2 (_ : Unit), PostG c.w0 w2 c.M c.Y [] [] → R (.returned (.bool X)) w2 := fun X e => by subst e; exact hR
  refine t_seq fun K4 hK5 => ?_
  refine t_region ?_
  refine nx (t_bx (cs := [.int .i64 z0.Next, .int .i64 z0.NextSession, .slice p1 m2 c3]) rfl rfl rfl fun g6 => ?_)
  refine c_p (r_as rfl) rfl ?_
  refine t_nil ?_
  refine t_then hK5 ?_
  refine t_seq fun K7 hK8 => ?_
  refine t_region ?_
  refine c_p (r_fa (off' := 2) Try.underlying28 rfl ti26 rfl rfl) rfl ?_
  refine c_s (r_ld a0 Try.underlying26 rfl rfl rfl) rfl ?_
  refine c_p (r_mv rfl) rfl ?_
  obtain ⟨el12, hel12, h⟩ := bs h
  refine t_q a0 hel12 fun q9 hq10 hm11 => ?_
  refine c_p (r_idx hq10 hm11 hel12 Try.underlying26 ti38 rfl rfl) rfl ?_
  refine t_op k_api_Process_opens a0 hel12 fun t13 => ?_
  refine c_s (r_eA a1 hq10 Try.underlying38 rfl ti38 rfl rfl) rfl ?_
  refine nx (t_al (cs := [.int .i64 0, .int .i64 0, .int .i64 0, .int .i64 0, .int .i64 0, .int .i64 0, .int .i64 0, .int .i64 0, .int .i64 0, .int .i64 0, .string (⟨#[]⟩ : ByteArray), .string (⟨#[]⟩ : ByteArray), .slice none 0 0, .bool false]) ti38 rfl rfl fun g14 => ?_)
  refine nx (t_st u0 ti38 rfl rfl rfl rfl rfl (.t (.s (.s (.s (.s (.s (.s (.s (.s (.s (.s (.s (.s (.s (.s .z))))))))))))))) ?_)
  refine t_nil ?_
  refine t_then hK8 ?_
  refine t_seq fun K15 hK16 => ?_
  have J60 : f_kauditref09_process_j1 z0 z1 el12 = some r → T 159 c [vw (kSlice 38 k_api_Process) z0.Processes [.slice p1 m2 c3], vw (kSlice 81 k_api_Descriptor) el12.Open [.slice t13.1 t13.2.1 t13.2.2]] [[blk g6 [.int .i64 z0.Next, .int .i64 z0.NextSession, .slice p1 m2 c3] 28], [blk g14 [.int .i64 el12.PID, .int .i64 el12.PPID, .int .i64 el12.UID, .int .i64 el12.EUID, .int .i64 el12.GID, .int .i64 el12.EGID, .int .i64 el12.AUID, .int .i64 el12.Session, .int .i64 el12.Cwd.Dev, .int .i64 el12.Cwd.Ino, .string el12.Comm, .string el12.Exe, .slice t13.1 t13.2.1 t13.2.2, .bool el12.Audited] 38]] [(1, .int .i64 z1), (2, .pointer (some ⟨g6, 0, none⟩)), (5, .pointer (some ⟨g14, 0, none⟩))] K15 := by
    intro h61
    unfold f_kauditref09_process_j1 at h61
    refine ti hK16 ?_
    refine t_seq fun K62 hK63 => ?_
    have J80 : f_kauditref09_process_j2 z0 el12 = some r → T 159 c [vw (kSlice 38 k_api_Process) z0.Processes [.slice p1 m2 c3], vw (kSlice 81 k_api_Descriptor) el12.Open [.slice t13.1 t13.2.1 t13.2.2]] [[blk g6 [.int .i64 z0.Next, .int .i64 z0.NextSession, .slice p1 m2 c3] 28], [blk g14 [.int .i64 el12.PID, .int .i64 el12.PPID, .int .i64 el12.UID, .int .i64 el12.EUID, .int .i64 el12.GID, .int .i64 el12.EGID, .int .i64 el12.AUID, .int .i64 el12.Session, .int .i64 el12.Cwd.Dev, .int .i64 el12.Cwd.Ino, .string el12.Comm, .string el12.Exe, .slice t13.1 t13.2.1 t13.2.2, .bool el12.Audited] 38]] [(2, .pointer (some ⟨g6, 0, none⟩)), (5, .pointer (some ⟨g14, 0, none⟩))] K62 := by
      intro h81
      unfold f_kauditref09_process_j2 at h81
      refine ti hK63 ?_
      refine t_seq fun K82 hK83 => ?_
      have J119 : f_kauditref09_process_j3 el12 = some r → T 159 c [vw (kSlice 81 k_api_Descriptor) el12.Open [.slice t13.1 t13.2.1 t13.2.2]] [[blk g14 [.int .i64 el12.PID, .int .i64 el12.PPID, .int .i64 el12.UID, .int .i64 el12.EUID, .int .i64 el12.GID, .int .i64 el12.EGID, .int .i64 el12.AUID, .int .i64 el12.Session, .int .i64 el12.Cwd.Dev, .int .i64 el12.Cwd.Ino, .string el12.Comm, .string el12.Exe, .slice t13.1 t13.2.1 t13.2.2, .bool el12.Audited] 38]] [(5, .pointer (some ⟨g14, 0, none⟩))] K82 := by
        intro h120
        unfold f_kauditref09_process_j3 at h120
        refine ti hK83 ?_
        refine t_seq fun K121 hK122 => ?_
        refine t_seq fun K123 hK124 => ?_
        refine t_region ?_
        refine c_p (r_as rfl) rfl ?_
        refine t_nil ?_
        refine t_then hK124 ?_
        refine t_block ?_
        refine t_lp fun k200 hk201 => ?_
        have LP203 : ∀ (k205 : Nat) (x202 : Int), f_kauditref09_process_l1 el12 k205 x202 = some r → T 159 c [vw (kSlice 81 k_api_Descriptor) el12.Open [.slice t13.1 t13.2.1 t13.2.2]] [[blk g14 [.int .i64 el12.PID, .int .i64 el12.PPID, .int .i64 el12.UID, .int .i64 el12.EUID, .int .i64 el12.GID, .int .i64 el12.EGID, .int .i64 el12.AUID, .int .i64 el12.Session, .int .i64 el12.Cwd.Dev, .int .i64 el12.Cwd.Ino, .string el12.Comm, .string el12.Exe, .slice t13.1 t13.2.1 t13.2.2, .bool el12.Audited] 38]] [(5, .pointer (some ⟨g14, 0, none⟩)), (8, .int .i64 x202)] k200 := by
          intro k205
          induction k205 with
          | zero => intro x202 h204; rewrite [f_kauditref09_process_l1] at h204; cases h204
          | succ k205 ih206 =>
            intro x202 h204
            rewrite [f_kauditref09_process_l1] at h204
            refine ti hk201 ?_
            refine t_seq fun K207 hK208 => ?_
            refine t_seq fun K209 hK210 => ?_
            refine t_region ?_
            refine c_p (r_mv rfl) rfl ?_
            refine c_p (r_fa (off' := 12) Try.underlying38 rfl ti36 rfl rfl) rfl ?_
            refine c_s (r_ld a0 Try.underlying36 rfl rfl rfl) rfl ?_
            refine c_s (r_lnA a0 Try.underlying36 rfl) rfl ?_
            refine c_p (r_i rfl rfl rfl) rfl ?_
            refine t_nil ?_
            refine t_then hK210 ?_
            rcases Bool.eq_false_or_eq_true (decide (x202 < (el12.Open.length : Int))) with hb211 | hb211
            · replace h204 := itT hb211 h204
              refine t_T rfl hb211 ?_
              refine t_skip ?_
              refine t_then hK208 ?_
              refine t_seq fun K212 hK213 => ?_
              refine t_block ?_
              refine t_seq fun K214 hK215 => ?_
              refine t_quiet mixed (by kernel_rfl) (panic_then (panic_block (panic_then (panic_then (panic_block (panic_then panic_body)))))) ?_
              refine k_p (r_fa (off' := 12) Try.underlying38 rfl ti36 rfl rfl) rfl ?_
              refine k_s (r_ld a0 Try.underlying36 rfl rfl rfl) rfl ?_
              refine k_p (r_mv rfl) rfl ?_
              obtain ⟨el219, hel219, h204⟩ := bs h204
              refine t_q a0 hel219 fun q216 hq217 hm218 => ?_
              refine k_p (r_idx hq217 hm218 hel219 Try.underlying36 ti81 rfl rfl) rfl ?_
              refine t_qf hq217 0 fun q220 hq221 => ?_
              refine k_p (r_fai hq217 hq221 Try.underlying81 rfl ti3 rfl rfl) rfl ?_
              refine t_op k_api_Descriptor_opens a0 hel219 fun t222 => ?_
              refine k_s (r_e1 a0 hq221 Try.underlying3 rfl rfl rfl) rfl ?_
              refine k_p (r_i rfl rfl rfl) rfl ?_
              refine k_p (r_mv rfl) rfl ?_
              rcases Bool.eq_false_or_eq_true (decide (el219.FD < 0)) with hb223 | hb223
              · replace h204 := itT hb223 h204
                refine k_x rfl rfl hb223 rfl ?_
                refine k_x rfl rfl hb223 rfl ?_
                refine k_x rfl rfl hb223 rfl ?_
                refine k_x rfl rfl hb223 rfl ?_
                refine k_x rfl rfl hb223 rfl ?_
                refine k_x rfl rfl hb223 rfl ?_
                refine k_x rfl rfl hb223 rfl ?_
                refine k_p (r_pT rfl hb223 rfl) rfl ?_
                refine k_p (r_mv rfl) rfl ?_
                refine k_x rfl rfl rfl rfl ?_
                refine k_x rfl rfl rfl rfl ?_
                refine k_x rfl rfl rfl rfl ?_
                refine k_xU rfl rfl rfl ?_
                refine k_xU rfl rfl rfl ?_
                refine k_xU rfl rfl rfl ?_
                refine k_xU rfl rfl rfl ?_
                refine k_xU rfl rfl rfl ?_
                refine k_xU rfl rfl rfl ?_
                refine k_xU rfl rfl rfl ?_
                refine k_xU rfl rfl rfl ?_
                refine k_xU rfl rfl rfl ?_
                refine k_xU rfl rfl rfl ?_
                refine k_xU rfl rfl rfl ?_
                refine k_xU rfl rfl rfl ?_
                refine k_xU rfl rfl rfl ?_
                refine k_xU rfl rfl rfl ?_
                refine k_x rfl rfl rfl rfl ?_
                refine k_p (r_pT rfl rfl rfl) rfl ?_
                refine k_z ?_
                refine t_then hK215 ?_
                refine t_T rfl rfl ?_
                refine t_seq fun K245 hK246 => ?_
                refine t_region ?_
                refine c_p (r_as rfl) rfl ?_
                refine t_nil ?_
                refine t_then hK246 ?_
                refine t_ret ?_
                exact br (tr (tr (br (tr (ret1 rfl (v_t rfl) (t_leave (hQ _ (Option.some.inj h204)) () rfl (fun w Z hA => V0) .nil))))))
              · replace h204 := itF hb223 h204
                refine kg_p rfl rfl hb223 (r_fa (off' := 12) Try.underlying38 rfl ti36 rfl rfl) rfl ?_
                refine kg_s rfl rfl hb223 (r_ld a0 Try.underlying36 rfl rfl rfl) rfl ?_
                refine kg_p rfl rfl hb223 (r_mv rfl) rfl ?_
                refine t_q a1 hel219 fun q224 hq225 hm226 => ?_
                refine kg_p rfl rfl hb223 (r_idx hq225 hm226 hel219 Try.underlying36 ti81 rfl rfl) rfl ?_
                refine t_qf hq225 0 fun q227 hq228 => ?_
                refine kg_p rfl rfl hb223 (r_fai hq225 hq228 Try.underlying81 rfl ti3 rfl rfl) rfl ?_
                refine t_op k_api_Descriptor_opens a1 hel219 fun t229 => ?_
                refine kg_s rfl rfl hb223 (r_e1 a0 hq228 Try.underlying3 rfl rfl rfl) rfl ?_
                refine kg_p rfl rfl hb223 (r_i rfl rfl rfl) rfl ?_
                refine k_p (r_pF rfl hb223 rfl) rfl ?_
                refine k_p (r_mv rfl) rfl ?_
                rcases Bool.eq_false_or_eq_true (decide (el219.FD ≥ 8)) with hb230 | hb230
                · replace h204 := itT hb230 h204
                  refine k_x rfl rfl hb230 rfl ?_
                  refine k_x rfl rfl hb230 rfl ?_
                  refine k_x rfl rfl hb230 rfl ?_
                  refine k_xU rfl rfl rfl ?_
                  refine k_xU rfl rfl rfl ?_
                  refine k_xU rfl rfl rfl ?_
                  refine k_xU rfl rfl rfl ?_
                  refine k_xU rfl rfl rfl ?_
                  refine k_xU rfl rfl rfl ?_
                  refine k_xU rfl rfl rfl ?_
                  refine k_xU rfl rfl rfl ?_
                  refine k_xU rfl rfl rfl ?_
                  refine k_xU rfl rfl rfl ?_
                  refine k_xU rfl rfl rfl ?_
                  refine k_xU rfl rfl rfl ?_
                  refine k_xU rfl rfl rfl ?_
                  refine k_xU rfl rfl rfl ?_
                  refine k_x rfl rfl hb230 rfl ?_
                  refine k_p (r_pT rfl hb230 rfl) rfl ?_
                  refine k_z ?_
                  refine t_then hK215 ?_
                  refine t_T rfl rfl ?_
                  refine t_seq fun K247 hK248 => ?_
                  refine t_region ?_
                  refine c_p (r_as rfl) rfl ?_
                  refine t_nil ?_
                  refine t_then hK248 ?_
                  refine t_ret ?_
                  exact br (tr (tr (br (tr (ret1 rfl (v_t rfl) (t_leave (hQ _ (Option.some.inj h204)) () rfl (fun w Z hA => V0) .nil))))))
                · replace h204 := itF hb230 h204
                  refine kg_p rfl rfl hb230 (r_mv rfl) rfl ?_
                  refine kg_p rfl rfl hb230 (r_i rfl rfl rfl) rfl ?_
                  refine kg_p rfl rfl hb230 (r_mv rfl) rfl ?_
                  rcases Bool.eq_false_or_eq_true (decide (x202 > 0)) with hb231 | hb231
                  · replace h204 := itT hb231 h204
                    refine kg_p rfl rfl hb231 (r_fa (off' := 12) Try.underlying38 rfl ti36 rfl rfl) rfl ?_
                    refine kg_s rfl rfl hb231 (r_ld a0 Try.underlying36 rfl rfl rfl) rfl ?_
                    refine kg_p rfl rfl hb231 (r_mv rfl) rfl ?_
                    refine kg_p rfl rfl hb231 (r_i rfl rfl rfl) rfl ?_
                    obtain ⟨el235, hel235, h204⟩ := bs h204
                    refine t_q a2 hel235 fun q232 hq233 hm234 => ?_
                    refine kg_p rfl rfl hb231 (r_idx hq233 hm234 hel235 Try.underlying36 ti81 rfl rfl) rfl ?_
                    refine t_qf hq233 0 fun q236 hq237 => ?_
                    refine kg_p rfl rfl hb231 (r_fai hq233 hq237 Try.underlying81 rfl ti3 rfl rfl) rfl ?_
                    refine t_op k_api_Descriptor_opens a2 hel235 fun t238 => ?_
                    refine kg_s rfl rfl hb231 (r_e1 a0 hq237 Try.underlying3 rfl rfl rfl) rfl ?_
                    refine kg_p rfl rfl hb231 (r_fa (off' := 12) Try.underlying38 rfl ti36 rfl rfl) rfl ?_
                    refine kg_s rfl rfl hb231 (r_ld a0 Try.underlying36 rfl rfl rfl) rfl ?_
                    refine kg_p rfl rfl hb231 (r_mv rfl) rfl ?_
                    refine t_q a3 hel219 fun q239 hq240 hm241 => ?_
                    refine kg_p rfl rfl hb231 (r_idx hq240 hm241 hel219 Try.underlying36 ti81 rfl rfl) rfl ?_
                    refine t_qf hq240 0 fun q242 hq243 => ?_
                    refine kg_p rfl rfl hb231 (r_fai hq240 hq243 Try.underlying81 rfl ti3 rfl rfl) rfl ?_
                    refine t_op k_api_Descriptor_opens a3 hel219 fun t244 => ?_
                    refine kg_s rfl rfl hb231 (r_e1 a0 hq243 Try.underlying3 rfl rfl rfl) rfl ?_
                    refine kg_p rfl rfl hb231 (r_i rfl rfl rfl) rfl ?_
                    refine kg_p rfl rfl hb230 (r_pT rfl hb231 rfl) rfl ?_
                    refine k_p (r_pF rfl hb230 rfl) rfl ?_
                    refine k_z ?_
                    refine t_then hK215 ?_
                    rcases Bool.eq_false_or_eq_true (decide (el235.FD ≥ el219.FD)) with hb249 | hb249
                    · replace h204 := itT hb249 h204
                      refine t_T rfl hb249 ?_
                      refine t_seq fun K250 hK251 => ?_
                      refine t_region ?_
                      refine c_p (r_as rfl) rfl ?_
                      refine t_nil ?_
                      refine t_then hK251 ?_
                      refine t_ret ?_
                      exact br (tr (tr (br (tr (ret1 rfl (v_t rfl) (t_leave (hQ _ (Option.some.inj h204)) () rfl (fun w Z hA => V0) .nil))))))
                    · replace h204 := itF hb249 h204
                      refine t_F rfl hb249 ?_
                      refine t_skip ?_
                      refine t_blockN ?_
                      refine t_then hK213 ?_
                      refine t_region ?_
                      refine c_p (r_mv rfl) rfl ?_
                      refine c_p (r_i rfl rfl rfl) rfl ?_
                      refine c_p (r_as rfl) rfl ?_
                      refine t_nil ?_
                      exact t_norm (t_go (ih206 (IntKind.wrap .i64 (x202 + 1)) h204) ⟨rfl, rfl, trivial⟩ (.cons e0 .nil) (fun w Z hA => V1 a4 hA (V0)))
                  · replace h204 := itF hb231 h204
                    refine k_x rfl rfl hb231 rfl ?_
                    refine k_x rfl rfl hb231 rfl ?_
                    refine k_x rfl rfl hb231 rfl ?_
                    refine k_x rfl rfl hb231 rfl ?_
                    refine k_x rfl rfl hb231 rfl ?_
                    refine k_x rfl rfl hb231 rfl ?_
                    refine k_x rfl rfl hb231 rfl ?_
                    refine k_x rfl rfl hb231 rfl ?_
                    refine k_x rfl rfl hb231 rfl ?_
                    refine k_x rfl rfl hb231 rfl ?_
                    refine k_x rfl rfl hb231 rfl ?_
                    refine k_x rfl rfl hb231 rfl ?_
                    refine k_x rfl rfl hb231 rfl ?_
                    refine k_x rfl rfl hb231 rfl ?_
                    refine kg_p rfl rfl hb230 (r_pF rfl hb231 rfl) rfl ?_
                    refine k_p (r_pF rfl hb230 rfl) rfl ?_
                    refine k_z ?_
                    refine t_then hK215 ?_
                    refine t_F rfl rfl ?_
                    refine t_skip ?_
                    refine t_blockN ?_
                    refine t_then hK213 ?_
                    refine t_region ?_
                    refine c_p (r_mv rfl) rfl ?_
                    refine c_p (r_i rfl rfl rfl) rfl ?_
                    refine c_p (r_as rfl) rfl ?_
                    refine t_nil ?_
                    exact t_norm (t_go (ih206 (IntKind.wrap .i64 (x202 + 1)) h204) ⟨rfl, rfl, trivial⟩ (.cons e0 .nil) (fun w Z hA => V1 a2 hA (V0)))
            · replace h204 := itF hb211 h204
              refine t_F rfl hb211 ?_
              refine t_exit ?_
              refine te (te (bx ?_))
              refine t_then hK122 ?_
              refine t_seq fun K252 hK253 => ?_
              refine t_region ?_
              refine c_p (r_as rfl) rfl ?_
              refine t_nil ?_
              refine t_then hK253 ?_
              refine t_ret ?_
              exact ret1 rfl (v_t rfl) (t_leave (hQ _ (Option.some.inj h204)) () rfl (fun w Z hA => V0) .nil)
        exact t_go (LP203 ((((el12.Open.length : Int) : Int) - (0)).toNat + 1) 0 h120) ⟨rfl, rfl, trivial⟩ (.cons e0 .nil) (fun w Z hA => V1 a0 hA (V0))
      refine t_seq fun K84 hK85 => ?_
      refine t_region ?_
      refine c_p (r_fa (off' := 2) Try.underlying38 rfl ti3 rfl rfl) rfl ?_
      refine c_s (r_ld a1 Try.underlying3 rfl rfl rfl) rfl ?_
      obtain ⟨y86, hy86, h81⟩ := bs h81
      refine nx (t_ca (C65 _ _ hy86) Try.func65 nm65 rfl rfl rfl .nil (fun w Z hA => V0) rfl fun t87 => ?_)
      refine c_p (r_not rfl) rfl ?_
      refine c_p (r_mv rfl) rfl ?_
      rcases Bool.eq_false_or_eq_true y86 with hb88 | hb88
      · replace h81 := itT hb88 h81
        refine nx (gd rfl rfl (congrArg Bool.not hb88) (sp (r_fa (off' := 3) Try.underlying38 rfl ti3 rfl rfl) rfl ?_))
        refine nx (gd rfl rfl (congrArg Bool.not hb88) (ss (r_ld a1 Try.underlying3 rfl rfl rfl) rfl ?_))
        obtain ⟨y89, hy89, h81⟩ := bs h81
        refine nx (gd rfl rfl (congrArg Bool.not hb88) (t_ca (C65 _ _ hy89) Try.func65 nm65 rfl rfl rfl .nil (fun w Z hA => V0) rfl fun t90 => ?_))
        refine nx (gd rfl rfl (congrArg Bool.not hb88) (sp (r_not rfl) rfl ?_))
        refine c_p (r_pF rfl (congrArg Bool.not hb88) rfl) rfl ?_
        refine c_p (r_mv rfl) rfl ?_
        rcases Bool.eq_false_or_eq_true y89 with hb91 | hb91
        · replace h81 := itT hb91 h81
          refine nx (gd rfl rfl (congrArg Bool.not hb91) (sp (r_fa (off' := 4) Try.underlying38 rfl ti3 rfl rfl) rfl ?_))
          refine nx (gd rfl rfl (congrArg Bool.not hb91) (ss (r_ld a1 Try.underlying3 rfl rfl rfl) rfl ?_))
          obtain ⟨y92, hy92, h81⟩ := bs h81
          refine nx (gd rfl rfl (congrArg Bool.not hb91) (t_ca (C65 _ _ hy92) Try.func65 nm65 rfl rfl rfl .nil (fun w Z hA => V0) rfl fun t93 => ?_))
          refine nx (gd rfl rfl (congrArg Bool.not hb91) (sp (r_not rfl) rfl ?_))
          refine c_p (r_pF rfl (congrArg Bool.not hb91) rfl) rfl ?_
          refine c_p (r_mv rfl) rfl ?_
          rcases Bool.eq_false_or_eq_true y92 with hb94 | hb94
          · replace h81 := itT hb94 h81
            refine nx (gd rfl rfl (congrArg Bool.not hb94) (sp (r_fa (off' := 5) Try.underlying38 rfl ti3 rfl rfl) rfl ?_))
            refine nx (gd rfl rfl (congrArg Bool.not hb94) (ss (r_ld a1 Try.underlying3 rfl rfl rfl) rfl ?_))
            obtain ⟨y95, hy95, h81⟩ := bs h81
            refine nx (gd rfl rfl (congrArg Bool.not hb94) (t_ca (C65 _ _ hy95) Try.func65 nm65 rfl rfl rfl .nil (fun w Z hA => V0) rfl fun t96 => ?_))
            refine nx (gd rfl rfl (congrArg Bool.not hb94) (sp (r_not rfl) rfl ?_))
            refine c_p (r_pF rfl (congrArg Bool.not hb94) rfl) rfl ?_
            refine c_p (r_mv rfl) rfl ?_
            rcases Bool.eq_false_or_eq_true y95 with hb97 | hb97
            · replace h81 := itT hb97 h81
              refine nx (gd rfl rfl (congrArg Bool.not hb97) (sp (r_fa (off' := 6) Try.underlying38 rfl ti3 rfl rfl) rfl ?_))
              refine nx (gd rfl rfl (congrArg Bool.not hb97) (ss (r_ld a1 Try.underlying3 rfl rfl rfl) rfl ?_))
              refine nx (gd rfl rfl (congrArg Bool.not hb97) (sp (r_i rfl rfl rfl) rfl ?_))
              refine c_p (r_pF rfl (congrArg Bool.not hb97) rfl) rfl ?_
              refine c_p (r_mv rfl) rfl ?_
              rcases Bool.eq_false_or_eq_true (decide (el12.AUID < 0)) with hb98 | hb98
              · replace h81 := itT hb98 h81
                refine nx (pass rfl rfl hb98 rfl ?_)
                refine nx (pass rfl rfl hb98 rfl ?_)
                refine nx (pass rfl rfl hb98 rfl ?_)
                refine c_p (r_pT rfl hb98 rfl) rfl ?_
                refine c_p (r_mv rfl) rfl ?_
                refine nx (pass rfl rfl rfl rfl ?_)
                refine nx (pass rfl rfl rfl rfl ?_)
                refine nx (pass rfl rfl rfl rfl ?_)
                refine nx (pass rfl rfl rfl rfl ?_)
                refine nx (passU rfl rfl rfl ?_)
                refine nx (passU rfl rfl rfl ?_)
                refine nx (passU rfl rfl rfl ?_)
                refine nx (passU rfl rfl rfl ?_)
                refine nx (passU rfl rfl rfl ?_)
                refine nx (passU rfl rfl rfl ?_)
                refine nx (passU rfl rfl rfl ?_)
                refine nx (passU rfl rfl rfl ?_)
                refine nx (passU rfl rfl rfl ?_)
                refine nx (passU rfl rfl rfl ?_)
                refine nx (pass rfl rfl rfl rfl ?_)
                refine c_p (r_pT rfl rfl rfl) rfl ?_
                refine t_nil ?_
                refine t_then hK85 ?_
                refine t_T rfl rfl ?_
                refine t_seq fun K102 hK103 => ?_
                refine t_region ?_
                refine c_p (r_as rfl) rfl ?_
                refine t_nil ?_
                refine t_then hK103 ?_
                refine t_ret ?_
                exact tr (ret1 rfl (v_t rfl) (t_leave (hQ _ (Option.some.inj h81)) () rfl (fun w Z hA => V0) .nil))
              · replace h81 := itF hb98 h81
                refine nx (gd rfl rfl hb98 (sp (r_fa (off' := 6) Try.underlying38 rfl ti3 rfl rfl) rfl ?_))
                refine nx (gd rfl rfl hb98 (ss (r_ld a1 Try.underlying3 rfl rfl rfl) rfl ?_))
                refine nx (gd rfl rfl hb98 (sp (r_i rfl rfl rfl) rfl ?_))
                refine c_p (r_pF rfl hb98 rfl) rfl ?_
                refine c_p (r_mv rfl) rfl ?_
                rcases Bool.eq_false_or_eq_true (decide (el12.AUID > 4294967295)) with hb99 | hb99
                · replace h81 := itT hb99 h81
                  refine nx (pass rfl rfl hb99 rfl ?_)
                  refine nx (pass rfl rfl hb99 rfl ?_)
                  refine nx (pass rfl rfl hb99 rfl ?_)
                  refine nx (pass rfl rfl hb99 rfl ?_)
                  refine nx (passU rfl rfl rfl ?_)
                  refine nx (passU rfl rfl rfl ?_)
                  refine nx (passU rfl rfl rfl ?_)
                  refine nx (passU rfl rfl rfl ?_)
                  refine nx (passU rfl rfl rfl ?_)
                  refine nx (passU rfl rfl rfl ?_)
                  refine nx (passU rfl rfl rfl ?_)
                  refine nx (passU rfl rfl rfl ?_)
                  refine nx (passU rfl rfl rfl ?_)
                  refine nx (passU rfl rfl rfl ?_)
                  refine nx (pass rfl rfl hb99 rfl ?_)
                  refine c_p (r_pT rfl hb99 rfl) rfl ?_
                  refine t_nil ?_
                  refine t_then hK85 ?_
                  refine t_T rfl rfl ?_
                  refine t_seq fun K104 hK105 => ?_
                  refine t_region ?_
                  refine c_p (r_as rfl) rfl ?_
                  refine t_nil ?_
                  refine t_then hK105 ?_
                  refine t_ret ?_
                  exact tr (ret1 rfl (v_t rfl) (t_leave (hQ _ (Option.some.inj h81)) () rfl (fun w Z hA => V0) .nil))
                · replace h81 := itF hb99 h81
                  refine nx (gd rfl rfl hb99 (sp (r_fa (off' := 7) Try.underlying38 rfl ti3 rfl rfl) rfl ?_))
                  refine nx (gd rfl rfl hb99 (ss (r_ld a1 Try.underlying3 rfl rfl rfl) rfl ?_))
                  refine nx (gd rfl rfl hb99 (sp (r_i rfl rfl rfl) rfl ?_))
                  refine nx (gd rfl rfl hb99 (sp (r_mv rfl) rfl ?_))
                  rcases Bool.eq_false_or_eq_true (el12.Session != 4294967295) with hb100 | hb100
                  · replace h81 := itT hb100 h81
                    refine nx (gd rfl rfl hb100 (sp (r_fa (off' := 7) Try.underlying38 rfl ti3 rfl rfl) rfl ?_))
                    refine nx (gd rfl rfl hb100 (ss (r_ld a1 Try.underlying3 rfl rfl rfl) rfl ?_))
                    refine nx (gd rfl rfl hb100 (sp (r_i rfl rfl rfl) rfl ?_))
                    refine nx (gd rfl rfl hb100 (sp (r_mv rfl) rfl ?_))
                    rcases Bool.eq_false_or_eq_true (decide (el12.Session < 0)) with hb101 | hb101
                    · replace h81 := itT hb101 h81
                      refine nx (pass rfl rfl hb101 rfl ?_)
                      refine nx (pass rfl rfl hb101 rfl ?_)
                      refine nx (pass rfl rfl hb101 rfl ?_)
                      refine nx (pass rfl rfl hb101 rfl ?_)
                      refine nx (pass rfl rfl hb101 rfl ?_)
                      refine nx (gd rfl rfl hb100 (sp (r_pT rfl hb101 rfl) rfl ?_))
                      refine nx (gd rfl rfl hb99 (sp (r_pT rfl hb100 rfl) rfl ?_))
                      refine c_p (r_pF rfl hb99 rfl) rfl ?_
                      refine t_nil ?_
                      refine t_then hK85 ?_
                      refine t_T rfl rfl ?_
                      refine t_seq fun K106 hK107 => ?_
                      refine t_region ?_
                      refine c_p (r_as rfl) rfl ?_
                      refine t_nil ?_
                      refine t_then hK107 ?_
                      refine t_ret ?_
                      exact tr (ret1 rfl (v_t rfl) (t_leave (hQ _ (Option.some.inj h81)) () rfl (fun w Z hA => V0) .nil))
                    · replace h81 := itF hb101 h81
                      refine nx (gd rfl rfl hb101 (sp (r_fa (off' := 7) Try.underlying38 rfl ti3 rfl rfl) rfl ?_))
                      refine nx (gd rfl rfl hb101 (ss (r_ld a1 Try.underlying3 rfl rfl rfl) rfl ?_))
                      refine nx (gd rfl rfl hb101 (sp (r_fa (off' := 1) Try.underlying28 rfl ti3 rfl rfl) rfl ?_))
                      refine nx (gd rfl rfl hb101 (ss (r_ld a0 Try.underlying3 rfl rfl rfl) rfl ?_))
                      refine nx (gd rfl rfl hb101 (sp (r_i rfl rfl rfl) rfl ?_))
                      refine nx (gd rfl rfl hb100 (sp (r_pF rfl hb101 rfl) rfl ?_))
                      refine nx (gd rfl rfl hb99 (sp (r_pT rfl hb100 rfl) rfl ?_))
                      refine c_p (r_pF rfl hb99 rfl) rfl ?_
                      refine t_nil ?_
                      refine t_then hK85 ?_
                      rcases Bool.eq_false_or_eq_true (decide (el12.Session ≥ z0.NextSession)) with hb116 | hb116
                      · replace h81 := itT hb116 h81
                        refine t_T rfl hb116 ?_
                        refine t_seq fun K117 hK118 => ?_
                        refine t_region ?_
                        refine c_p (r_as rfl) rfl ?_
                        refine t_nil ?_
                        refine t_then hK118 ?_
                        refine t_ret ?_
                        exact tr (ret1 rfl (v_t rfl) (t_leave (hQ _ (Option.some.inj h81)) () rfl (fun w Z hA => V0) .nil))
                      · replace h81 := itF hb116 h81
                        refine t_F rfl hb116 ?_
                        refine t_skip ?_
                        exact t_norm (t_go (J119 h81) ⟨rfl, trivial⟩ (.cons e1 .nil) (fun w Z hA => V1 a1 hA (V0)))
                  · replace h81 := itF hb100 h81
                    refine nx (pass rfl rfl hb100 rfl ?_)
                    refine nx (pass rfl rfl hb100 rfl ?_)
                    refine nx (pass rfl rfl hb100 rfl ?_)
                    refine nx (pass rfl rfl hb100 rfl ?_)
                    refine nx (passU rfl rfl rfl ?_)
                    refine nx (passU rfl rfl rfl ?_)
                    refine nx (passU rfl rfl rfl ?_)
                    refine nx (passU rfl rfl rfl ?_)
                    refine nx (passU rfl rfl rfl ?_)
                    refine nx (pass rfl rfl hb100 rfl ?_)
                    refine nx (gd rfl rfl hb99 (sp (r_pF rfl hb100 rfl) rfl ?_))
                    refine c_p (r_pF rfl hb99 rfl) rfl ?_
                    refine t_nil ?_
                    refine t_then hK85 ?_
                    refine t_F rfl rfl ?_
                    refine t_skip ?_
                    exact t_norm (t_go (J119 h81) ⟨rfl, trivial⟩ (.cons e1 .nil) (fun w Z hA => V1 a1 hA (V0)))
            · replace h81 := itF hb97 h81
              refine nx (pass rfl rfl (congrArg Bool.not hb97) rfl ?_)
              refine nx (pass rfl rfl (congrArg Bool.not hb97) rfl ?_)
              refine nx (pass rfl rfl (congrArg Bool.not hb97) rfl ?_)
              refine c_p (r_pT rfl (congrArg Bool.not hb97) rfl) rfl ?_
              refine c_p (r_mv rfl) rfl ?_
              refine nx (pass rfl rfl rfl rfl ?_)
              refine nx (pass rfl rfl rfl rfl ?_)
              refine nx (pass rfl rfl rfl rfl ?_)
              refine c_p (r_pT rfl rfl rfl) rfl ?_
              refine c_p (r_mv rfl) rfl ?_
              refine nx (pass rfl rfl rfl rfl ?_)
              refine nx (pass rfl rfl rfl rfl ?_)
              refine nx (pass rfl rfl rfl rfl ?_)
              refine nx (pass rfl rfl rfl rfl ?_)
              refine nx (passU rfl rfl rfl ?_)
              refine nx (passU rfl rfl rfl ?_)
              refine nx (passU rfl rfl rfl ?_)
              refine nx (passU rfl rfl rfl ?_)
              refine nx (passU rfl rfl rfl ?_)
              refine nx (passU rfl rfl rfl ?_)
              refine nx (passU rfl rfl rfl ?_)
              refine nx (passU rfl rfl rfl ?_)
              refine nx (passU rfl rfl rfl ?_)
              refine nx (passU rfl rfl rfl ?_)
              refine nx (pass rfl rfl rfl rfl ?_)
              refine c_p (r_pT rfl rfl rfl) rfl ?_
              refine t_nil ?_
              refine t_then hK85 ?_
              refine t_T rfl rfl ?_
              refine t_seq fun K108 hK109 => ?_
              refine t_region ?_
              refine c_p (r_as rfl) rfl ?_
              refine t_nil ?_
              refine t_then hK109 ?_
              refine t_ret ?_
              exact tr (ret1 rfl (v_t rfl) (t_leave (hQ _ (Option.some.inj h81)) () rfl (fun w Z hA => V0) .nil))
          · replace h81 := itF hb94 h81
            refine nx (pass rfl rfl (congrArg Bool.not hb94) rfl ?_)
            refine nx (pass rfl rfl (congrArg Bool.not hb94) rfl ?_)
            refine nx (pass rfl rfl (congrArg Bool.not hb94) rfl ?_)
            refine nx (pass rfl rfl (congrArg Bool.not hb94) rfl ?_)
            refine c_p (r_pT rfl (congrArg Bool.not hb94) rfl) rfl ?_
            refine c_p (r_mv rfl) rfl ?_
            refine nx (pass rfl rfl rfl rfl ?_)
            refine nx (pass rfl rfl rfl rfl ?_)
            refine nx (pass rfl rfl rfl rfl ?_)
            refine c_p (r_pT rfl rfl rfl) rfl ?_
            refine c_p (r_mv rfl) rfl ?_
            refine nx (pass rfl rfl rfl rfl ?_)
            refine nx (pass rfl rfl rfl rfl ?_)
            refine nx (pass rfl rfl rfl rfl ?_)
            refine c_p (r_pT rfl rfl rfl) rfl ?_
            refine c_p (r_mv rfl) rfl ?_
            refine nx (pass rfl rfl rfl rfl ?_)
            refine nx (pass rfl rfl rfl rfl ?_)
            refine nx (pass rfl rfl rfl rfl ?_)
            refine nx (pass rfl rfl rfl rfl ?_)
            refine nx (passU rfl rfl rfl ?_)
            refine nx (passU rfl rfl rfl ?_)
            refine nx (passU rfl rfl rfl ?_)
            refine nx (passU rfl rfl rfl ?_)
            refine nx (passU rfl rfl rfl ?_)
            refine nx (passU rfl rfl rfl ?_)
            refine nx (passU rfl rfl rfl ?_)
            refine nx (passU rfl rfl rfl ?_)
            refine nx (passU rfl rfl rfl ?_)
            refine nx (passU rfl rfl rfl ?_)
            refine nx (pass rfl rfl rfl rfl ?_)
            refine c_p (r_pT rfl rfl rfl) rfl ?_
            refine t_nil ?_
            refine t_then hK85 ?_
            refine t_T rfl rfl ?_
            refine t_seq fun K110 hK111 => ?_
            refine t_region ?_
            refine c_p (r_as rfl) rfl ?_
            refine t_nil ?_
            refine t_then hK111 ?_
            refine t_ret ?_
            exact tr (ret1 rfl (v_t rfl) (t_leave (hQ _ (Option.some.inj h81)) () rfl (fun w Z hA => V0) .nil))
        · replace h81 := itF hb91 h81
          refine nx (pass rfl rfl (congrArg Bool.not hb91) rfl ?_)
          refine nx (pass rfl rfl (congrArg Bool.not hb91) rfl ?_)
          refine nx (pass rfl rfl (congrArg Bool.not hb91) rfl ?_)
          refine nx (pass rfl rfl (congrArg Bool.not hb91) rfl ?_)
          refine c_p (r_pT rfl (congrArg Bool.not hb91) rfl) rfl ?_
          refine c_p (r_mv rfl) rfl ?_
          refine nx (pass rfl rfl rfl rfl ?_)
          refine nx (pass rfl rfl rfl rfl ?_)
          refine nx (pass rfl rfl rfl rfl ?_)
          refine nx (pass rfl rfl rfl rfl ?_)
          refine c_p (r_pT rfl rfl rfl) rfl ?_
          refine c_p (r_mv rfl) rfl ?_
          refine nx (pass rfl rfl rfl rfl ?_)
          refine nx (pass rfl rfl rfl rfl ?_)
          refine nx (pass rfl rfl rfl rfl ?_)
          refine c_p (r_pT rfl rfl rfl) rfl ?_
          refine c_p (r_mv rfl) rfl ?_
          refine nx (pass rfl rfl rfl rfl ?_)
          refine nx (pass rfl rfl rfl rfl ?_)
          refine nx (pass rfl rfl rfl rfl ?_)
          refine c_p (r_pT rfl rfl rfl) rfl ?_
          refine c_p (r_mv rfl) rfl ?_
          refine nx (pass rfl rfl rfl rfl ?_)
          refine nx (pass rfl rfl rfl rfl ?_)
          refine nx (pass rfl rfl rfl rfl ?_)
          refine nx (pass rfl rfl rfl rfl ?_)
          refine nx (passU rfl rfl rfl ?_)
          refine nx (passU rfl rfl rfl ?_)
          refine nx (passU rfl rfl rfl ?_)
          refine nx (passU rfl rfl rfl ?_)
          refine nx (passU rfl rfl rfl ?_)
          refine nx (passU rfl rfl rfl ?_)
          refine nx (passU rfl rfl rfl ?_)
          refine nx (passU rfl rfl rfl ?_)
          refine nx (passU rfl rfl rfl ?_)
          refine nx (passU rfl rfl rfl ?_)
          refine nx (pass rfl rfl rfl rfl ?_)
          refine c_p (r_pT rfl rfl rfl) rfl ?_
          refine t_nil ?_
          refine t_then hK85 ?_
          refine t_T rfl rfl ?_
          refine t_seq fun K112 hK113 => ?_
          refine t_region ?_
          refine c_p (r_as rfl) rfl ?_
          refine t_nil ?_
          refine t_then hK113 ?_
          refine t_ret ?_
          exact tr (ret1 rfl (v_t rfl) (t_leave (hQ _ (Option.some.inj h81)) () rfl (fun w Z hA => V0) .nil))
      · replace h81 := itF hb88 h81
        refine nx (pass rfl rfl (congrArg Bool.not hb88) rfl ?_)
        refine nx (pass rfl rfl (congrArg Bool.not hb88) rfl ?_)
        refine nx (pass rfl rfl (congrArg Bool.not hb88) rfl ?_)
        refine nx (pass rfl rfl (congrArg Bool.not hb88) rfl ?_)
        refine c_p (r_pT rfl (congrArg Bool.not hb88) rfl) rfl ?_
        refine c_p (r_mv rfl) rfl ?_
        refine nx (pass rfl rfl rfl rfl ?_)
        refine nx (pass rfl rfl rfl rfl ?_)
        refine nx (pass rfl rfl rfl rfl ?_)
        refine nx (pass rfl rfl rfl rfl ?_)
        refine c_p (r_pT rfl rfl rfl) rfl ?_
        refine c_p (r_mv rfl) rfl ?_
        refine nx (pass rfl rfl rfl rfl ?_)
        refine nx (pass rfl rfl rfl rfl ?_)
        refine nx (pass rfl rfl rfl rfl ?_)
        refine nx (pass rfl rfl rfl rfl ?_)
        refine c_p (r_pT rfl rfl rfl) rfl ?_
        refine c_p (r_mv rfl) rfl ?_
        refine nx (pass rfl rfl rfl rfl ?_)
        refine nx (pass rfl rfl rfl rfl ?_)
        refine nx (pass rfl rfl rfl rfl ?_)
        refine c_p (r_pT rfl rfl rfl) rfl ?_
        refine c_p (r_mv rfl) rfl ?_
        refine nx (pass rfl rfl rfl rfl ?_)
        refine nx (pass rfl rfl rfl rfl ?_)
        refine nx (pass rfl rfl rfl rfl ?_)
        refine c_p (r_pT rfl rfl rfl) rfl ?_
        refine c_p (r_mv rfl) rfl ?_
        refine nx (pass rfl rfl rfl rfl ?_)
        refine nx (pass rfl rfl rfl rfl ?_)
        refine nx (pass rfl rfl rfl rfl ?_)
        refine nx (pass rfl rfl rfl rfl ?_)
        refine nx (passU rfl rfl rfl ?_)
        refine nx (passU rfl rfl rfl ?_)
        refine nx (passU rfl rfl rfl ?_)
        refine nx (passU rfl rfl rfl ?_)
        refine nx (passU rfl rfl rfl ?_)
        refine nx (passU rfl rfl rfl ?_)
        refine nx (passU rfl rfl rfl ?_)
        refine nx (passU rfl rfl rfl ?_)
        refine nx (passU rfl rfl rfl ?_)
        refine nx (passU rfl rfl rfl ?_)
        refine nx (pass rfl rfl rfl rfl ?_)
        refine c_p (r_pT rfl rfl rfl) rfl ?_
        refine t_nil ?_
        refine t_then hK85 ?_
        refine t_T rfl rfl ?_
        refine t_seq fun K114 hK115 => ?_
        refine t_region ?_
        refine c_p (r_as rfl) rfl ?_
        refine t_nil ?_
        refine t_then hK115 ?_
        refine t_ret ?_
        exact tr (ret1 rfl (v_t rfl) (t_leave (hQ _ (Option.some.inj h81)) () rfl (fun w Z hA => V0) .nil))
    refine t_seq fun K64 hK65 => ?_
    refine t_region ?_
    refine c_p (r_mv rfl) rfl ?_
    refine c_p (r_i rfl rfl rfl) rfl ?_
    refine t_nil ?_
    refine t_then hK65 ?_
    rcases Bool.eq_false_or_eq_true (decide (z1 > 0)) with hb66 | hb66
    · replace h61 := itT hb66 h61
      refine t_T rfl hb66 ?_
      refine t_seq fun K67 hK68 => ?_
      refine t_region ?_
      refine c_s (r_ldA a0 Try.underlying28 rfl ti28 rfl rfl) rfl ?_
      refine c_p (r_fa (off' := 1) Try.underlying38 rfl ti3 rfl rfl) rfl ?_
      refine c_s (r_ld a1 Try.underlying3 rfl rfl rfl) rfl ?_
      obtain ⟨y69, hy69, h61⟩ := bs h61
      refine nx (t_ca (C26 _ _ _ _ _ _ hy69) Try.func26 nm26 rfl rfl rfl .nil (fun w Z hA => (V1 a0 hA V0)) rfl fun t70 => ?_)
      refine c_p (r_mv rfl) rfl ?_
      refine c_p (r_ex rfl rfl) rfl ?_
      refine c_p (r_ex rfl rfl) rfl ?_
      refine nx (t_al (cs := [.int .i64 0, .int .i64 0, .int .i64 0, .int .i64 0, .int .i64 0, .int .i64 0, .int .i64 0, .int .i64 0, .int .i64 0, .int .i64 0, .string (⟨#[]⟩ : ByteArray), .string (⟨#[]⟩ : ByteArray), .slice none 0 0, .bool false]) ti38 rfl rfl fun g71 => ?_)
      refine nx (t_st u0 ti38 rfl rfl rfl rfl rfl (.t (.s (.s (.s (.s (.s (.s (.s (.s (.s (.s (.s (.s (.s (.s .z))))))))))))))) ?_)
      refine c_p (r_as rfl) rfl ?_
      refine t_nil ?_
      refine t_then hK68 ?_
      refine t_seq fun K72 hK73 => ?_
      refine t_region ?_
      refine c_p (r_mv rfl) rfl ?_
      refine c_p (r_not rfl) rfl ?_
      refine c_p (r_mv rfl) rfl ?_
      rcases Bool.eq_false_or_eq_true y69.2 with hb74 | hb74
      · replace h61 := itT hb74 h61
        refine nx (gd rfl rfl (congrArg Bool.not hb74) (sp (r_fa (off' := 1) Try.underlying38 rfl ti3 rfl rfl) rfl ?_))
        refine nx (gd rfl rfl (congrArg Bool.not hb74) (ss (r_ld a3 Try.underlying3 rfl rfl rfl) rfl ?_))
        refine nx (gd rfl rfl (congrArg Bool.not hb74) (sp (r_fa (off' := 0) Try.underlying38 rfl ti3 rfl rfl) rfl ?_))
        refine nx (gd rfl rfl (congrArg Bool.not hb74) (ss (r_ld a3 Try.underlying3 rfl rfl rfl) rfl ?_))
        refine nx (gd rfl rfl (congrArg Bool.not hb74) (sp (r_i rfl rfl rfl) rfl ?_))
        refine c_p (r_pF rfl (congrArg Bool.not hb74) rfl) rfl ?_
        refine t_nil ?_
        refine t_then hK73 ?_
        rcases Bool.eq_false_or_eq_true (decide (el12.PPID ≥ el12.PID)) with hb75 | hb75
        · replace h61 := itT hb75 h61
          refine t_T rfl hb75 ?_
          refine t_seq fun K76 hK77 => ?_
          refine t_region ?_
          refine c_p (r_as rfl) rfl ?_
          refine t_nil ?_
          refine t_then hK77 ?_
          refine t_ret ?_
          exact tr (ret1 rfl (v_t rfl) (t_leave (hQ _ (Option.some.inj h61)) () rfl (fun w Z hA => V0) .nil))
        · replace h61 := itF hb75 h61
          refine t_F rfl hb75 ?_
          refine t_skip ?_
          exact t_norm (t_go (J80 h61) ⟨rfl, rfl, trivial⟩ (.cons e2 (.cons e2 .nil)) (fun w Z hA => V1 a0 hA (V1 a1 hA (V0))))
      · replace h61 := itF hb74 h61
        refine nx (pass rfl rfl (congrArg Bool.not hb74) rfl ?_)
        refine nx (pass rfl rfl (congrArg Bool.not hb74) rfl ?_)
        refine nx (pass rfl rfl (congrArg Bool.not hb74) rfl ?_)
        refine nx (pass rfl rfl (congrArg Bool.not hb74) rfl ?_)
        refine nx (pass rfl rfl (congrArg Bool.not hb74) rfl ?_)
        refine c_p (r_pT rfl (congrArg Bool.not hb74) rfl) rfl ?_
        refine t_nil ?_
        refine t_then hK73 ?_
        refine t_T rfl rfl ?_
        refine t_seq fun K78 hK79 => ?_
        refine t_region ?_
        refine c_p (r_as rfl) rfl ?_
        refine t_nil ?_
        refine t_then hK79 ?_
        refine t_ret ?_
        exact tr (ret1 rfl (v_t rfl) (t_leave (hQ _ (Option.some.inj h61)) () rfl (fun w Z hA => V0) .nil))
    · replace h61 := itF hb66 h61
      refine t_F rfl hb66 ?_
      refine t_skip ?_
      exact t_norm (t_go (J80 h61) ⟨rfl, rfl, trivial⟩ (.cons e0 (.cons e0 .nil)) (fun w Z hA => V1 a0 hA (V1 a1 hA (V0))))
  refine t_seq fun K17 hK18 => ?_
  refine t_quiet mixed (by kernel_rfl) (panic_then (panic_then panic_body)) ?_
  refine k_p (r_mv rfl) rfl ?_
  refine k_p (r_i rfl rfl rfl) rfl ?_
  refine k_p (r_mv rfl) rfl ?_
  rcases Bool.eq_false_or_eq_true (z1 == 0) with hb19 | hb19
  · replace h := itT hb19 h
    refine kg_p rfl rfl hb19 (r_fa (off' := 0) Try.underlying38 rfl ti3 rfl rfl) rfl ?_
    refine kg_s rfl rfl hb19 (r_ld a0 Try.underlying3 rfl rfl rfl) rfl ?_
    refine kg_p rfl rfl hb19 (r_i rfl rfl rfl) rfl ?_
    refine kg_p rfl rfl hb19 (r_mv rfl) rfl ?_
    rcases Bool.eq_false_or_eq_true (el12.PID != 1) with hb20 | hb20
    · replace h := itT hb20 h
      refine k_x rfl rfl hb20 rfl ?_
      refine k_x rfl rfl hb20 rfl ?_
      refine k_x rfl rfl hb20 rfl ?_
      refine kg_p rfl rfl hb19 (r_pT rfl hb20 rfl) rfl ?_
      refine k_p (r_pT rfl hb19 rfl) rfl ?_
      refine k_p (r_mv rfl) rfl ?_
      refine k_x rfl rfl rfl rfl ?_
      refine k_x rfl rfl rfl rfl ?_
      refine k_x rfl rfl rfl rfl ?_
      refine k_xU rfl rfl rfl ?_
      refine k_xU rfl rfl rfl ?_
      refine k_xU rfl rfl rfl ?_
      refine k_xU rfl rfl rfl ?_
      refine k_xU rfl rfl rfl ?_
      refine k_xU rfl rfl rfl ?_
      refine k_xU rfl rfl rfl ?_
      refine k_xU rfl rfl rfl ?_
      refine k_xU rfl rfl rfl ?_
      refine k_xU rfl rfl rfl ?_
      refine k_x rfl rfl rfl rfl ?_
      refine k_p (r_pT rfl rfl rfl) rfl ?_
      refine k_p (r_mv rfl) rfl ?_
      refine k_x rfl rfl rfl rfl ?_
      refine k_x rfl rfl rfl rfl ?_
      refine k_x rfl rfl rfl rfl ?_
      refine k_x rfl rfl rfl rfl ?_
      refine k_x rfl rfl rfl rfl ?_
      refine k_p (r_pT rfl rfl rfl) rfl ?_
      refine k_z ?_
      refine t_then hK18 ?_
      refine t_T rfl rfl ?_
      refine t_seq fun K40 hK41 => ?_
      refine t_region ?_
      refine c_p (r_as rfl) rfl ?_
      refine t_nil ?_
      refine t_then hK41 ?_
      refine t_ret ?_
      exact tr (ret1 rfl (v_t rfl) (t_leave (hQ _ (Option.some.inj h)) () rfl (fun w Z hA => V0) .nil))
    · replace h := itF hb20 h
      refine kg_p rfl rfl hb20 (r_fa (off' := 1) Try.underlying38 rfl ti3 rfl rfl) rfl ?_
      refine kg_s rfl rfl hb20 (r_ld a0 Try.underlying3 rfl rfl rfl) rfl ?_
      refine kg_p rfl rfl hb20 (r_i rfl rfl rfl) rfl ?_
      refine kg_p rfl rfl hb19 (r_pF rfl hb20 rfl) rfl ?_
      refine k_p (r_pT rfl hb19 rfl) rfl ?_
      refine k_p (r_mv rfl) rfl ?_
      rcases Bool.eq_false_or_eq_true (el12.PPID != 0) with hb21 | hb21
      · replace h := itT hb21 h
        refine k_x rfl rfl hb21 rfl ?_
        refine k_x rfl rfl hb21 rfl ?_
        refine k_x rfl rfl hb21 rfl ?_
        refine k_xU rfl rfl rfl ?_
        refine k_xU rfl rfl rfl ?_
        refine k_xU rfl rfl rfl ?_
        refine k_xU rfl rfl rfl ?_
        refine k_xU rfl rfl rfl ?_
        refine k_xU rfl rfl rfl ?_
        refine k_xU rfl rfl rfl ?_
        refine k_xU rfl rfl rfl ?_
        refine k_xU rfl rfl rfl ?_
        refine k_xU rfl rfl rfl ?_
        refine k_x rfl rfl hb21 rfl ?_
        refine k_p (r_pT rfl hb21 rfl) rfl ?_
        refine k_p (r_mv rfl) rfl ?_
        refine k_x rfl rfl rfl rfl ?_
        refine k_x rfl rfl rfl rfl ?_
        refine k_x rfl rfl rfl rfl ?_
        refine k_x rfl rfl rfl rfl ?_
        refine k_x rfl rfl rfl rfl ?_
        refine k_p (r_pT rfl rfl rfl) rfl ?_
        refine k_z ?_
        refine t_then hK18 ?_
        refine t_T rfl rfl ?_
        refine t_seq fun K42 hK43 => ?_
        refine t_region ?_
        refine c_p (r_as rfl) rfl ?_
        refine t_nil ?_
        refine t_then hK43 ?_
        refine t_ret ?_
        exact tr (ret1 rfl (v_t rfl) (t_leave (hQ _ (Option.some.inj h)) () rfl (fun w Z hA => V0) .nil))
      · replace h := itF hb21 h
        refine kg_p rfl rfl hb21 (r_mv rfl) rfl ?_
        refine kg_p rfl rfl hb21 (r_i rfl rfl rfl) rfl ?_
        refine kg_p rfl rfl hb21 (r_mv rfl) rfl ?_
        rcases Bool.eq_false_or_eq_true (decide (z1 > 0)) with hb22 | hb22
        · replace h := itT hb22 h
          refine kg_p rfl rfl hb22 (r_fa (off' := 2) Try.underlying28 rfl ti26 rfl rfl) rfl ?_
          refine kg_s rfl rfl hb22 (r_ld a1 Try.underlying26 rfl rfl rfl) rfl ?_
          refine kg_p rfl rfl hb22 (r_mv rfl) rfl ?_
          refine kg_p rfl rfl hb22 (r_i rfl rfl rfl) rfl ?_
          obtain ⟨el27, hel27, h⟩ := bs h
          refine t_q a2 hel27 fun q24 hq25 hm26 => ?_
          refine kg_p rfl rfl hb22 (r_idx hq25 hm26 hel27 Try.underlying26 ti38 rfl rfl) rfl ?_
          refine t_qf hq25 0 fun q32 hq33 => ?_
          refine kg_p rfl rfl hb22 (r_fai hq25 hq33 Try.underlying38 rfl ti3 rfl rfl) rfl ?_
          refine t_op k_api_Process_opens a2 hel27 fun t36 => ?_
          refine kg_s rfl rfl hb22 (r_e1 a1 hq33 Try.underlying3 rfl rfl rfl) rfl ?_
          refine kg_p rfl rfl hb22 (r_fa (off' := 0) Try.underlying38 rfl ti3 rfl rfl) rfl ?_
          refine kg_s rfl rfl hb22 (r_ld a0 Try.underlying3 rfl rfl rfl) rfl ?_
          refine kg_p rfl rfl hb22 (r_i rfl rfl rfl) rfl ?_
          refine kg_p rfl rfl hb21 (r_pT rfl hb22 rfl) rfl ?_
          refine k_p (r_pF rfl hb21 rfl) rfl ?_
          refine k_p (r_mv rfl) rfl ?_
          rcases Bool.eq_false_or_eq_true (decide (el27.PID ≥ el12.PID)) with hb38 | hb38
          · replace h := itT hb38 h
            refine k_x rfl rfl hb38 rfl ?_
            refine k_x rfl rfl hb38 rfl ?_
            refine k_x rfl rfl hb38 rfl ?_
            refine k_x rfl rfl hb38 rfl ?_
            refine k_x rfl rfl hb38 rfl ?_
            refine k_p (r_pT rfl hb38 rfl) rfl ?_
            refine k_z ?_
            refine t_then hK18 ?_
            refine t_T rfl rfl ?_
            refine t_seq fun K44 hK45 => ?_
            refine t_region ?_
            refine c_p (r_as rfl) rfl ?_
            refine t_nil ?_
            refine t_then hK45 ?_
            refine t_ret ?_
            exact tr (ret1 rfl (v_t rfl) (t_leave (hQ _ (Option.some.inj h)) () rfl (fun w Z hA => V0) .nil))
          · replace h := itF hb38 h
            refine kg_p rfl rfl hb38 (r_fa (off' := 0) Try.underlying38 rfl ti3 rfl rfl) rfl ?_
            refine kg_s rfl rfl hb38 (r_ld a0 Try.underlying3 rfl rfl rfl) rfl ?_
            refine kg_p rfl rfl hb38 (r_fa (off' := 0) Try.underlying28 rfl ti3 rfl rfl) rfl ?_
            refine kg_s rfl rfl hb38 (r_ld a1 Try.underlying3 rfl rfl rfl) rfl ?_
            refine kg_p rfl rfl hb38 (r_i rfl rfl rfl) rfl ?_
            refine k_p (r_pF rfl hb38 rfl) rfl ?_
            refine k_z ?_
            refine t_then hK18 ?_
            rcases Bool.eq_false_or_eq_true (decide (el12.PID ≥ z0.Next)) with hb48 | hb48
            · replace h := itT hb48 h
              refine t_T rfl hb48 ?_
              refine t_seq fun K49 hK50 => ?_
              refine t_region ?_
              refine c_p (r_as rfl) rfl ?_
              refine t_nil ?_
              refine t_then hK50 ?_
              refine t_ret ?_
              exact tr (ret1 rfl (v_t rfl) (t_leave (hQ _ (Option.some.inj h)) () rfl (fun w Z hA => V0) .nil))
            · replace h := itF hb48 h
              refine t_F rfl hb48 ?_
              refine t_skip ?_
              exact t_norm (t_go (J60 h) ⟨rfl, rfl, rfl, trivial⟩ (.cons e1 (.cons e0 .nil)) (fun w Z hA => V1 a4 hA (V1 a2 hA (V0))))
        · replace h := itF hb22 h
          refine k_x rfl rfl hb22 rfl ?_
          refine k_x rfl rfl hb22 rfl ?_
          refine k_x rfl rfl hb22 rfl ?_
          refine k_x rfl rfl hb22 rfl ?_
          refine k_x rfl rfl hb22 rfl ?_
          refine k_x rfl rfl hb22 rfl ?_
          refine k_x rfl rfl hb22 rfl ?_
          refine k_x rfl rfl hb22 rfl ?_
          refine k_x rfl rfl hb22 rfl ?_
          refine k_x rfl rfl hb22 rfl ?_
          refine kg_p rfl rfl hb21 (r_pF rfl hb22 rfl) rfl ?_
          refine k_p (r_pF rfl hb21 rfl) rfl ?_
          refine k_p (r_mv rfl) rfl ?_
          refine kg_p rfl rfl rfl (r_fa (off' := 0) Try.underlying38 rfl ti3 rfl rfl) rfl ?_
          refine kg_s rfl rfl rfl (r_ld a0 Try.underlying3 rfl rfl rfl) rfl ?_
          refine kg_p rfl rfl rfl (r_fa (off' := 0) Try.underlying28 rfl ti3 rfl rfl) rfl ?_
          refine kg_s rfl rfl rfl (r_ld a1 Try.underlying3 rfl rfl rfl) rfl ?_
          refine kg_p rfl rfl rfl (r_i rfl rfl rfl) rfl ?_
          refine k_p (r_pF rfl rfl rfl) rfl ?_
          refine k_z ?_
          refine t_then hK18 ?_
          rcases Bool.eq_false_or_eq_true (decide (el12.PID ≥ z0.Next)) with hb51 | hb51
          · replace h := itT hb51 h
            refine t_T rfl hb51 ?_
            refine t_seq fun K52 hK53 => ?_
            refine t_region ?_
            refine c_p (r_as rfl) rfl ?_
            refine t_nil ?_
            refine t_then hK53 ?_
            refine t_ret ?_
            exact tr (ret1 rfl (v_t rfl) (t_leave (hQ _ (Option.some.inj h)) () rfl (fun w Z hA => V0) .nil))
          · replace h := itF hb51 h
            refine t_F rfl hb51 ?_
            refine t_skip ?_
            exact t_norm (t_go (J60 h) ⟨rfl, rfl, rfl, trivial⟩ (.cons e1 (.cons e0 .nil)) (fun w Z hA => V1 a2 hA (V1 a0 hA (V0))))
  · replace h := itF hb19 h
    refine k_x rfl rfl hb19 rfl ?_
    refine k_x rfl rfl hb19 rfl ?_
    refine k_x rfl rfl hb19 rfl ?_
    refine k_x rfl rfl hb19 rfl ?_
    refine k_xU rfl rfl rfl ?_
    refine k_xU rfl rfl rfl ?_
    refine k_xU rfl rfl rfl ?_
    refine k_x rfl rfl hb19 rfl ?_
    refine k_p (r_pF rfl hb19 rfl) rfl ?_
    refine k_p (r_mv rfl) rfl ?_
    refine kg_p rfl rfl rfl (r_mv rfl) rfl ?_
    refine kg_p rfl rfl rfl (r_i rfl rfl rfl) rfl ?_
    refine kg_p rfl rfl rfl (r_mv rfl) rfl ?_
    rcases Bool.eq_false_or_eq_true (decide (z1 > 0)) with hb23 | hb23
    · replace h := itT hb23 h
      refine kg_p rfl rfl hb23 (r_fa (off' := 2) Try.underlying28 rfl ti26 rfl rfl) rfl ?_
      refine kg_s rfl rfl hb23 (r_ld a1 Try.underlying26 rfl rfl rfl) rfl ?_
      refine kg_p rfl rfl hb23 (r_mv rfl) rfl ?_
      refine kg_p rfl rfl hb23 (r_i rfl rfl rfl) rfl ?_
      obtain ⟨el31, hel31, h⟩ := bs h
      refine t_q a2 hel31 fun q28 hq29 hm30 => ?_
      refine kg_p rfl rfl hb23 (r_idx hq29 hm30 hel31 Try.underlying26 ti38 rfl rfl) rfl ?_
      refine t_qf hq29 0 fun q34 hq35 => ?_
      refine kg_p rfl rfl hb23 (r_fai hq29 hq35 Try.underlying38 rfl ti3 rfl rfl) rfl ?_
      refine t_op k_api_Process_opens a2 hel31 fun t37 => ?_
      refine kg_s rfl rfl hb23 (r_e1 a1 hq35 Try.underlying3 rfl rfl rfl) rfl ?_
      refine kg_p rfl rfl hb23 (r_fa (off' := 0) Try.underlying38 rfl ti3 rfl rfl) rfl ?_
      refine kg_s rfl rfl hb23 (r_ld a0 Try.underlying3 rfl rfl rfl) rfl ?_
      refine kg_p rfl rfl hb23 (r_i rfl rfl rfl) rfl ?_
      refine kg_p rfl rfl rfl (r_pT rfl hb23 rfl) rfl ?_
      refine k_p (r_pF rfl rfl rfl) rfl ?_
      refine k_p (r_mv rfl) rfl ?_
      rcases Bool.eq_false_or_eq_true (decide (el31.PID ≥ el12.PID)) with hb39 | hb39
      · replace h := itT hb39 h
        refine k_x rfl rfl hb39 rfl ?_
        refine k_x rfl rfl hb39 rfl ?_
        refine k_x rfl rfl hb39 rfl ?_
        refine k_x rfl rfl hb39 rfl ?_
        refine k_x rfl rfl hb39 rfl ?_
        refine k_p (r_pT rfl hb39 rfl) rfl ?_
        refine k_z ?_
        refine t_then hK18 ?_
        refine t_T rfl rfl ?_
        refine t_seq fun K46 hK47 => ?_
        refine t_region ?_
        refine c_p (r_as rfl) rfl ?_
        refine t_nil ?_
        refine t_then hK47 ?_
        refine t_ret ?_
        exact tr (ret1 rfl (v_t rfl) (t_leave (hQ _ (Option.some.inj h)) () rfl (fun w Z hA => V0) .nil))
      · replace h := itF hb39 h
        refine kg_p rfl rfl hb39 (r_fa (off' := 0) Try.underlying38 rfl ti3 rfl rfl) rfl ?_
        refine kg_s rfl rfl hb39 (r_ld a0 Try.underlying3 rfl rfl rfl) rfl ?_
        refine kg_p rfl rfl hb39 (r_fa (off' := 0) Try.underlying28 rfl ti3 rfl rfl) rfl ?_
        refine kg_s rfl rfl hb39 (r_ld a1 Try.underlying3 rfl rfl rfl) rfl ?_
        refine kg_p rfl rfl hb39 (r_i rfl rfl rfl) rfl ?_
        refine k_p (r_pF rfl hb39 rfl) rfl ?_
        refine k_z ?_
        refine t_then hK18 ?_
        rcases Bool.eq_false_or_eq_true (decide (el12.PID ≥ z0.Next)) with hb54 | hb54
        · replace h := itT hb54 h
          refine t_T rfl hb54 ?_
          refine t_seq fun K55 hK56 => ?_
          refine t_region ?_
          refine c_p (r_as rfl) rfl ?_
          refine t_nil ?_
          refine t_then hK56 ?_
          refine t_ret ?_
          exact tr (ret1 rfl (v_t rfl) (t_leave (hQ _ (Option.some.inj h)) () rfl (fun w Z hA => V0) .nil))
        · replace h := itF hb54 h
          refine t_F rfl hb54 ?_
          refine t_skip ?_
          exact t_norm (t_go (J60 h) ⟨rfl, rfl, rfl, trivial⟩ (.cons e1 (.cons e0 .nil)) (fun w Z hA => V1 a4 hA (V1 a2 hA (V0))))
    · replace h := itF hb23 h
      refine k_x rfl rfl hb23 rfl ?_
      refine k_x rfl rfl hb23 rfl ?_
      refine k_x rfl rfl hb23 rfl ?_
      refine k_x rfl rfl hb23 rfl ?_
      refine k_x rfl rfl hb23 rfl ?_
      refine k_x rfl rfl hb23 rfl ?_
      refine k_x rfl rfl hb23 rfl ?_
      refine k_x rfl rfl hb23 rfl ?_
      refine k_x rfl rfl hb23 rfl ?_
      refine k_x rfl rfl hb23 rfl ?_
      refine kg_p rfl rfl rfl (r_pF rfl hb23 rfl) rfl ?_
      refine k_p (r_pF rfl rfl rfl) rfl ?_
      refine k_p (r_mv rfl) rfl ?_
      refine kg_p rfl rfl rfl (r_fa (off' := 0) Try.underlying38 rfl ti3 rfl rfl) rfl ?_
      refine kg_s rfl rfl rfl (r_ld a0 Try.underlying3 rfl rfl rfl) rfl ?_
      refine kg_p rfl rfl rfl (r_fa (off' := 0) Try.underlying28 rfl ti3 rfl rfl) rfl ?_
      refine kg_s rfl rfl rfl (r_ld a1 Try.underlying3 rfl rfl rfl) rfl ?_
      refine kg_p rfl rfl rfl (r_i rfl rfl rfl) rfl ?_
      refine k_p (r_pF rfl rfl rfl) rfl ?_
      refine k_z ?_
      refine t_then hK18 ?_
      rcases Bool.eq_false_or_eq_true (decide (el12.PID ≥ z0.Next)) with hb57 | hb57
      · replace h := itT hb57 h
        refine t_T rfl hb57 ?_
        refine t_seq fun K58 hK59 => ?_
        refine t_region ?_
        refine c_p (r_as rfl) rfl ?_
        refine t_nil ?_
        refine t_then hK59 ?_
        refine t_ret ?_
        exact tr (ret1 rfl (v_t rfl) (t_leave (hQ _ (Option.some.inj h)) () rfl (fun w Z hA => V0) .nil))
      · replace h := itF hb57 h
        refine t_F rfl hb57 ?_
        refine t_skip ?_
        exact t_norm (t_go (J60 h) ⟨rfl, rfl, rfl, trivial⟩ (.cons e1 (.cons e0 .nil)) (fun w Z hA => V1 a2 hA (V1 a0 hA (V0))))
end Go.Proofs.Ytanimjbmkhpnaaa.Gx
