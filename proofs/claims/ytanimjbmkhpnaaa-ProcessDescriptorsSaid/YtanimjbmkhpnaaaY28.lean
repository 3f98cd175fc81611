/- Function 28, kaudit/process.CloseFile: what it answers as a plain function, and that the Go code comes to exactly that (where the plain function gives an answer). -/
import Derived.Test.YtanimjbmkhpnaaaYT
import Derived.Test.YtanimjbmkhpnaaaY37
import Derived.Test.YtanimjbmkhpnaaaY54
set_option linter.unusedVariables false
set_option linter.unusedSimpArgs false
namespace Go.Proofs.Ytanimjbmkhpnaaa.Gx
open Go.Gx Go.RowKit
/-! ### kaudit/process.CloseFile: function 28 -/
def f_process_CloseFile_j10 (x410 : Int) (x411 : Int) (x415 : List api_Process) (x416 : Int) : Option (api_Table × Int) := some ((⟨x410, x411, x415⟩ : api_Table), x416)
def f_process_CloseFile_j9 (x398 : Int) (x399 : Int) (x403 : List api_Process) (x404 : Bool) (x405 : Int) : Option (api_Table × Int) := f_process_CloseFile_j10 x398 x399 x403 x405
def f_process_CloseFile_j8 (y45 : api_Table) (x381 : List api_Process) (x382 : Int) : Option (api_Table × Int) := if (x382 != 0) = true then (f_process_CloseFile_j9 0 0 ([] : List api_Process) false x382) else (f_process_CloseFile_j9 y45.Next y45.NextSession x381 true 0)
def f_process_CloseFile_j7 (y34 : Int × Bool) (y45 : api_Table) (el52 : api_Process) (x376 : List api_Descriptor) (x377 : Int) : Option (api_Table × Int) := f_process_CloseFile_j8 y45 (y45.Processes.set y34.1.toNat (⟨el52.PID, el52.PPID, el52.UID, el52.EUID, el52.GID, el52.EGID, el52.AUID, el52.Session, el52.Cwd, el52.Comm, el52.Exe, x376, el52.Audited⟩ : api_Process)) x377
def f_process_CloseFile_j6 (y34 : Int × Bool) (y45 : api_Table) (el52 : api_Process) (x366 : Int) (x370 : List api_Descriptor) : Option (api_Table × Int) := f_process_CloseFile_j7 y34 y45 el52 x370 x366
def f_process_CloseFile_j5 (y34 : Int × Bool) (y45 : api_Table) (el52 : api_Process) (x352 : List api_Descriptor) : Option (api_Table × Int) := if ((x352.length : Int) == (el52.Open.length : Int)) = true then (f_process_CloseFile_j6 y34 y45 el52 9 x352) else (f_process_CloseFile_j6 y34 y45 el52 0 x352)
def f_process_CloseFile_j4 (y34 : Int × Bool) (y45 : api_Table) (el52 : api_Process) (x344 : List api_Descriptor) : Option (api_Table × Int) := f_process_CloseFile_j5 y34 y45 el52 x344
def f_process_CloseFile_j3 (y34 : Int × Bool) (y45 : api_Table) (el52 : api_Process) (x326 : List api_Descriptor) (x327 : Int) : Option (api_Table × Int) := ck (cutOk x326 x327 (x326.length : Int)) <| ck (cutOk (zeroed (⟨0, (⟨0, 0⟩ : api_File), 0⟩ : api_Descriptor) x326 x327 (x326.length : Int)) 0 x327) <| f_process_CloseFile_j4 y34 y45 el52 (cut (zeroed (⟨0, (⟨0, 0⟩ : api_File), 0⟩ : api_Descriptor) x326 x327 (x326.length : Int)) 0 x327)
def f_process_CloseFile_l2 (z2 : Int) (y34 : Int × Bool) (y45 : api_Table) (el52 : api_Process) : Nat → List api_Descriptor → Int → Int → Option (api_Table × Int)
  | 0, _, _, _ => none
  | k289 + 1, x284, x285, x286 => if (decide (x286 < (x284.length : Int))) = true then ((at_ x284 x286).bind fun el303 => if (el303.FD == z2) = true then (f_process_CloseFile_l2 z2 y34 y45 el52 k289 x284 x285 (IntKind.wrap .i64 (x286 + 1))) else ((at_ x284 x285).bind fun el323 => f_process_CloseFile_l2 z2 y34 y45 el52 k289 (x284.set x285.toNat el303) (IntKind.wrap .i64 (x285 + 1)) (IntKind.wrap .i64 (x286 + 1)))) else (f_process_CloseFile_j3 y34 y45 el52 x284 x285)
def f_process_CloseFile_j2 (z2 : Int) (y34 : Int × Bool) (y45 : api_Table) (el52 : api_Process) (x192 : Int) : Option (api_Table × Int) := if (x192 == (-1)) = true then (f_process_CloseFile_j4 y34 y45 el52 el52.Open) else (f_process_CloseFile_l2 z2 y34 y45 el52 ((((el52.Open.length : Int) : Int) - ((IntKind.wrap .i64 (x192 + 1)))).toNat + 1) el52.Open x192 (IntKind.wrap .i64 (x192 + 1)))
def f_process_CloseFile_j1 (z2 : Int) (y34 : Int × Bool) (y45 : api_Table) (el52 : api_Process) (x189 : Int) : Option (api_Table × Int) := f_process_CloseFile_j2 z2 y34 y45 el52 x189
def f_process_CloseFile_l1 (z2 : Int) (y34 : Int × Bool) (y45 : api_Table) (el52 : api_Process) : Nat → Int → Option (api_Table × Int)
  | 0, _ => none
  | k157 + 1, x154 => if (decide (x154 < (el52.Open.length : Int))) = true then ((at_ el52.Open x154).bind fun el173 => if (el173.FD == z2) = true then (f_process_CloseFile_j1 z2 y34 y45 el52 x154) else (f_process_CloseFile_l1 z2 y34 y45 el52 k157 (IntKind.wrap .i64 (x154 + 1)))) else (f_process_CloseFile_j1 z2 y34 y45 el52 (-1))
def f_process_CloseFile (z0 : api_Table) (z1 : Int) (z2 : Int) : Option (api_Table × Int) := (f_process_place z0 z1).bind fun y34 => if y34.2 = true then ((f_own_Table z0).bind fun y45 => (at_ y45.Processes y34.1).bind fun el52 => f_process_CloseFile_l1 z2 y34 y45 el52 ((((el52.Open.length : Int) : Int) - (0)).toNat + 1) 0) else (f_process_CloseFile_j9 0 0 ([] : List api_Process) false 3)
set_option maxHeartbeats 4000000 in
set_option maxRecDepth 100000 in
theorem C28 (z0 : api_Table) (z1 : Int) (z2 : Int) (p1 : Option Addr) (m2 : Nat) (c3 : Nat) (r : api_Table × Int) (h : f_process_CloseFile z0 z1 z2 = some r) : FunG Try.prog 28 #[.agg #[.int .i64 z0.Next, .int .i64 z0.NextSession, .slice p1 m2 c3], .int .i64 z1, .int .i64 z2] [vw (kSlice 38 k_api_Process) z0.Processes [.slice p1 m2 c3]] [] (fun t : (Option Addr × Nat × Nat) => .tuple #[.agg #[.int .i64 r.1.Next, .int .i64 r.1.NextSession, .slice t.1 t.2.1 t.2.2], .int .i64 r.2]) (fun t => []) (fun t => [[row 38 k_api_Process r.1.Processes (.slice t.1 t.2.1 t.2.2)]]) := by
  unfold f_process_CloseFile at h
  refine t_begin (args := [.agg #[.int .i64 z0.Next, .int .i64 z0.NextSession, .slice p1 m2 c3], .int .i64 z1, .int .i64 z2]) Try.func28 rfl Try.ntmps28 rfl fun c R hR => ?_
  have hQ : ∀ X, X = r → ∀ w2 (t : (Option Addr × Nat × Nat)), PostG c.w0 w2 c.M c.Y [] [[row 38 k_api_Process X.1.Processes (.slice t.1 t.2.1 t.2.2)]] → R (.returned (.tuple #[.agg #[.int .i64 X.1.Next, .int .i64 X.1.NextSession, .slice t.1 t.2.1 t.2.2], .int .i64 X.2])) w2 := fun X e => by subst e; exact hR
  refine t_seq fun K4 hK5 => ?_
  refine t_region ?_
  refine nx (t_bx (cs := [.int .i64 z0.Next, .int .i64 z0.NextSession, .slice p1 m2 c3]) rfl rfl rfl fun g6 => ?_)
  refine nx (t_bx (cs := [.int .i64 z2]) rfl rfl rfl fun g7 => ?_)
  refine nx (t_al (cs := [.int .i64 0, .int .i64 0, .slice none 0 0]) ti28 rfl rfl fun g8 => ?_)
  refine c_p (r_as rfl) rfl ?_
  refine t_nil ?_
  refine t_then hK5 ?_
  refine t_seq fun K9 hK10 => ?_
  refine t_region ?_
  refine c_s (r_ldA a2 Try.underlying28 rfl ti28 rfl rfl) rfl ?_
  refine c_p (r_mv rfl) rfl ?_
  refine c_p (r_mf (vs := [.pointer (some ⟨g7, 0, none⟩)]) rfl) rfl ?_
  refine nx (t_in (args := [.agg #[.int .i64 z0.Next, .int .i64 z0.NextSession, .slice p1 m2 c3], .int .i64 z1, .func (.func 49) #[] #[.pointer (some ⟨g7, 0, none⟩)]]) (cap := []) (all := [.agg #[.int .i64 z0.Next, .int .i64 z0.NextSession, .slice p1 m2 c3], .int .i64 z1, .func (.func 49) #[] #[.pointer (some ⟨g7, 0, none⟩)]]) rfl rfl Try.func34 nm34 rfl rfl rfl Try.ntmps34 rfl fun R11 k12 hk13 hR14 => ?_)
  have J417 : ∀ (x410 : Int) (x411 : Int) (p412 : Option Addr) (m413 : Nat) (c414 : Nat) (x415 : List api_Process) (x416 : Int), f_process_CloseFile_j10 x410 x411 x415 x416 = some r → T 14 c [] [[blk g8 [.int .i64 0, .int .i64 0, .slice none 0 0] 28], [row 38 k_api_Process x415 (.slice p412 m413 c414)]] [(6, .pointer (some ⟨g8, 0, none⟩)), (7, .int .i64 0), (11, .tuple #[.agg #[.int .i64 x410, .int .i64 x411, .slice p412 m413 c414], .int .i64 x416])] k12 := by
    intro x410 x411 p412 m413 c414 x415 x416 h418
    unfold f_process_CloseFile_j10 at h418
    refine ti hk13 ?_
    refine c_p (r_ex rfl rfl) rfl ?_
    refine c_p (r_ex rfl rfl) rfl ?_
    refine nx (t_st u0 ti28 rfl rfl rfl rfl rfl (.t (.s (.s (.s .z)))) ?_)
    refine c_p (r_as rfl) rfl ?_
    refine t_nil ?_
    refine t_then hK10 ?_
    refine t_ret ?_
    exact ret2 rfl (v_N rfl a0 Try.underlying28 rfl ti28 rfl) (v_t rfl) (t_leave (hQ _ (Option.some.inj h418)) (p412, m413, c414) rfl (fun w Z hA => V0) (.cons e1 .nil))
  refine t_seq fun K15 hK16 => ?_
  refine t_region ?_
  refine nx (t_bx (cs := [.int .i64 z0.Next, .int .i64 z0.NextSession, .slice p1 m2 c3]) rfl rfl rfl fun g17 => ?_)
  refine nx (t_bx (cs := [.func (.func 49) #[] #[.pointer (some ⟨g7, 0, none⟩)]]) rfl rfl rfl fun g18 => ?_)
  refine nx (t_al (cs := [.int .i64 0, .int .i64 0, .slice none 0 0]) ti28 rfl rfl fun g19 => ?_)
  refine c_p (r_as rfl) rfl ?_
  refine t_nil ?_
  refine t_then hK16 ?_
  refine t_seq fun K20 hK21 => ?_
  refine t_region ?_
  refine c_s (r_ldA a2 Try.underlying28 rfl ti28 rfl rfl) rfl ?_
  refine c_p (r_mv rfl) rfl ?_
  refine c_p (r_mf (vs := [.pointer (some ⟨g18, 0, none⟩)]) rfl) rfl ?_
  refine nx (t_in (args := [.agg #[.int .i64 z0.Next, .int .i64 z0.NextSession, .slice p1 m2 c3], .int .i64 z1, .func (.func 57) #[] #[.pointer (some ⟨g18, 0, none⟩)]]) (cap := []) (all := [.agg #[.int .i64 z0.Next, .int .i64 z0.NextSession, .slice p1 m2 c3], .int .i64 z1, .func (.func 57) #[] #[.pointer (some ⟨g18, 0, none⟩)]]) rfl rfl Try.func56 nm56 rfl rfl rfl Try.ntmps56 rfl fun R22 k23 hk24 hR25 => ?_)
  have J406 : ∀ (x398 : Int) (x399 : Int) (p400 : Option Addr) (m401 : Nat) (c402 : Nat) (x403 : List api_Process) (x404 : Bool) (x405 : Int), f_process_CloseFile_j9 x398 x399 x403 x404 x405 = some r → T 20 c [vw (kSlice 38 k_api_Process) z0.Processes [.slice p1 m2 c3]] [[blk g17 [.int .i64 z0.Next, .int .i64 z0.NextSession, .slice p1 m2 c3] 28], [blk g19 [.int .i64 0, .int .i64 0, .slice none 0 0] 28], [row 38 k_api_Process x403 (.slice p400 m401 c402)], [blk g8 [.int .i64 0, .int .i64 0, .slice none 0 0] 28]] [(3, .pointer (some ⟨g17, 0, none⟩)), (6, .pointer (some ⟨g19, 0, none⟩)), (14, .tuple #[.agg #[.int .i64 x398, .int .i64 x399, .slice p400 m401 c402], .bool x404, .int .i64 x405])] k23 := by
    intro x398 x399 p400 m401 c402 x403 x404 x405 h407
    unfold f_process_CloseFile_j9 at h407
    refine ti hk24 ?_
    refine c_p (r_mv rfl) rfl ?_
    refine c_p (r_ex rfl rfl) rfl ?_
    refine c_p (r_ex rfl rfl) rfl ?_
    refine c_p (r_ex rfl rfl) rfl ?_
    refine nx (t_st u0 ti28 rfl rfl rfl rfl rfl (.t (.s (.s (.s .z)))) ?_)
    refine c_p (r_as rfl) rfl ?_
    refine c_p (r_as rfl) rfl ?_
    refine t_nil ?_
    refine t_then hK21 ?_
    refine t_seq fun K408 hK409 => ?_
    refine t_region ?_
    refine c_s (r_ldA a0 Try.underlying28 rfl ti28 rfl rfl) rfl ?_
    refine c_p (r_mv rfl) rfl ?_
    refine nx (t_st u1 ti28 rfl rfl rfl rfl rfl (.t (.s (.s (.s .z)))) ?_)
    refine c_p (r_as rfl) rfl ?_
    refine t_nil ?_
    refine t_then hK409 ?_
    refine t_ret ?_
    refine ret2 rfl (v_N rfl a1 Try.underlying28 rfl ti28 rfl) (v_t rfl) (t_bk hR14 ?_)
    exact t_go (J417 x398 x399 p400 m401 c402 x403 x405 h407) ⟨rfl, rfl, rfl, trivial⟩ (.cons e3 (.cons e2 .nil)) (fun w Z hA => V0)
  refine t_seq fun K26 hK27 => ?_
  refine t_region ?_
  refine nx (t_bx (cs := [.int .i64 z0.Next, .int .i64 z0.NextSession, .slice p1 m2 c3]) rfl rfl rfl fun g28 => ?_)
  refine nx (t_al (cs := [.int .i64 0, .int .i64 0, .slice none 0 0]) ti28 rfl rfl fun g29 => ?_)
  refine c_p (r_as rfl) rfl ?_
  refine c_p (r_as rfl) rfl ?_
  refine t_nil ?_
  refine t_then hK27 ?_
  refine t_seq fun K30 hK31 => ?_
  refine t_region ?_
  refine c_p (r_as rfl) rfl ?_
  refine t_nil ?_
  refine t_then hK31 ?_
  refine t_seq fun K32 hK33 => ?_
  refine t_region ?_
  refine c_s (r_ldA a1 Try.underlying28 rfl ti28 rfl rfl) rfl ?_
  refine c_p (r_mv rfl) rfl ?_
  obtain ⟨y34, hy34, h⟩ := bs h
  refine nx (t_ca (C37 _ _ _ _ _ _ hy34) Try.func37 nm37 rfl rfl rfl .nil (fun w Z hA => (V1 a0 hA V0)) rfl fun t35 => ?_)
  refine c_p (r_mv rfl) rfl ?_
  refine c_p (r_ex rfl rfl) rfl ?_
  refine c_p (r_ex rfl rfl) rfl ?_
  refine c_p (r_as rfl) rfl ?_
  refine c_p (r_as rfl) rfl ?_
  refine t_nil ?_
  refine t_then hK33 ?_
  refine t_seq fun K36 hK37 => ?_
  refine t_seq fun K38 hK39 => ?_
  refine t_region ?_
  refine c_p (r_mv rfl) rfl ?_
  refine c_p (r_not rfl) rfl ?_
  refine t_nil ?_
  refine t_then hK39 ?_
  rcases Bool.eq_false_or_eq_true y34.2 with hb40 | hb40
  · replace h := itT hb40 h
    refine t_F rfl (congrArg Bool.not hb40) ?_
    refine t_skip ?_
    refine t_then hK37 ?_
    refine t_seq fun K43 hK44 => ?_
    refine t_region ?_
    refine c_s (r_ldA a1 Try.underlying28 rfl ti28 rfl rfl) rfl ?_
    obtain ⟨y45, hy45, h⟩ := bs h
    refine nx (t_ca (C54 _ _ _ _ _ hy45) Try.func54 nm54 rfl rfl rfl .nil (fun w Z hA => (V1 a0 hA V0)) rfl fun t46 => ?_)
    refine nx (t_st u2 ti28 rfl rfl rfl rfl rfl (.t (.s (.s (.s .z)))) ?_)
    refine t_nil ?_
    refine t_then hK44 ?_
    refine t_seq fun K47 hK48 => ?_
    have J383 : ∀ (x381 : List api_Process) (x382 : Int), f_process_CloseFile_j8 y45 x381 x382 = some r → T 42 c [vw (kSlice 38 k_api_Process) z0.Processes [.slice p1 m2 c3]] [[row 38 k_api_Process x381 (.slice t46.1 t46.2.1 t46.2.2)], [blk g28 [.int .i64 y45.Next, .int .i64 y45.NextSession, .slice t46.1 t46.2.1 t46.2.2] 28], [blk g29 [.int .i64 0, .int .i64 0, .slice none 0 0] 28], [blk g17 [.int .i64 z0.Next, .int .i64 z0.NextSession, .slice p1 m2 c3] 28], [blk g19 [.int .i64 0, .int .i64 0, .slice none 0 0] 28], [blk g8 [.int .i64 0, .int .i64 0, .slice none 0 0] 28]] [(3, .pointer (some ⟨g28, 0, none⟩)), (6, .pointer (some ⟨g29, 0, none⟩)), (9, .bool false), (12, .bool true), (13, .int .i64 x382)] K47 := by
      intro x381 x382 h384
      unfold f_process_CloseFile_j8 at h384
      refine ti hK48 ?_
      refine t_seq fun K385 hK386 => ?_
      refine t_seq fun K387 hK388 => ?_
      refine t_region ?_
      refine c_p (r_mv rfl) rfl ?_
      refine c_p (r_i rfl rfl rfl) rfl ?_
      refine t_nil ?_
      refine t_then hK388 ?_
      rcases Bool.eq_false_or_eq_true (x382 != 0) with hb389 | hb389
      · replace h384 := itT hb389 h384
        refine t_T rfl hb389 ?_
        refine t_seq fun K390 hK391 => ?_
        refine t_region ?_
        refine c_p (r_bu (ps := []) (cs := [.int .i64 0, .int .i64 0, .slice none 0 0]) rfl (by kernel_rfl)) rfl ?_
        refine c_p (r_mv rfl) rfl ?_
        refine c_p (r_mv rfl) rfl ?_
        refine nx (t_st u2 ti28 rfl rfl rfl rfl rfl (.t (.s (.s (.s .z)))) ?_)
        refine c_p (r_as rfl) rfl ?_
        refine c_p (r_as rfl) rfl ?_
        refine t_nil ?_
        refine t_then hK391 ?_
        refine t_ret ?_
        refine tr (ret3 rfl (v_N rfl a2 Try.underlying28 rfl ti28 rfl) (v_t rfl) (v_t rfl) (t_bk hR25 ?_))
        refine t_nr 38 k_api_Process ?_
        exact t_go (J406 0 0 none 0 0 ([] : List api_Process) false x382 h384) ⟨rfl, rfl, rfl, trivial⟩ (.cons e4 (.cons e4 (.cons e0 (.cons e3 .nil)))) (fun w Z hA => V1 a0 hA (V0))
      · replace h384 := itF hb389 h384
        refine t_F rfl hb389 ?_
        refine t_skip ?_
        refine t_then hK386 ?_
        refine t_seq fun K392 hK393 => ?_
        refine t_region ?_
        refine c_s (r_ldA a1 Try.underlying28 rfl ti28 rfl rfl) rfl ?_
        refine c_p (r_mv rfl) rfl ?_
        refine nx (t_st u2 ti28 rfl rfl rfl rfl rfl (.t (.s (.s (.s .z)))) ?_)
        refine c_p (r_as rfl) rfl ?_
        refine c_p (r_as rfl) rfl ?_
        refine t_nil ?_
        refine t_then hK393 ?_
        refine t_ret ?_
        refine ret3 rfl (v_N rfl a2 Try.underlying28 rfl ti28 rfl) (v_t rfl) (v_t rfl) (t_bk hR25 ?_)
        exact t_go (J406 y45.Next y45.NextSession t46.1 t46.2.1 t46.2.2 x381 true 0 h384) ⟨rfl, rfl, rfl, trivial⟩ (.cons e3 (.cons e3 (.cons e0 (.cons e2 .nil)))) (fun w Z hA => V1 a0 hA (V0))
    refine t_region ?_
    refine c_p (r_mv rfl) rfl ?_
    refine c_p (r_fa (off' := 2) Try.underlying28 rfl ti26 rfl rfl) rfl ?_
    refine c_s (r_ld a2 Try.underlying26 rfl rfl rfl) rfl ?_
    refine c_p (r_mv rfl) rfl ?_
    obtain ⟨el52, hel52, h⟩ := bs h
    refine t_qL a0 hel52 fun q49 hq50 hm51 => ?_
    refine c_p (r_idx hq50 hm51 hel52 Try.underlying26 ti38 rfl rfl) rfl ?_
    refine nx (t_in (args := [.pointer (some ⟨g28, 0, none⟩), .pointer (some q49)]) (cap := [.pointer (some ⟨g18, 0, none⟩)]) (all := [.pointer (some ⟨g28, 0, none⟩), .pointer (some q49), .pointer (some ⟨g18, 0, none⟩)]) rfl rfl Try.func57 nm57 rfl rfl rfl Try.ntmps57 rfl fun R53 k54 hk55 hR56 => ?_)
    have J378 : ∀ (p373 : Option Addr) (m374 : Nat) (c375 : Nat) (x376 : List api_Descriptor) (x377 : Int), f_process_CloseFile_j7 y34 y45 el52 x376 x377 = some r → T 42 c [vw (kSlice 38 k_api_Process) z0.Processes [.slice p1 m2 c3]] [[row 81 k_api_Descriptor x376 (.slice p373 m374 c375)], [hole 38 k_api_Process y45.Processes y34.1.toNat [.int .i64 el52.PID, .int .i64 el52.PPID, .int .i64 el52.UID, .int .i64 el52.EUID, .int .i64 el52.GID, .int .i64 el52.EGID, .int .i64 el52.AUID, .int .i64 el52.Session, .int .i64 el52.Cwd.Dev, .int .i64 el52.Cwd.Ino, .string el52.Comm, .string el52.Exe, .slice p373 m374 c375, .bool el52.Audited] (.slice t46.1 t46.2.1 t46.2.2)], [blk g28 [.int .i64 y45.Next, .int .i64 y45.NextSession, .slice t46.1 t46.2.1 t46.2.2] 28], [blk g29 [.int .i64 0, .int .i64 0, .slice none 0 0] 28], [blk g17 [.int .i64 z0.Next, .int .i64 z0.NextSession, .slice p1 m2 c3] 28], [blk g19 [.int .i64 0, .int .i64 0, .slice none 0 0] 28], [blk g8 [.int .i64 0, .int .i64 0, .slice none 0 0] 28]] [(3, .pointer (some ⟨g28, 0, none⟩)), (6, .pointer (some ⟨g29, 0, none⟩)), (9, .bool false), (32, .tuple #[.bool true, .int .i64 x377])] k54 := by
      intro p373 m374 c375 x376 x377 h379
      unfold f_process_CloseFile_j7 at h379
      refine ti hk55 ?_
      refine c_p (r_mv rfl) rfl ?_
      refine c_p (r_ex rfl rfl) rfl ?_
      refine c_p (r_ex rfl rfl) rfl ?_
      refine c_p (r_as rfl) rfl ?_
      refine c_p (r_as rfl) rfl ?_
      refine t_nil ?_
      refine t_cI (u := (⟨el52.PID, el52.PPID, el52.UID, el52.EUID, el52.GID, el52.EGID, el52.AUID, el52.Session, el52.Cwd, el52.Comm, el52.Exe, x376, el52.Audited⟩ : api_Process)) (t := (p373, m374, c375)) k_api_Process_shutsO (.cons e1 (.cons e0 .nil)) rfl (fun w Z hA => trivial) ?_
      have hn380 := at_set (u' := (⟨el52.PID, el52.PPID, el52.UID, el52.EUID, el52.GID, el52.EGID, el52.AUID, el52.Session, el52.Cwd, el52.Comm, el52.Exe, x376, el52.Audited⟩ : api_Process)) hel52
      exact t_norm (t_go (J383 (y45.Processes.set y34.1.toNat (⟨el52.PID, el52.PPID, el52.UID, el52.EUID, el52.GID, el52.EGID, el52.AUID, el52.Session, el52.Cwd, el52.Comm, el52.Exe, x376, el52.Audited⟩ : api_Process)) x377 h379) ⟨rfl, rfl, rfl, rfl, rfl, trivial⟩ (.cons e0 (.cons e0 (.cons e0 (.cons e0 (.cons e0 (.cons e0 .nil)))))) (fun w Z hA => V1 a0 hA (V0)))
    refine t_seq fun K57 hK58 => ?_
    refine t_region ?_
    refine c_p (r_as rfl) rfl ?_
    refine c_p (r_as rfl) rfl ?_
    refine t_nil ?_
    refine t_then hK58 ?_
    refine t_seq fun K59 hK60 => ?_
    refine t_region ?_
    refine c_s (r_ld a4 Try.underlying68 rfl rfl rfl) rfl ?_
    refine c_p (r_mv rfl) rfl ?_
    refine c_p (r_mv rfl) rfl ?_
    refine nx (t_in (args := [.pointer (some ⟨g28, 0, none⟩), .pointer (some q49)]) (cap := [.pointer (some ⟨g7, 0, none⟩)]) (all := [.pointer (some ⟨g28, 0, none⟩), .pointer (some q49), .pointer (some ⟨g7, 0, none⟩)]) rfl rfl Try.func49 nm49 rfl rfl rfl Try.ntmps49 rfl fun R61 k62 hk63 hR64 => ?_)
    have J371 : ∀ (x366 : Int) (p367 : Option Addr) (m368 : Nat) (c369 : Nat) (x370 : List api_Descriptor), f_process_CloseFile_j6 y34 y45 el52 x366 x370 = some r → T 11 c [vw (kSlice 38 k_api_Process) z0.Processes [.slice p1 m2 c3]] [[row 81 k_api_Descriptor x370 (.slice p367 m368 c369)], [hole 38 k_api_Process y45.Processes y34.1.toNat [.int .i64 el52.PID, .int .i64 el52.PPID, .int .i64 el52.UID, .int .i64 el52.EUID, .int .i64 el52.GID, .int .i64 el52.EGID, .int .i64 el52.AUID, .int .i64 el52.Session, .int .i64 el52.Cwd.Dev, .int .i64 el52.Cwd.Ino, .string el52.Comm, .string el52.Exe, .slice p367 m368 c369, .bool el52.Audited] (.slice t46.1 t46.2.1 t46.2.2)], [blk g28 [.int .i64 y45.Next, .int .i64 y45.NextSession, .slice t46.1 t46.2.1 t46.2.2] 28], [blk g29 [.int .i64 0, .int .i64 0, .slice none 0 0] 28], [blk g17 [.int .i64 z0.Next, .int .i64 z0.NextSession, .slice p1 m2 c3] 28], [blk g19 [.int .i64 0, .int .i64 0, .slice none 0 0] 28], [blk g8 [.int .i64 0, .int .i64 0, .slice none 0 0] 28]] [(5, .bool false), (6, .int .i64 0), (10, .int .i64 x366)] k62 := by
      intro x366 p367 m368 c369 x370 h372
      unfold f_process_CloseFile_j6 at h372
      refine ti hk63 ?_
      refine c_p (r_as rfl) rfl ?_
      refine c_p (r_as rfl) rfl ?_
      refine t_nil ?_
      refine t_then hK60 ?_
      refine t_ret ?_
      refine ret2 rfl (v_t rfl) (v_t rfl) (t_bk hR56 ?_)
      exact t_go (J378 p367 m368 c369 x370 x366 h372) ⟨rfl, rfl, rfl, rfl, trivial⟩ (.cons e0 (.cons e0 (.cons e0 (.cons e0 (.cons e0 (.cons e0 (.cons e0 .nil))))))) (fun w Z hA => V1 a0 hA (V0))
    refine t_seq fun K65 hK66 => ?_
    refine t_region ?_
    refine c_p (r_as rfl) rfl ?_
    refine t_nil ?_
    refine t_then hK66 ?_
    refine t_seq fun K67 hK68 => ?_
    refine t_region ?_
    refine c_p (r_mv rfl) rfl ?_
    refine c_p (r_nc rfl) rfl ?_
    refine t_qf hq50 12 fun q69 hq70 => ?_
    refine c_p (r_fai hq50 hq70 Try.underlying38 rfl ti36 rfl rfl) rfl ?_
    refine t_oI k_api_Process_opensO e0 hel52 fun t71 => ?_
    refine c_s (r_h1 a0 hq70 Try.underlying36 rfl rfl rfl) rfl ?_
    refine c_s (r_lnL a1 Try.underlying36 rfl) rfl ?_
    refine c_p (r_as rfl) rfl ?_
    refine t_nil ?_
    refine t_then hK68 ?_
    refine t_seq fun K72 hK73 => ?_
    have J353 : ∀ (p349 : Option Addr) (m350 : Nat) (c351 : Nat) (x352 : List api_Descriptor), f_process_CloseFile_j5 y34 y45 el52 x352 = some r → T 28 c [vw (kSlice 38 k_api_Process) z0.Processes [.slice p1 m2 c3]] [[row 81 k_api_Descriptor x352 (.slice p349 m350 c351)], [hole 38 k_api_Process y45.Processes y34.1.toNat [.int .i64 el52.PID, .int .i64 el52.PPID, .int .i64 el52.UID, .int .i64 el52.EUID, .int .i64 el52.GID, .int .i64 el52.EGID, .int .i64 el52.AUID, .int .i64 el52.Session, .int .i64 el52.Cwd.Dev, .int .i64 el52.Cwd.Ino, .string el52.Comm, .string el52.Exe, .slice p349 m350 c351, .bool el52.Audited] (.slice t46.1 t46.2.1 t46.2.2)], [blk g28 [.int .i64 y45.Next, .int .i64 y45.NextSession, .slice t46.1 t46.2.1 t46.2.2] 28], [blk g29 [.int .i64 0, .int .i64 0, .slice none 0 0] 28], [blk g17 [.int .i64 z0.Next, .int .i64 z0.NextSession, .slice p1 m2 c3] 28], [blk g19 [.int .i64 0, .int .i64 0, .slice none 0 0] 28], [blk g8 [.int .i64 0, .int .i64 0, .slice none 0 0] 28]] [(1, .pointer (some q49)), (6, .int .i64 (el52.Open.length : Int))] K72 := by
      intro p349 m350 c351 x352 h354
      unfold f_process_CloseFile_j5 at h354
      refine ti hK73 ?_
      refine t_seq fun K355 hK356 => ?_
      refine t_seq fun K357 hK358 => ?_
      refine t_region ?_
      refine c_p (r_mv rfl) rfl ?_
      refine c_p (r_nc rfl) rfl ?_
      refine t_qf hq50 12 fun q359 hq360 => ?_
      refine c_p (r_fai hq50 hq360 Try.underlying38 rfl ti36 rfl rfl) rfl ?_
      refine c_s (r_h1 a1 hq360 Try.underlying36 rfl rfl rfl) rfl ?_
      refine c_s (r_lnL a0 Try.underlying36 rfl) rfl ?_
      refine c_p (r_mv rfl) rfl ?_
      refine c_p (r_i rfl rfl rfl) rfl ?_
      refine t_nil ?_
      refine t_then hK358 ?_
      rcases Bool.eq_false_or_eq_true ((x352.length : Int) == (el52.Open.length : Int)) with hb361 | hb361
      · replace h354 := itT hb361 h354
        refine t_T rfl hb361 ?_
        refine t_seq fun K362 hK363 => ?_
        refine t_region ?_
        refine c_p (r_as rfl) rfl ?_
        refine t_nil ?_
        refine t_then hK363 ?_
        refine t_ret ?_
        refine tr (ret1 rfl (v_t rfl) (t_bk hR64 ?_))
        exact t_go (J371 9 p349 m350 c351 x352 h354) ⟨rfl, rfl, rfl, trivial⟩ (.cons e0 (.cons e0 (.cons e0 (.cons e0 (.cons e0 (.cons e0 (.cons e0 .nil))))))) (fun w Z hA => V1 a0 hA (V0))
      · replace h354 := itF hb361 h354
        refine t_F rfl hb361 ?_
        refine t_skip ?_
        refine t_then hK356 ?_
        refine t_seq fun K364 hK365 => ?_
        refine t_region ?_
        refine c_p (r_as rfl) rfl ?_
        refine t_nil ?_
        refine t_then hK365 ?_
        refine t_ret ?_
        refine ret1 rfl (v_t rfl) (t_bk hR64 ?_)
        exact t_go (J371 0 p349 m350 c351 x352 h354) ⟨rfl, rfl, rfl, trivial⟩ (.cons e0 (.cons e0 (.cons e0 (.cons e0 (.cons e0 (.cons e0 (.cons e0 .nil))))))) (fun w Z hA => V1 a0 hA (V0))
    refine t_region ?_
    refine c_p (r_mv rfl) rfl ?_
    refine c_p (r_mv rfl) rfl ?_
    refine c_p (r_nc rfl) rfl ?_
    refine t_qf hq50 12 fun q74 hq75 => ?_
    refine c_p (r_fai hq50 hq75 Try.underlying38 rfl ti36 rfl rfl) rfl ?_
    refine c_s (r_h1 a0 hq75 Try.underlying36 rfl rfl rfl) rfl ?_
    refine c_p (r_mf (vs := [.pointer (some ⟨g7, 0, none⟩)]) rfl) rfl ?_
    refine nx (t_in (args := [.slice t71.1 t71.2.1 t71.2.2, .func (.func 51) #[] #[.pointer (some ⟨g7, 0, none⟩)]]) (cap := []) (all := [.slice t71.1 t71.2.1 t71.2.2, .func (.func 51) #[] #[.pointer (some ⟨g7, 0, none⟩)]]) rfl rfl Try.func50 nm50 rfl rfl rfl Try.ntmps50 rfl fun R76 k77 hk78 hR79 => ?_)
    have J345 : ∀ (p341 : Option Addr) (m342 : Nat) (c343 : Nat) (x344 : List api_Descriptor), f_process_CloseFile_j4 y34 y45 el52 x344 = some r → T 28 c [vw (kSlice 38 k_api_Process) z0.Processes [.slice p1 m2 c3]] [[hole 38 k_api_Process y45.Processes y34.1.toNat [.int .i64 el52.PID, .int .i64 el52.PPID, .int .i64 el52.UID, .int .i64 el52.EUID, .int .i64 el52.GID, .int .i64 el52.EGID, .int .i64 el52.AUID, .int .i64 el52.Session, .int .i64 el52.Cwd.Dev, .int .i64 el52.Cwd.Ino, .string el52.Comm, .string el52.Exe, .slice t71.1 t71.2.1 t71.2.2, .bool el52.Audited] (.slice t46.1 t46.2.1 t46.2.2)], [row 81 k_api_Descriptor x344 (.slice p341 m342 c343)], [blk g28 [.int .i64 y45.Next, .int .i64 y45.NextSession, .slice t46.1 t46.2.1 t46.2.2] 28], [blk g29 [.int .i64 0, .int .i64 0, .slice none 0 0] 28], [blk g17 [.int .i64 z0.Next, .int .i64 z0.NextSession, .slice p1 m2 c3] 28], [blk g19 [.int .i64 0, .int .i64 0, .slice none 0 0] 28], [blk g8 [.int .i64 0, .int .i64 0, .slice none 0 0] 28]] [(1, .pointer (some q49)), (6, .int .i64 (el52.Open.length : Int)), (12, .pointer (some q49)), (18, .slice p341 m342 c343)] k77 := by
      intro p341 m342 c343 x344 h346
      unfold f_process_CloseFile_j4 at h346
      refine ti hk78 ?_
      refine c_p (r_nc rfl) rfl ?_
      refine t_qf hq50 12 fun q347 hq348 => ?_
      refine c_p (r_fai hq50 hq348 Try.underlying38 rfl ti36 rfl rfl) rfl ?_
      refine nx (t_hs u0 hq348 ti36 rfl rfl rfl rfl rfl (.s (.s (.s (.s (.s (.s (.s (.s (.s (.s (.s (.s (.t (.s .z)))))))))))))) ?_)
      refine t_nil ?_
      exact t_norm (t_go (J353 p341 m342 c343 x344 h346) ⟨rfl, rfl, trivial⟩ (.cons e1 (.cons e0 (.cons e0 (.cons e0 (.cons e0 (.cons e0 (.cons e0 .nil))))))) (fun w Z hA => V1 a0 hA (V0)))
    refine t_seq fun K80 hK81 => ?_
    refine t_region ?_
    refine c_p (r_as rfl) rfl ?_
    refine t_nil ?_
    refine t_then hK81 ?_
    refine t_seq fun K82 hK83 => ?_
    have J193 : ∀ (x192 : Int), f_process_CloseFile_j2 z2 y34 y45 el52 x192 = some r → T 42 c [vw (kSlice 38 k_api_Process) z0.Processes [.slice p1 m2 c3]] [[row 81 k_api_Descriptor el52.Open (.slice t71.1 t71.2.1 t71.2.2)], [blk g7 [.int .i64 z2] 3], [hole 38 k_api_Process y45.Processes y34.1.toNat [.int .i64 el52.PID, .int .i64 el52.PPID, .int .i64 el52.UID, .int .i64 el52.EUID, .int .i64 el52.GID, .int .i64 el52.EGID, .int .i64 el52.AUID, .int .i64 el52.Session, .int .i64 el52.Cwd.Dev, .int .i64 el52.Cwd.Ino, .string el52.Comm, .string el52.Exe, .slice t71.1 t71.2.1 t71.2.2, .bool el52.Audited] (.slice t46.1 t46.2.1 t46.2.2)], [blk g28 [.int .i64 y45.Next, .int .i64 y45.NextSession, .slice t46.1 t46.2.1 t46.2.2] 28], [blk g29 [.int .i64 0, .int .i64 0, .slice none 0 0] 28], [blk g17 [.int .i64 z0.Next, .int .i64 z0.NextSession, .slice p1 m2 c3] 28], [blk g19 [.int .i64 0, .int .i64 0, .slice none 0 0] 28], [blk g8 [.int .i64 0, .int .i64 0, .slice none 0 0] 28]] [(0, .slice t71.1 t71.2.1 t71.2.2), (1, .func (.func 51) #[] #[.pointer (some ⟨g7, 0, none⟩)]), (5, .int .i64 x192)] K82 := by
      intro x192 h194
      unfold f_process_CloseFile_j2 at h194
      refine ti hK83 ?_
      refine t_seq fun K195 hK196 => ?_
      refine t_seq fun K197 hK198 => ?_
      refine t_region ?_
      refine c_p (r_mv rfl) rfl ?_
      refine c_p (r_i rfl rfl rfl) rfl ?_
      refine t_nil ?_
      refine t_then hK198 ?_
      rcases Bool.eq_false_or_eq_true (x192 == (-1)) with hb199 | hb199
      · replace h194 := itT hb199 h194
        refine t_T rfl hb199 ?_
        refine t_seq fun K200 hK201 => ?_
        refine t_region ?_
        refine c_p (r_mv rfl) rfl ?_
        refine c_p (r_as rfl) rfl ?_
        refine t_nil ?_
        refine t_then hK201 ?_
        refine t_ret ?_
        refine tr (ret1 rfl (v_t rfl) (t_bk hR79 ?_))
        exact t_go (J345 t71.1 t71.2.1 t71.2.2 el52.Open h194) ⟨rfl, rfl, rfl, rfl, trivial⟩ (.cons e2 (.cons e0 (.cons e1 (.cons e1 (.cons e1 (.cons e1 (.cons e1 .nil))))))) (fun w Z hA => V1 a0 hA (V0))
      · replace h194 := itF hb199 h194
        refine t_F rfl hb199 ?_
        refine t_skip ?_
        refine t_then hK196 ?_
        refine t_seq fun K202 hK203 => ?_
        have J328 : ∀ (x326 : List api_Descriptor) (x327 : Int), f_process_CloseFile_j3 y34 y45 el52 x326 x327 = some r → T 42 c [vw (kSlice 38 k_api_Process) z0.Processes [.slice p1 m2 c3]] [[row 81 k_api_Descriptor x326 (.slice t71.1 t71.2.1 t71.2.2)], [hole 38 k_api_Process y45.Processes y34.1.toNat [.int .i64 el52.PID, .int .i64 el52.PPID, .int .i64 el52.UID, .int .i64 el52.EUID, .int .i64 el52.GID, .int .i64 el52.EGID, .int .i64 el52.AUID, .int .i64 el52.Session, .int .i64 el52.Cwd.Dev, .int .i64 el52.Cwd.Ino, .string el52.Comm, .string el52.Exe, .slice t71.1 t71.2.1 t71.2.2, .bool el52.Audited] (.slice t46.1 t46.2.1 t46.2.2)], [blk g28 [.int .i64 y45.Next, .int .i64 y45.NextSession, .slice t46.1 t46.2.1 t46.2.2] 28], [blk g29 [.int .i64 0, .int .i64 0, .slice none 0 0] 28], [blk g17 [.int .i64 z0.Next, .int .i64 z0.NextSession, .slice p1 m2 c3] 28], [blk g19 [.int .i64 0, .int .i64 0, .slice none 0 0] 28], [blk g8 [.int .i64 0, .int .i64 0, .slice none 0 0] 28]] [(0, .slice t71.1 t71.2.1 t71.2.2), (5, .int .i64 x327)] K202 := by
          intro x326 x327 h329
          unfold f_process_CloseFile_j3 at h329
          refine ti hK203 ?_
          refine t_seq fun K330 hK331 => ?_
          refine t_region ?_
          refine c_p (r_mv rfl) rfl ?_
          refine c_p (r_mv rfl) rfl ?_
          obtain ⟨hc332, h329⟩ := ck_out h329
          refine nx (t_vw (i := x327) (j := (x326.length : Int)) a0 Try.underlying36 ti81 rfl (.inr ⟨_, _, rfl, rfl⟩) (.inl ⟨rfl, rfl⟩) hc332 rfl fun t333 hv334 => ?_)
          refine nx (t_clv (z0 := (⟨0, (⟨0, 0⟩ : api_File), 0⟩ : api_Descriptor)) (zc := [.int .i64 0, .int .i64 0, .int .i64 0, .int .i64 0]) u0 hv334 hc332 Try.underlying36 ti81 rfl rfl (k0 k_api_Descriptor_shutsO (⟨0, (⟨0, 0⟩ : api_File), 0⟩ : api_Descriptor) () (fun _ _ => hn0) (fun _ _ => trivial)) rfl ?_)
          refine t_nil ?_
          refine t_then hK331 ?_
          refine t_seq fun K335 hK336 => ?_
          refine t_region ?_
          refine c_p (r_mv rfl) rfl ?_
          refine c_p (r_mv rfl) rfl ?_
          obtain ⟨hc337, h329⟩ := ck_out h329
          refine nx (t_vw (i := 0) (j := x327) a0 Try.underlying36 ti81 rfl (.inl ⟨rfl, rfl⟩) (.inr ⟨_, _, rfl, rfl⟩) hc337 rfl fun t338 hv339 => ?_)
          refine c_p (r_as rfl) rfl ?_
          refine t_nil ?_
          refine t_then hK336 ?_
          refine t_ret ?_
          refine ret1 rfl (v_t rfl) (t_bk hR79 ?_)
          refine t_vm (i := 0) (j := x327) e0 hv339 hc337 (.inl rfl) ?_
          exact t_go (J345 t338.1 t338.2.1 t338.2.2 (cut (zeroed (⟨0, (⟨0, 0⟩ : api_File), 0⟩ : api_Descriptor) x326 x327 (x326.length : Int)) 0 x327) h329) ⟨rfl, rfl, rfl, rfl, trivial⟩ (.cons e1 (.cons e0 (.cons e0 (.cons e0 (.cons e0 (.cons e0 (.cons e0 .nil))))))) (fun w Z hA => V1 a0 hA (V0))
        refine t_seq fun K204 hK205 => ?_
        refine t_region ?_
        refine c_p (r_mv rfl) rfl ?_
        refine c_p (r_i rfl rfl rfl) rfl ?_
        refine c_p (r_as rfl) rfl ?_
        refine t_nil ?_
        refine t_then hK205 ?_
        refine t_block ?_
        refine t_lp fun k282 hk283 => ?_
        have LP287 : ∀ (k289 : Nat) (x284 : List api_Descriptor) (x285 : Int) (x286 : Int), f_process_CloseFile_l2 z2 y34 y45 el52 k289 x284 x285 x286 = some r → T 42 c [vw (kSlice 38 k_api_Process) z0.Processes [.slice p1 m2 c3]] [[row 81 k_api_Descriptor x284 (.slice t71.1 t71.2.1 t71.2.2)], [blk g7 [.int .i64 z2] 3], [hole 38 k_api_Process y45.Processes y34.1.toNat [.int .i64 el52.PID, .int .i64 el52.PPID, .int .i64 el52.UID, .int .i64 el52.EUID, .int .i64 el52.GID, .int .i64 el52.EGID, .int .i64 el52.AUID, .int .i64 el52.Session, .int .i64 el52.Cwd.Dev, .int .i64 el52.Cwd.Ino, .string el52.Comm, .string el52.Exe, .slice t71.1 t71.2.1 t71.2.2, .bool el52.Audited] (.slice t46.1 t46.2.1 t46.2.2)], [blk g28 [.int .i64 y45.Next, .int .i64 y45.NextSession, .slice t46.1 t46.2.1 t46.2.2] 28], [blk g29 [.int .i64 0, .int .i64 0, .slice none 0 0] 28], [blk g17 [.int .i64 z0.Next, .int .i64 z0.NextSession, .slice p1 m2 c3] 28], [blk g19 [.int .i64 0, .int .i64 0, .slice none 0 0] 28], [blk g8 [.int .i64 0, .int .i64 0, .slice none 0 0] 28]] [(0, .slice t71.1 t71.2.1 t71.2.2), (1, .func (.func 51) #[] #[.pointer (some ⟨g7, 0, none⟩)]), (5, .int .i64 x285), (6, .int .i64 x286)] k282 := by
          intro k289
          induction k289 with
          | zero => intro x284 x285 x286 h288; rewrite [f_process_CloseFile_l2] at h288; cases h288
          | succ k289 ih290 =>
            intro x284 x285 x286 h288
            rewrite [f_process_CloseFile_l2] at h288
            refine ti hk283 ?_
            refine t_seq fun K291 hK292 => ?_
            refine t_seq fun K293 hK294 => ?_
            refine t_region ?_
            refine c_p (r_mv rfl) rfl ?_
            refine c_p (r_mv rfl) rfl ?_
            refine c_s (r_lnL a0 Try.underlying36 rfl) rfl ?_
            refine c_p (r_i rfl rfl rfl) rfl ?_
            refine t_nil ?_
            refine t_then hK294 ?_
            rcases Bool.eq_false_or_eq_true (decide (x286 < (x284.length : Int))) with hb295 | hb295
            · replace h288 := itT hb295 h288
              refine t_T rfl hb295 ?_
              refine t_skip ?_
              refine t_then hK292 ?_
              refine t_seq fun K296 hK297 => ?_
              refine t_block ?_
              refine t_seq fun K298 hK299 => ?_
              refine t_region ?_
              refine c_p (r_mv rfl) rfl ?_
              refine c_p (r_mv rfl) rfl ?_
              obtain ⟨el303, hel303, h288⟩ := bs h288
              refine t_qL a0 hel303 fun q300 hq301 hm302 => ?_
              refine c_p (r_idx hq301 hm302 hel303 Try.underlying36 ti81 rfl rfl) rfl ?_
              refine t_oI k_api_Descriptor_opensO e0 hel303 fun t304 => ?_
              refine c_s (r_hA a0 hq301 Try.underlying81 rfl ti81 rfl rfl) rfl ?_
              refine nx (t_al (cs := [.int .i64 0, .int .i64 0, .int .i64 0, .int .i64 0]) ti81 rfl rfl fun g305 => ?_)
              refine nx (t_st u0 ti81 rfl rfl rfl rfl rfl (.t (.s (.s (.s (.s .z))))) ?_)
              refine t_nil ?_
              refine t_then hK299 ?_
              refine t_seq fun K306 hK307 => ?_
              refine t_region ?_
              refine c_p (r_mv rfl) rfl ?_
              refine c_s (r_ldA a0 Try.underlying81 rfl ti81 rfl rfl) rfl ?_
              refine nx (t_in (args := [.agg #[.int .i64 el303.FD, .int .i64 el303.File.Dev, .int .i64 el303.File.Ino, .int .i64 el303.Flags]]) (cap := [.pointer (some ⟨g7, 0, none⟩)]) (all := [.agg #[.int .i64 el303.FD, .int .i64 el303.File.Dev, .int .i64 el303.File.Ino, .int .i64 el303.Flags], .pointer (some ⟨g7, 0, none⟩)]) rfl rfl Try.func51 nm51 rfl rfl rfl Try.ntmps51 rfl fun R308 k309 hk310 hR311 => ?_)
              refine t_seq fun K312 hK313 => ?_
              refine t_region ?_
              refine nx (t_bx (cs := [.int .i64 el303.FD, .int .i64 el303.File.Dev, .int .i64 el303.File.Ino, .int .i64 el303.Flags]) rfl rfl rfl fun g314 => ?_)
              refine c_p (r_as rfl) rfl ?_
              refine t_nil ?_
              refine t_then hK313 ?_
              refine t_seq fun K315 hK316 => ?_
              refine t_region ?_
              refine c_p (r_fa (off' := 0) Try.underlying81 rfl ti3 rfl rfl) rfl ?_
              refine c_s (r_ld a0 Try.underlying3 rfl rfl rfl) rfl ?_
              refine c_s (r_ld a3 Try.underlying3 rfl rfl rfl) rfl ?_
              refine c_p (r_i rfl rfl rfl) rfl ?_
              refine c_p (r_as rfl) rfl ?_
              refine t_nil ?_
              refine t_then hK316 ?_
              refine t_ret ?_
              refine ret1 rfl (v_t rfl) (t_bk hR311 ?_)
              refine ti hk310 ?_
              refine c_p (r_not rfl) rfl ?_
              refine t_nil ?_
              refine t_then hK307 ?_
              rcases Bool.eq_false_or_eq_true (el303.FD == z2) with hb317 | hb317
              · replace h288 := itT hb317 h288
                refine t_F rfl (congrArg Bool.not hb317) ?_
                refine t_skip ?_
                refine t_blockN ?_
                refine t_then hK297 ?_
                refine t_region ?_
                refine c_p (r_mv rfl) rfl ?_
                refine c_p (r_i rfl rfl rfl) rfl ?_
                refine c_p (r_as rfl) rfl ?_
                refine t_nil ?_
                refine t_cS (u := el303) (t := ()) k_api_Descriptor_shutsO hel303 (.cons e2 .nil) rfl (fun w Z hA => trivial) ?_
                exact t_norm (t_go (ih290 x284 x285 (IntKind.wrap .i64 (x286 + 1)) h288) ⟨rfl, rfl, rfl, rfl, trivial⟩ (.cons e0 (.cons e2 (.cons e2 (.cons e2 (.cons e2 (.cons e2 (.cons e2 (.cons e2 .nil)))))))) (fun w Z hA => V1 a0 hA (V0)))
              · replace h288 := itF hb317 h288
                refine t_T rfl (congrArg Bool.not hb317) ?_
                refine t_seq fun K318 hK319 => ?_
                refine t_region ?_
                refine c_p (r_mv rfl) rfl ?_
                refine c_p (r_mv rfl) rfl ?_
                refine c_s (r_ldA a1 Try.underlying81 rfl ti81 rfl rfl) rfl ?_
                refine t_cS (u := el303) (t := ()) k_api_Descriptor_shutsO hel303 (.cons e2 .nil) rfl (fun w Z hA => trivial) ?_
                obtain ⟨el323, hel323, h288⟩ := bs h288
                refine t_qL a0 hel323 fun q320 hq321 hm322 => ?_
                refine c_p (r_idx hq321 hm322 hel323 Try.underlying36 ti81 rfl rfl) rfl ?_
                refine t_oI k_api_Descriptor_opensO e0 hel323 fun t324 => ?_
                refine nx (t_hs u0 hq321 ti81 rfl rfl rfl rfl rfl (.t (.s (.s (.s (.s .z))))) ?_)
                refine t_nil ?_
                refine t_then hK319 ?_
                refine t_region ?_
                refine c_p (r_mv rfl) rfl ?_
                refine c_p (r_i rfl rfl rfl) rfl ?_
                refine c_p (r_as rfl) rfl ?_
                refine t_nil ?_
                refine t_blockN ?_
                refine t_then hK297 ?_
                refine t_region ?_
                refine c_p (r_mv rfl) rfl ?_
                refine c_p (r_i rfl rfl rfl) rfl ?_
                refine c_p (r_as rfl) rfl ?_
                refine t_nil ?_
                refine t_cI (u := el303) (t := ()) k_api_Descriptor_shutsO (.cons e0 .nil) rfl (fun w Z hA => trivial) ?_
                have hn325 := at_set (u' := el303) hel323
                exact t_norm (t_go (ih290 (x284.set x285.toNat el303) (IntKind.wrap .i64 (x285 + 1)) (IntKind.wrap .i64 (x286 + 1)) h288) ⟨rfl, rfl, rfl, rfl, trivial⟩ (.cons e0 (.cons e2 (.cons e2 (.cons e2 (.cons e2 (.cons e2 (.cons e2 (.cons e2 .nil)))))))) (fun w Z hA => V1 a0 hA (V0)))
            · replace h288 := itF hb295 h288
              refine t_F rfl hb295 ?_
              refine t_exit ?_
              refine te (te (bx ?_))
              exact t_norm (t_go (J328 x284 x285 h288) ⟨rfl, rfl, trivial⟩ (.cons e0 (.cons e1 (.cons e1 (.cons e1 (.cons e1 (.cons e1 (.cons e1 .nil))))))) (fun w Z hA => V1 a0 hA (V0)))
        exact t_go (LP287 ((((el52.Open.length : Int) : Int) - ((IntKind.wrap .i64 (x192 + 1)))).toNat + 1) el52.Open x192 (IntKind.wrap .i64 (x192 + 1)) h194) ⟨rfl, rfl, rfl, rfl, trivial⟩ (.cons e0 (.cons e0 (.cons e0 (.cons e0 (.cons e0 (.cons e0 (.cons e0 (.cons e0 .nil)))))))) (fun w Z hA => V1 a0 hA (V0))
    refine t_region ?_
    refine c_p (r_mv rfl) rfl ?_
    refine c_p (r_mv rfl) rfl ?_
    refine nx (t_in (args := [.slice t71.1 t71.2.1 t71.2.2, .func (.func 51) #[] #[.pointer (some ⟨g7, 0, none⟩)]]) (cap := []) (all := [.slice t71.1 t71.2.1 t71.2.2, .func (.func 51) #[] #[.pointer (some ⟨g7, 0, none⟩)]]) rfl rfl Try.func66 nm66 rfl rfl rfl Try.ntmps66 rfl fun R84 k85 hk86 hR87 => ?_)
    have J190 : ∀ (x189 : Int), f_process_CloseFile_j1 z2 y34 y45 el52 x189 = some r → T 42 c [vw (kSlice 38 k_api_Process) z0.Processes [.slice p1 m2 c3]] [[row 81 k_api_Descriptor el52.Open (.slice t71.1 t71.2.1 t71.2.2)], [blk g7 [.int .i64 z2] 3], [hole 38 k_api_Process y45.Processes y34.1.toNat [.int .i64 el52.PID, .int .i64 el52.PPID, .int .i64 el52.UID, .int .i64 el52.EUID, .int .i64 el52.GID, .int .i64 el52.EGID, .int .i64 el52.AUID, .int .i64 el52.Session, .int .i64 el52.Cwd.Dev, .int .i64 el52.Cwd.Ino, .string el52.Comm, .string el52.Exe, .slice t71.1 t71.2.1 t71.2.2, .bool el52.Audited] (.slice t46.1 t46.2.1 t46.2.2)], [blk g28 [.int .i64 y45.Next, .int .i64 y45.NextSession, .slice t46.1 t46.2.1 t46.2.2] 28], [blk g29 [.int .i64 0, .int .i64 0, .slice none 0 0] 28], [blk g17 [.int .i64 z0.Next, .int .i64 z0.NextSession, .slice p1 m2 c3] 28], [blk g19 [.int .i64 0, .int .i64 0, .slice none 0 0] 28], [blk g8 [.int .i64 0, .int .i64 0, .slice none 0 0] 28]] [(0, .slice t71.1 t71.2.1 t71.2.2), (1, .func (.func 51) #[] #[.pointer (some ⟨g7, 0, none⟩)]), (10, .int .i64 x189)] k85 := by
      intro x189 h191
      unfold f_process_CloseFile_j1 at h191
      refine ti hk86 ?_
      refine c_p (r_as rfl) rfl ?_
      refine t_nil ?_
      exact t_norm (t_go (J193 x189 h191) ⟨rfl, rfl, rfl, trivial⟩ (.cons e0 (.cons e0 (.cons e0 (.cons e0 (.cons e0 (.cons e0 (.cons e0 (.cons e0 .nil)))))))) (fun w Z hA => V1 a0 hA (V0)))
    refine t_seq fun K88 hK89 => ?_
    refine t_region ?_
    refine c_p (r_as rfl) rfl ?_
    refine t_nil ?_
    refine t_then hK89 ?_
    refine t_seq fun K90 hK91 => ?_
    refine t_seq fun K92 hK93 => ?_
    refine t_region ?_
    refine c_p (r_mv rfl) rfl ?_
    refine c_s (r_lnL a1 Try.underlying36 rfl) rfl ?_
    refine c_p (r_mv rfl) rfl ?_
    refine t_nil ?_
    refine t_then hK93 ?_
    refine t_block ?_
    refine t_lp fun k152 hk153 => ?_
    have LP155 : ∀ (k157 : Nat) (x154 : Int), f_process_CloseFile_l1 z2 y34 y45 el52 k157 x154 = some r → T 19 c [vw (kSlice 38 k_api_Process) z0.Processes [.slice p1 m2 c3]] [[row 81 k_api_Descriptor el52.Open (.slice t71.1 t71.2.1 t71.2.2)], [blk g7 [.int .i64 z2] 3], [hole 38 k_api_Process y45.Processes y34.1.toNat [.int .i64 el52.PID, .int .i64 el52.PPID, .int .i64 el52.UID, .int .i64 el52.EUID, .int .i64 el52.GID, .int .i64 el52.EGID, .int .i64 el52.AUID, .int .i64 el52.Session, .int .i64 el52.Cwd.Dev, .int .i64 el52.Cwd.Ino, .string el52.Comm, .string el52.Exe, .slice t71.1 t71.2.1 t71.2.2, .bool el52.Audited] (.slice t46.1 t46.2.1 t46.2.2)], [blk g28 [.int .i64 y45.Next, .int .i64 y45.NextSession, .slice t46.1 t46.2.1 t46.2.2] 28], [blk g29 [.int .i64 0, .int .i64 0, .slice none 0 0] 28], [blk g17 [.int .i64 z0.Next, .int .i64 z0.NextSession, .slice p1 m2 c3] 28], [blk g19 [.int .i64 0, .int .i64 0, .slice none 0 0] 28], [blk g8 [.int .i64 0, .int .i64 0, .slice none 0 0] 28]] [(0, .slice t71.1 t71.2.1 t71.2.2), (1, .func (.func 51) #[] #[.pointer (some ⟨g7, 0, none⟩)]), (7, .int .i64 (el52.Open.length : Int)), (8, .int .i64 x154)] k152 := by
      intro k157
      induction k157 with
      | zero => intro x154 h156; rewrite [f_process_CloseFile_l1] at h156; cases h156
      | succ k157 ih158 =>
        intro x154 h156
        rewrite [f_process_CloseFile_l1] at h156
        refine ti hk153 ?_
        refine t_seq fun K159 hK160 => ?_
        refine t_region ?_
        refine c_p (r_i rfl rfl rfl) rfl ?_
        refine t_nil ?_
        refine t_then hK160 ?_
        refine t_seq fun K161 hK162 => ?_
        rcases Bool.eq_false_or_eq_true (decide (x154 < (el52.Open.length : Int))) with hb163 | hb163
        · replace h156 := itT hb163 h156
          refine t_T rfl hb163 ?_
          refine t_skip ?_
          refine t_then hK162 ?_
          refine t_seq fun K164 hK165 => ?_
          refine t_block ?_
          refine t_seq fun K166 hK167 => ?_
          refine t_region ?_
          refine c_p (r_mv rfl) rfl ?_
          refine c_p (r_as rfl) rfl ?_
          refine t_nil ?_
          refine t_then hK167 ?_
          refine t_seq fun K168 hK169 => ?_
          refine t_region ?_
          refine c_p (r_mv rfl) rfl ?_
          refine c_p (r_mv rfl) rfl ?_
          refine c_p (r_mv rfl) rfl ?_
          obtain ⟨el173, hel173, h156⟩ := bs h156
          refine t_qL a0 hel173 fun q170 hq171 hm172 => ?_
          refine c_p (r_idx hq171 hm172 hel173 Try.underlying36 ti81 rfl rfl) rfl ?_
          refine t_oI k_api_Descriptor_opensO e0 hel173 fun t174 => ?_
          refine c_s (r_hA a0 hq171 Try.underlying81 rfl ti81 rfl rfl) rfl ?_
          refine nx (t_in (args := [.agg #[.int .i64 el173.FD, .int .i64 el173.File.Dev, .int .i64 el173.File.Ino, .int .i64 el173.Flags]]) (cap := [.pointer (some ⟨g7, 0, none⟩)]) (all := [.agg #[.int .i64 el173.FD, .int .i64 el173.File.Dev, .int .i64 el173.File.Ino, .int .i64 el173.Flags], .pointer (some ⟨g7, 0, none⟩)]) rfl rfl Try.func51 nm51 rfl rfl rfl Try.ntmps51 rfl fun R175 k176 hk177 hR178 => ?_)
          refine t_seq fun K179 hK180 => ?_
          refine t_region ?_
          refine nx (t_bx (cs := [.int .i64 el173.FD, .int .i64 el173.File.Dev, .int .i64 el173.File.Ino, .int .i64 el173.Flags]) rfl rfl rfl fun g181 => ?_)
          refine c_p (r_as rfl) rfl ?_
          refine t_nil ?_
          refine t_then hK180 ?_
          refine t_seq fun K182 hK183 => ?_
          refine t_region ?_
          refine c_p (r_fa (off' := 0) Try.underlying81 rfl ti3 rfl rfl) rfl ?_
          refine c_s (r_ld a0 Try.underlying3 rfl rfl rfl) rfl ?_
          refine c_s (r_ld a2 Try.underlying3 rfl rfl rfl) rfl ?_
          refine c_p (r_i rfl rfl rfl) rfl ?_
          refine c_p (r_as rfl) rfl ?_
          refine t_nil ?_
          refine t_then hK183 ?_
          refine t_ret ?_
          refine ret1 rfl (v_t rfl) (t_bk hR178 ?_)
          refine ti hk177 ?_
          refine t_nil ?_
          refine t_then hK169 ?_
          rcases Bool.eq_false_or_eq_true (el173.FD == z2) with hb184 | hb184
          · replace h156 := itT hb184 h156
            refine t_T rfl hb184 ?_
            refine t_seq fun K185 hK186 => ?_
            refine t_region ?_
            refine c_p (r_mv rfl) rfl ?_
            refine c_p (r_as rfl) rfl ?_
            refine t_nil ?_
            refine t_then hK186 ?_
            refine t_ret ?_
            refine br (tr (tr (br (tr (ret1 rfl (v_t rfl) (t_bk hR87 ?_))))))
            refine t_cS (u := el173) (t := ()) k_api_Descriptor_shutsO hel173 (.cons e1 .nil) rfl (fun w Z hA => trivial) ?_
            exact t_go (J190 x154 h156) ⟨rfl, rfl, rfl, trivial⟩ (.cons e0 (.cons e1 (.cons e1 (.cons e1 (.cons e1 (.cons e1 (.cons e1 (.cons e1 .nil)))))))) (fun w Z hA => V1 a0 hA (V0))
          · replace h156 := itF hb184 h156
            refine t_F rfl hb184 ?_
            refine t_skip ?_
            refine t_blockN ?_
            refine t_then hK165 ?_
            refine t_region ?_
            refine c_p (r_i rfl rfl rfl) rfl ?_
            refine c_p (r_mv rfl) rfl ?_
            refine t_nil ?_
            refine t_cS (u := el173) (t := ()) k_api_Descriptor_shutsO hel173 (.cons e1 .nil) rfl (fun w Z hA => trivial) ?_
            exact t_norm (t_go (ih158 (IntKind.wrap .i64 (x154 + 1)) h156) ⟨rfl, rfl, rfl, rfl, trivial⟩ (.cons e0 (.cons e1 (.cons e1 (.cons e1 (.cons e1 (.cons e1 (.cons e1 (.cons e1 .nil)))))))) (fun w Z hA => V1 a0 hA (V0)))
        · replace h156 := itF hb163 h156
          refine t_F rfl hb163 ?_
          refine t_exit ?_
          refine te (te (bx ?_))
          refine t_then hK91 ?_
          refine t_seq fun K187 hK188 => ?_
          refine t_region ?_
          refine c_p (r_as rfl) rfl ?_
          refine t_nil ?_
          refine t_then hK188 ?_
          refine t_ret ?_
          refine ret1 rfl (v_t rfl) (t_bk hR87 ?_)
          exact t_go (J190 (-1) h156) ⟨rfl, rfl, rfl, trivial⟩ (.cons e0 (.cons e0 (.cons e0 (.cons e0 (.cons e0 (.cons e0 (.cons e0 (.cons e0 .nil)))))))) (fun w Z hA => V1 a0 hA (V0))
    exact t_go (LP155 ((((el52.Open.length : Int) : Int) - (0)).toNat + 1) 0 h) ⟨rfl, rfl, rfl, rfl, trivial⟩ (.cons e1 (.cons e7 (.cons e0 (.cons e1 (.cons e0 (.cons e2 (.cons e0 (.cons e1 .nil)))))))) (fun w Z hA => V1 a0 hA (V0))
  · replace h := itF hb40 h
    refine t_T rfl (congrArg Bool.not hb40) ?_
    refine t_seq fun K41 hK42 => ?_
    refine t_region ?_
    refine c_p (r_bu (ps := []) (cs := [.int .i64 0, .int .i64 0, .slice none 0 0]) rfl (by kernel_rfl)) rfl ?_
    refine c_p (r_mv rfl) rfl ?_
    refine nx (t_st u0 ti28 rfl rfl rfl rfl rfl (.t (.s (.s (.s .z)))) ?_)
    refine c_p (r_as rfl) rfl ?_
    refine c_p (r_as rfl) rfl ?_
    refine t_nil ?_
    refine t_then hK42 ?_
    refine t_ret ?_
    refine tr (ret3 rfl (v_N rfl a0 Try.underlying28 rfl ti28 rfl) (v_t rfl) (v_t rfl) (t_bk hR25 ?_))
    refine t_nr 38 k_api_Process ?_
    exact t_go (J406 0 0 none 0 0 ([] : List api_Process) false 3 h) ⟨rfl, rfl, rfl, trivial⟩ (.cons e5 (.cons e3 (.cons e0 (.cons e3 .nil)))) (fun w Z hA => V1 a0 hA (V0))
end Go.Proofs.Ytanimjbmkhpnaaa.Gx
