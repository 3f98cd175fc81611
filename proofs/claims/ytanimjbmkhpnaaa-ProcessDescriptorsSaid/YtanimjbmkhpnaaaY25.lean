/- Function 25, kaudit/process.Exit: what it answers as a plain function, and that the Go code comes to exactly that (where the plain function gives an answer). -/
import Derived.Test.YtanimjbmkhpnaaaYT
import Derived.Test.YtanimjbmkhpnaaaY37
import Derived.Test.YtanimjbmkhpnaaaY54
set_option linter.unusedVariables false
set_option linter.unusedSimpArgs false
namespace Go.Proofs.Ytanimjbmkhpnaaa.Gx
open Go.Gx Go.RowKit
/-! ### kaudit/process.Exit: function 25 -/
def f_process_Exit_j11 (x512 : Int) (x513 : Int) (x517 : List api_Process) (x518 : Int) : Option (api_Table × Int) := some ((⟨x512, x513, x517⟩ : api_Table), x518)
def f_process_Exit_j10 (x500 : Int) (x501 : Int) (x505 : List api_Process) (x506 : Bool) (x507 : Int) : Option (api_Table × Int) := f_process_Exit_j11 x500 x501 x505 x507
def f_process_Exit_j9 (y45 : api_Table) (x479 : List api_Process) (x480 : Int) : Option (api_Table × Int) := if (x480 != 0) = true then (f_process_Exit_j10 0 0 ([] : List api_Process) false x480) else (f_process_Exit_j10 y45.Next y45.NextSession x479 true 0)
def f_process_Exit_j8 (y45 : api_Table) (x472 : List api_Process) (x473 : Int) : Option (api_Table × Int) := f_process_Exit_j9 y45 x472 x473
def f_process_Exit_j7 (y45 : api_Table) (x462 : Int) (x466 : List api_Process) : Option (api_Table × Int) := f_process_Exit_j8 y45 x466 x462
def f_process_Exit_j6 (y45 : api_Table) (x455 : Int) (x459 : List api_Process) : Option (api_Table × Int) := f_process_Exit_j7 y45 x455 x459
def f_process_Exit_l3 (z1 : Int) (y45 : api_Table) (x359 : List api_Process) : Nat → List api_Process → Int → Option (api_Table × Int)
  | 0, _, _ => none
  | k426 + 1, x422, x423 => if (decide (x423 < (x359.length : Int))) = true then ((at_ x422 x423).bind fun el442 => if (el442.PPID == z1) = true then (f_process_Exit_l3 z1 y45 x359 k426 (x422.set x423.toNat (⟨el442.PID, 1, el442.UID, el442.EUID, el442.GID, el442.EGID, el442.AUID, el442.Session, el442.Cwd, el442.Comm, el442.Exe, el442.Open, el442.Audited⟩ : api_Process)) (IntKind.wrap .i64 (x423 + 1))) else (f_process_Exit_l3 z1 y45 x359 k426 x422 (IntKind.wrap .i64 (x423 + 1)))) else (f_process_Exit_j6 y45 0 x422)
def f_process_Exit_j5 (z1 : Int) (y45 : api_Table) (x359 : List api_Process) : Option (api_Table × Int) := f_process_Exit_l3 z1 y45 x359 ((((x359.length : Int) : Int) - (0)).toNat + 1) x359 0
def f_process_Exit_j4 (z1 : Int) (y45 : api_Table) (x353 : List api_Process) : Option (api_Table × Int) := f_process_Exit_j5 z1 y45 x353
def f_process_Exit_j3 (z1 : Int) (y45 : api_Table) (x335 : List api_Process) (x336 : Int) : Option (api_Table × Int) := ck (cutOk x335 x336 (x335.length : Int)) <| ck (cutOk (zeroed (⟨0, 0, 0, 0, 0, 0, 0, 0, (⟨0, 0⟩ : api_File), (⟨#[]⟩ : ByteArray), (⟨#[]⟩ : ByteArray), ([] : List api_Descriptor), false⟩ : api_Process) x335 x336 (x335.length : Int)) 0 x336) <| f_process_Exit_j4 z1 y45 (cut (zeroed (⟨0, 0, 0, 0, 0, 0, 0, 0, (⟨0, 0⟩ : api_File), (⟨#[]⟩ : ByteArray), (⟨#[]⟩ : ByteArray), ([] : List api_Descriptor), false⟩ : api_Process) x335 x336 (x335.length : Int)) 0 x336)
def f_process_Exit_l2 (z1 : Int) (y45 : api_Table) : Nat → List api_Process → Int → Int → Option (api_Table × Int)
  | 0, _, _, _ => none
  | k298 + 1, x293, x294, x295 => if (decide (x295 < (x293.length : Int))) = true then ((at_ x293 x295).bind fun el312 => if (el312.PID == z1) = true then (f_process_Exit_l2 z1 y45 k298 x293 x294 (IntKind.wrap .i64 (x295 + 1))) else ((at_ x293 x294).bind fun el332 => f_process_Exit_l2 z1 y45 k298 (x293.set x294.toNat el312) (IntKind.wrap .i64 (x294 + 1)) (IntKind.wrap .i64 (x295 + 1)))) else (f_process_Exit_j3 z1 y45 x293 x294)
def f_process_Exit_j2 (z1 : Int) (y45 : api_Table) (x201 : Int) : Option (api_Table × Int) := if (x201 == (-1)) = true then (f_process_Exit_j4 z1 y45 y45.Processes) else (f_process_Exit_l2 z1 y45 ((((y45.Processes.length : Int) : Int) - ((IntKind.wrap .i64 (x201 + 1)))).toNat + 1) y45.Processes x201 (IntKind.wrap .i64 (x201 + 1)))
def f_process_Exit_j1 (z1 : Int) (y45 : api_Table) (x198 : Int) : Option (api_Table × Int) := f_process_Exit_j2 z1 y45 x198
def f_process_Exit_l1 (z1 : Int) (y45 : api_Table) : Nat → Int → Option (api_Table × Int)
  | 0, _ => none
  | k166 + 1, x163 => if (decide (x163 < (y45.Processes.length : Int))) = true then ((at_ y45.Processes x163).bind fun el182 => if (el182.PID == z1) = true then (f_process_Exit_j1 z1 y45 x163) else (f_process_Exit_l1 z1 y45 k166 (IntKind.wrap .i64 (x163 + 1)))) else (f_process_Exit_j1 z1 y45 (-1))
def f_process_Exit (z0 : api_Table) (z1 : Int) : Option (api_Table × Int) := (f_process_place z0 z1).bind fun y34 => if y34.2 = true then ((f_own_Table z0).bind fun y45 => (at_ y45.Processes y34.1).bind fun el52 => if (z1 == 1) = true then (f_process_Exit_j6 y45 1 y45.Processes) else (f_process_Exit_l1 z1 y45 ((((y45.Processes.length : Int) : Int) - (0)).toNat + 1) 0)) else (f_process_Exit_j10 0 0 ([] : List api_Process) false 3)
set_option maxHeartbeats 4000000 in
set_option maxRecDepth 100000 in
theorem C25 (z0 : api_Table) (z1 : Int) (p1 : Option Addr) (m2 : Nat) (c3 : Nat) (r : api_Table × Int) (h : f_process_Exit z0 z1 = some r) : FunG Try.prog 25 #[.agg #[.int .i64 z0.Next, .int .i64 z0.NextSession, .slice p1 m2 c3], .int .i64 z1] [vw (kSlice 38 k_api_Process) z0.Processes [.slice p1 m2 c3]] [] (fun t : (Option Addr × Nat × Nat) => .tuple #[.agg #[.int .i64 r.1.Next, .int .i64 r.1.NextSession, .slice t.1 t.2.1 t.2.2], .int .i64 r.2]) (fun t => []) (fun t => [[row 38 (kShare k_api_Process) r.1.Processes (.slice t.1 t.2.1 t.2.2)]]) := by
  unfold f_process_Exit at h
  refine t_begin (args := [.agg #[.int .i64 z0.Next, .int .i64 z0.NextSession, .slice p1 m2 c3], .int .i64 z1]) Try.func25 rfl Try.ntmps25 rfl fun c R hR => ?_
  have hQ : ∀ X, X = r → ∀ w2 (t : (Option Addr × Nat × Nat)), PostG c.w0 w2 c.M c.Y [] [[row 38 (kShare k_api_Process) X.1.Processes (.slice t.1 t.2.1 t.2.2)]] → R (.returned (.tuple #[.agg #[.int .i64 X.1.Next, .int .i64 X.1.NextSession, .slice t.1 t.2.1 t.2.2], .int .i64 X.2])) w2 := fun X e => by subst e; exact hR
  refine t_seq fun K4 hK5 => ?_
  refine t_region ?_
  refine nx (t_bx (cs := [.int .i64 z0.Next, .int .i64 z0.NextSession, .slice p1 m2 c3]) rfl rfl rfl fun g6 => ?_)
  refine nx (t_bx (cs := [.int .i64 z1]) rfl rfl rfl fun g7 => ?_)
  refine nx (t_al (cs := [.int .i64 0, .int .i64 0, .slice none 0 0]) ti28 rfl rfl fun g8 => ?_)
  refine c_p (r_as rfl) rfl ?_
  refine t_nil ?_
  refine t_then hK5 ?_
  refine t_seq fun K9 hK10 => ?_
  refine t_region ?_
  refine c_s (r_ldA a2 Try.underlying28 rfl ti28 rfl rfl) rfl ?_
  refine c_s (r_ld a1 Try.underlying3 rfl rfl rfl) rfl ?_
  refine c_p (r_mf (vs := [.pointer (some ⟨g7, 0, none⟩)]) rfl) rfl ?_
  refine nx (t_in (args := [.agg #[.int .i64 z0.Next, .int .i64 z0.NextSession, .slice p1 m2 c3], .int .i64 z1, .func (.func 46) #[] #[.pointer (some ⟨g7, 0, none⟩)]]) (cap := []) (all := [.agg #[.int .i64 z0.Next, .int .i64 z0.NextSession, .slice p1 m2 c3], .int .i64 z1, .func (.func 46) #[] #[.pointer (some ⟨g7, 0, none⟩)]]) rfl rfl Try.func34 nm34 rfl rfl rfl Try.ntmps34 rfl fun R11 k12 hk13 hR14 => ?_)
  have J519 : ∀ (x512 : Int) (x513 : Int) (p514 : Option Addr) (m515 : Nat) (c516 : Nat) (x517 : List api_Process) (x518 : Int), f_process_Exit_j11 x512 x513 x517 x518 = some r → T 12 c [] [[blk g8 [.int .i64 0, .int .i64 0, .slice none 0 0] 28], [row 38 (kShare k_api_Process) x517 (.slice p514 m515 c516)]] [(4, .pointer (some ⟨g8, 0, none⟩)), (5, .int .i64 0), (9, .tuple #[.agg #[.int .i64 x512, .int .i64 x513, .slice p514 m515 c516], .int .i64 x518])] k12 := by
    intro x512 x513 p514 m515 c516 x517 x518 h520
    unfold f_process_Exit_j11 at h520
    refine ti hk13 ?_
    refine c_p (r_ex rfl rfl) rfl ?_
    refine c_p (r_ex rfl rfl) rfl ?_
    refine nx (t_st u0 ti28 rfl rfl rfl rfl rfl (.t (.s (.s (.s .z)))) ?_)
    refine c_p (r_as rfl) rfl ?_
    refine t_nil ?_
    refine t_then hK10 ?_
    refine t_ret ?_
    exact ret2 rfl (v_N rfl a0 Try.underlying28 rfl ti28 rfl) (v_t rfl) (t_leave (hQ _ (Option.some.inj h520)) (p514, m515, c516) rfl (fun w Z hA => V0) (.cons e1 .nil))
  refine t_seq fun K15 hK16 => ?_
  refine t_region ?_
  refine nx (t_bx (cs := [.int .i64 z0.Next, .int .i64 z0.NextSession, .slice p1 m2 c3]) rfl rfl rfl fun g17 => ?_)
  refine nx (t_bx (cs := [.func (.func 46) #[] #[.pointer (some ⟨g7, 0, none⟩)]]) rfl rfl rfl fun g18 => ?_)
  refine nx (t_al (cs := [.int .i64 0, .int .i64 0, .slice none 0 0]) ti28 rfl rfl fun g19 => ?_)
  refine c_p (r_as rfl) rfl ?_
  refine t_nil ?_
  refine t_then hK16 ?_
  refine t_seq fun K20 hK21 => ?_
  refine t_region ?_
  refine c_s (r_ldA a2 Try.underlying28 rfl ti28 rfl rfl) rfl ?_
  refine c_p (r_mv rfl) rfl ?_
  refine c_p (r_mf (vs := [.pointer (some ⟨g18, 0, none⟩)]) rfl) rfl ?_
  refine nx (t_in (args := [.agg #[.int .i64 z0.Next, .int .i64 z0.NextSession, .slice p1 m2 c3], .int .i64 z1, .func (.func 57) #[] #[.pointer (some ⟨g18, 0, none⟩)]]) (cap := []) (all := [.agg #[.int .i64 z0.Next, .int .i64 z0.NextSession, .slice p1 m2 c3], .int .i64 z1, .func (.func 57) #[] #[.pointer (some ⟨g18, 0, none⟩)]]) rfl rfl Try.func56 nm56 rfl rfl rfl Try.ntmps56 rfl fun R22 k23 hk24 hR25 => ?_)
  have J508 : ∀ (x500 : Int) (x501 : Int) (p502 : Option Addr) (m503 : Nat) (c504 : Nat) (x505 : List api_Process) (x506 : Bool) (x507 : Int), f_process_Exit_j10 x500 x501 x505 x506 x507 = some r → T 20 c [vw (kSlice 38 k_api_Process) z0.Processes [.slice p1 m2 c3]] [[blk g17 [.int .i64 z0.Next, .int .i64 z0.NextSession, .slice p1 m2 c3] 28], [blk g19 [.int .i64 0, .int .i64 0, .slice none 0 0] 28], [row 38 (kShare k_api_Process) x505 (.slice p502 m503 c504)], [blk g8 [.int .i64 0, .int .i64 0, .slice none 0 0] 28]] [(3, .pointer (some ⟨g17, 0, none⟩)), (6, .pointer (some ⟨g19, 0, none⟩)), (14, .tuple #[.agg #[.int .i64 x500, .int .i64 x501, .slice p502 m503 c504], .bool x506, .int .i64 x507])] k23 := by
    intro x500 x501 p502 m503 c504 x505 x506 x507 h509
    unfold f_process_Exit_j10 at h509
    refine ti hk24 ?_
    refine c_p (r_mv rfl) rfl ?_
    refine c_p (r_ex rfl rfl) rfl ?_
    refine c_p (r_ex rfl rfl) rfl ?_
    refine c_p (r_ex rfl rfl) rfl ?_
    refine nx (t_st u0 ti28 rfl rfl rfl rfl rfl (.t (.s (.s (.s .z)))) ?_)
    refine c_p (r_as rfl) rfl ?_
    refine c_p (r_as rfl) rfl ?_
    refine t_nil ?_
    refine t_then hK21 ?_
    refine t_seq fun K510 hK511 => ?_
    refine t_region ?_
    refine c_s (r_ldA a0 Try.underlying28 rfl ti28 rfl rfl) rfl ?_
    refine c_p (r_mv rfl) rfl ?_
    refine nx (t_st u1 ti28 rfl rfl rfl rfl rfl (.t (.s (.s (.s .z)))) ?_)
    refine c_p (r_as rfl) rfl ?_
    refine t_nil ?_
    refine t_then hK511 ?_
    refine t_ret ?_
    refine ret2 rfl (v_N rfl a1 Try.underlying28 rfl ti28 rfl) (v_t rfl) (t_bk hR14 ?_)
    exact t_go (J519 x500 x501 p502 m503 c504 x505 x507 h509) ⟨rfl, rfl, rfl, trivial⟩ (.cons e3 (.cons e2 .nil)) (fun w Z hA => V0)
  refine t_seq fun K26 hK27 => ?_
  refine t_region ?_
  refine nx (t_bx (cs := [.int .i64 z0.Next, .int .i64 z0.NextSession, .slice p1 m2 c3]) rfl rfl rfl fun g28 => ?_)
  refine nx (t_al (cs := [.int .i64 0, .int .i64 0, .slice none 0 0]) ti28 rfl rfl fun g29 => ?_)
  refine c_p (r_as rfl) rfl ?_
  refine c_p (r_as rfl) rfl ?_
  refine t_nil ?_
  refine t_then hK27 ?_
  refine t_seq fun K30 hK31 => ?_
  refine t_region ?_
  refine c_p (r_as rfl) rfl ?_
  refine t_nil ?_
  refine t_then hK31 ?_
  refine t_seq fun K32 hK33 => ?_
  refine t_region ?_
  refine c_s (r_ldA a1 Try.underlying28 rfl ti28 rfl rfl) rfl ?_
  refine c_p (r_mv rfl) rfl ?_
  obtain ⟨y34, hy34, h⟩ := bs h
  refine nx (t_ca (C37 _ _ _ _ _ _ hy34) Try.func37 nm37 rfl rfl rfl .nil (fun w Z hA => (V1 a0 hA V0)) rfl fun t35 => ?_)
  refine c_p (r_mv rfl) rfl ?_
  refine c_p (r_ex rfl rfl) rfl ?_
  refine c_p (r_ex rfl rfl) rfl ?_
  refine c_p (r_as rfl) rfl ?_
  refine c_p (r_as rfl) rfl ?_
  refine t_nil ?_
  refine t_then hK33 ?_
  refine t_seq fun K36 hK37 => ?_
  refine t_seq fun K38 hK39 => ?_
  refine t_region ?_
  refine c_p (r_mv rfl) rfl ?_
  refine c_p (r_not rfl) rfl ?_
  refine t_nil ?_
  refine t_then hK39 ?_
  rcases Bool.eq_false_or_eq_true y34.2 with hb40 | hb40
  · replace h := itT hb40 h
    refine t_F rfl (congrArg Bool.not hb40) ?_
    refine t_skip ?_
    refine t_then hK37 ?_
    refine t_seq fun K43 hK44 => ?_
    refine t_region ?_
    refine c_s (r_ldA a1 Try.underlying28 rfl ti28 rfl rfl) rfl ?_
    obtain ⟨y45, hy45, h⟩ := bs h
    refine nx (t_ca (C54 _ _ _ _ _ hy45) Try.func54 nm54 rfl rfl rfl .nil (fun w Z hA => (V1 a0 hA V0)) rfl fun t46 => ?_)
    refine t_fe e0 ?_
    refine nx (t_st u2 ti28 rfl rfl rfl rfl rfl (.t (.s (.s (.s .z)))) ?_)
    refine t_nil ?_
    refine t_then hK44 ?_
    refine t_seq fun K47 hK48 => ?_
    have J481 : ∀ (p476 : Option Addr) (m477 : Nat) (c478 : Nat) (x479 : List api_Process) (x480 : Int), f_process_Exit_j9 y45 x479 x480 = some r → T 42 c [vw (kSlice 38 k_api_Process) z0.Processes [.slice p1 m2 c3]] [[row 38 (kShare k_api_Process) x479 (.slice p476 m477 c478)], [blk g28 [.int .i64 y45.Next, .int .i64 y45.NextSession, .slice p476 m477 c478] 28], [blk g29 [.int .i64 0, .int .i64 0, .slice none 0 0] 28], [blk g17 [.int .i64 z0.Next, .int .i64 z0.NextSession, .slice p1 m2 c3] 28], [blk g19 [.int .i64 0, .int .i64 0, .slice none 0 0] 28], [blk g8 [.int .i64 0, .int .i64 0, .slice none 0 0] 28]] [(3, .pointer (some ⟨g28, 0, none⟩)), (6, .pointer (some ⟨g29, 0, none⟩)), (9, .bool false), (12, .bool true), (13, .int .i64 x480)] K47 := by
      intro p476 m477 c478 x479 x480 h482
      unfold f_process_Exit_j9 at h482
      refine ti hK48 ?_
      refine t_seq fun K483 hK484 => ?_
      refine t_seq fun K485 hK486 => ?_
      refine t_region ?_
      refine c_p (r_mv rfl) rfl ?_
      refine c_p (r_i rfl rfl rfl) rfl ?_
      refine t_nil ?_
      refine t_then hK486 ?_
      rcases Bool.eq_false_or_eq_true (x480 != 0) with hb487 | hb487
      · replace h482 := itT hb487 h482
        refine t_T rfl hb487 ?_
        refine t_seq fun K488 hK489 => ?_
        refine t_region ?_
        refine c_p (r_bu (ps := []) (cs := [.int .i64 0, .int .i64 0, .slice none 0 0]) rfl (by kernel_rfl)) rfl ?_
        refine c_p (r_mv rfl) rfl ?_
        refine c_p (r_mv rfl) rfl ?_
        refine nx (t_st u2 ti28 rfl rfl rfl rfl rfl (.t (.s (.s (.s .z)))) ?_)
        refine c_p (r_as rfl) rfl ?_
        refine c_p (r_as rfl) rfl ?_
        refine t_nil ?_
        refine t_then hK489 ?_
        refine t_ret ?_
        refine tr (ret3 rfl (v_N rfl a2 Try.underlying28 rfl ti28 rfl) (v_t rfl) (v_t rfl) (t_bk hR25 ?_))
        refine t_nr 38 k_api_Process ?_
        refine t_fe e0 ?_
        exact t_go (J508 0 0 none 0 0 ([] : List api_Process) false x480 h482) ⟨rfl, rfl, rfl, trivial⟩ (.cons e4 (.cons e4 (.cons e0 (.cons e3 .nil)))) (fun w Z hA => V1 a0 hA (V0))
      · replace h482 := itF hb487 h482
        refine t_F rfl hb487 ?_
        refine t_skip ?_
        refine t_then hK484 ?_
        refine t_seq fun K490 hK491 => ?_
        refine t_region ?_
        refine c_s (r_ldA a1 Try.underlying28 rfl ti28 rfl rfl) rfl ?_
        refine c_p (r_mv rfl) rfl ?_
        refine nx (t_st u2 ti28 rfl rfl rfl rfl rfl (.t (.s (.s (.s .z)))) ?_)
        refine c_p (r_as rfl) rfl ?_
        refine c_p (r_as rfl) rfl ?_
        refine t_nil ?_
        refine t_then hK491 ?_
        refine t_ret ?_
        refine ret3 rfl (v_N rfl a2 Try.underlying28 rfl ti28 rfl) (v_t rfl) (v_t rfl) (t_bk hR25 ?_)
        exact t_go (J508 y45.Next y45.NextSession p476 m477 c478 x479 true 0 h482) ⟨rfl, rfl, rfl, trivial⟩ (.cons e3 (.cons e3 (.cons e0 (.cons e2 .nil)))) (fun w Z hA => V1 a0 hA (V0))
    refine t_region ?_
    refine c_p (r_mv rfl) rfl ?_
    refine c_p (r_fa (off' := 2) Try.underlying28 rfl ti26 rfl rfl) rfl ?_
    refine c_s (r_ld a2 Try.underlying26 rfl rfl rfl) rfl ?_
    refine c_p (r_mv rfl) rfl ?_
    obtain ⟨el52, hel52, h⟩ := bs h
    refine t_qL a0 hel52 fun q49 hq50 hm51 => ?_
    refine c_p (r_idx hq50 hm51 hel52 Try.underlying26 ti38 rfl rfl) rfl ?_
    refine nx (t_in (args := [.pointer (some ⟨g28, 0, none⟩), .pointer (some q49)]) (cap := [.pointer (some ⟨g18, 0, none⟩)]) (all := [.pointer (some ⟨g28, 0, none⟩), .pointer (some q49), .pointer (some ⟨g18, 0, none⟩)]) rfl rfl Try.func57 nm57 rfl rfl rfl Try.ntmps57 rfl fun R53 k54 hk55 hR56 => ?_)
    have J474 : ∀ (p469 : Option Addr) (m470 : Nat) (c471 : Nat) (x472 : List api_Process) (x473 : Int), f_process_Exit_j8 y45 x472 x473 = some r → T 42 c [vw (kSlice 38 k_api_Process) z0.Processes [.slice p1 m2 c3]] [[row 38 (kShare k_api_Process) x472 (.slice p469 m470 c471)], [blk g28 [.int .i64 y45.Next, .int .i64 y45.NextSession, .slice p469 m470 c471] 28], [blk g29 [.int .i64 0, .int .i64 0, .slice none 0 0] 28], [blk g17 [.int .i64 z0.Next, .int .i64 z0.NextSession, .slice p1 m2 c3] 28], [blk g19 [.int .i64 0, .int .i64 0, .slice none 0 0] 28], [blk g8 [.int .i64 0, .int .i64 0, .slice none 0 0] 28]] [(3, .pointer (some ⟨g28, 0, none⟩)), (6, .pointer (some ⟨g29, 0, none⟩)), (9, .bool false), (32, .tuple #[.bool true, .int .i64 x473])] k54 := by
      intro p469 m470 c471 x472 x473 h475
      unfold f_process_Exit_j8 at h475
      refine ti hk55 ?_
      refine c_p (r_mv rfl) rfl ?_
      refine c_p (r_ex rfl rfl) rfl ?_
      refine c_p (r_ex rfl rfl) rfl ?_
      refine c_p (r_as rfl) rfl ?_
      refine c_p (r_as rfl) rfl ?_
      refine t_nil ?_
      exact t_norm (t_go (J481 p469 m470 c471 x472 x473 h475) ⟨rfl, rfl, rfl, rfl, rfl, trivial⟩ (.cons e0 (.cons e0 (.cons e0 (.cons e0 (.cons e0 (.cons e0 .nil)))))) (fun w Z hA => V1 a0 hA (V0)))
    refine t_seq fun K57 hK58 => ?_
    refine t_region ?_
    refine c_p (r_as rfl) rfl ?_
    refine c_p (r_as rfl) rfl ?_
    refine t_nil ?_
    refine t_then hK58 ?_
    refine t_seq fun K59 hK60 => ?_
    refine t_region ?_
    refine c_s (r_ld a4 Try.underlying68 rfl rfl rfl) rfl ?_
    refine c_p (r_mv rfl) rfl ?_
    refine c_p (r_mv rfl) rfl ?_
    refine nx (t_in (args := [.pointer (some ⟨g28, 0, none⟩), .pointer (some q49)]) (cap := [.pointer (some ⟨g7, 0, none⟩)]) (all := [.pointer (some ⟨g28, 0, none⟩), .pointer (some q49), .pointer (some ⟨g7, 0, none⟩)]) rfl rfl Try.func46 nm46 rfl rfl rfl Try.ntmps46 rfl fun R61 k62 hk63 hR64 => ?_)
    have J467 : ∀ (x462 : Int) (p463 : Option Addr) (m464 : Nat) (c465 : Nat) (x466 : List api_Process), f_process_Exit_j7 y45 x462 x466 = some r → T 11 c [vw (kSlice 38 k_api_Process) z0.Processes [.slice p1 m2 c3]] [[row 38 (kShare k_api_Process) x466 (.slice p463 m464 c465)], [blk g28 [.int .i64 y45.Next, .int .i64 y45.NextSession, .slice p463 m464 c465] 28], [blk g29 [.int .i64 0, .int .i64 0, .slice none 0 0] 28], [blk g17 [.int .i64 z0.Next, .int .i64 z0.NextSession, .slice p1 m2 c3] 28], [blk g19 [.int .i64 0, .int .i64 0, .slice none 0 0] 28], [blk g8 [.int .i64 0, .int .i64 0, .slice none 0 0] 28]] [(5, .bool false), (6, .int .i64 0), (10, .int .i64 x462)] k62 := by
      intro x462 p463 m464 c465 x466 h468
      unfold f_process_Exit_j7 at h468
      refine ti hk63 ?_
      refine c_p (r_as rfl) rfl ?_
      refine c_p (r_as rfl) rfl ?_
      refine t_nil ?_
      refine t_then hK60 ?_
      refine t_ret ?_
      refine ret2 rfl (v_t rfl) (v_t rfl) (t_bk hR56 ?_)
      exact t_go (J474 p463 m464 c465 x466 x462 h468) ⟨rfl, rfl, rfl, rfl, trivial⟩ (.cons e0 (.cons e0 (.cons e0 (.cons e0 (.cons e0 (.cons e0 .nil)))))) (fun w Z hA => V1 a0 hA (V0))
    refine t_seq fun K65 hK66 => ?_
    refine t_region ?_
    refine c_p (r_as rfl) rfl ?_
    refine t_nil ?_
    refine t_then hK66 ?_
    refine t_seq fun K67 hK68 => ?_
    refine t_region ?_
    refine c_p (r_mv rfl) rfl ?_
    refine c_s (r_ld a7 Try.underlying3 rfl rfl rfl) rfl ?_
    refine nx (t_in (args := [.pointer (some ⟨g28, 0, none⟩), .int .i64 z1]) (cap := []) (all := [.pointer (some ⟨g28, 0, none⟩), .int .i64 z1]) rfl rfl Try.func47 nm47 rfl rfl rfl Try.ntmps47 rfl fun R69 k70 hk71 hR72 => ?_)
    have J460 : ∀ (x455 : Int) (p456 : Option Addr) (m457 : Nat) (c458 : Nat) (x459 : List api_Process), f_process_Exit_j6 y45 x455 x459 = some r → T 9 c [vw (kSlice 38 k_api_Process) z0.Processes [.slice p1 m2 c3]] [[row 38 (kShare k_api_Process) x459 (.slice p456 m457 c458)], [blk g28 [.int .i64 y45.Next, .int .i64 y45.NextSession, .slice p456 m457 c458] 28], [blk g29 [.int .i64 0, .int .i64 0, .slice none 0 0] 28], [blk g17 [.int .i64 z0.Next, .int .i64 z0.NextSession, .slice p1 m2 c3] 28], [blk g19 [.int .i64 0, .int .i64 0, .slice none 0 0] 28], [blk g8 [.int .i64 0, .int .i64 0, .slice none 0 0] 28]] [(5, .int .i64 0), (8, .int .i64 x455)] k70 := by
      intro x455 p456 m457 c458 x459 h461
      unfold f_process_Exit_j6 at h461
      refine ti hk71 ?_
      refine c_p (r_as rfl) rfl ?_
      refine t_nil ?_
      refine t_then hK68 ?_
      refine t_ret ?_
      refine ret1 rfl (v_t rfl) (t_bk hR64 ?_)
      exact t_go (J467 x455 p456 m457 c458 x459 h461) ⟨rfl, rfl, rfl, trivial⟩ (.cons e0 (.cons e0 (.cons e0 (.cons e0 (.cons e0 (.cons e0 .nil)))))) (fun w Z hA => V1 a0 hA (V0))
    refine t_seq fun K73 hK74 => ?_
    refine t_region ?_
    refine nx (t_bx (cs := [.int .i64 z1]) rfl rfl rfl fun g75 => ?_)
    refine c_p (r_as rfl) rfl ?_
    refine t_nil ?_
    refine t_then hK74 ?_
    refine t_seq fun K76 hK77 => ?_
    refine t_seq fun K78 hK79 => ?_
    refine t_region ?_
    refine c_s (r_ld a0 Try.underlying3 rfl rfl rfl) rfl ?_
    refine c_p (r_i rfl rfl rfl) rfl ?_
    refine t_nil ?_
    refine t_then hK79 ?_
    rcases Bool.eq_false_or_eq_true (z1 == 1) with hb80 | hb80
    · replace h := itT hb80 h
      refine t_T rfl hb80 ?_
      refine t_seq fun K81 hK82 => ?_
      refine t_region ?_
      refine c_p (r_as rfl) rfl ?_
      refine t_nil ?_
      refine t_then hK82 ?_
      refine t_ret ?_
      refine tr (ret1 rfl (v_t rfl) (t_bk hR72 ?_))
      exact t_go (J460 1 t46.1 t46.2.1 t46.2.2 y45.Processes h) ⟨rfl, rfl, trivial⟩ (.cons e1 (.cons e2 (.cons e1 (.cons e3 (.cons e1 (.cons e2 .nil)))))) (fun w Z hA => V1 a0 hA (V0))
    · replace h := itF hb80 h
      refine t_F rfl hb80 ?_
      refine t_skip ?_
      refine t_then hK77 ?_
      refine t_seq fun K83 hK84 => ?_
      have J360 : ∀ (p356 : Option Addr) (m357 : Nat) (c358 : Nat) (x359 : List api_Process), f_process_Exit_j5 z1 y45 x359 = some r → T 43 c [vw (kSlice 38 k_api_Process) z0.Processes [.slice p1 m2 c3]] [[row 38 (kShare k_api_Process) x359 (.slice p356 m357 c358)], [blk g28 [.int .i64 y45.Next, .int .i64 y45.NextSession, .slice p356 m357 c358] 28], [blk g75 [.int .i64 z1] 3], [blk g29 [.int .i64 0, .int .i64 0, .slice none 0 0] 28], [blk g17 [.int .i64 z0.Next, .int .i64 z0.NextSession, .slice p1 m2 c3] 28], [blk g19 [.int .i64 0, .int .i64 0, .slice none 0 0] 28], [blk g8 [.int .i64 0, .int .i64 0, .slice none 0 0] 28]] [(0, .pointer (some ⟨g28, 0, none⟩)), (3, .pointer (some ⟨g75, 0, none⟩))] K83 := by
        intro p356 m357 c358 x359 h361
        unfold f_process_Exit_j5 at h361
        refine ti hK84 ?_
        refine t_seq fun K362 hK363 => ?_
        refine t_seq fun K364 hK365 => ?_
        refine t_region ?_
        refine c_p (r_mv rfl) rfl ?_
        refine c_p (r_nc rfl) rfl ?_
        refine c_p (r_fa (off' := 2) Try.underlying28 rfl ti26 rfl rfl) rfl ?_
        refine c_s (r_ld a1 Try.underlying26 rfl rfl rfl) rfl ?_
        refine c_s (r_lnL a0 Try.underlying26 rfl) rfl ?_
        refine c_p (r_mv rfl) rfl ?_
        refine t_nil ?_
        refine t_then hK365 ?_
        refine t_block ?_
        refine t_lp fun k420 hk421 => ?_
        have LP424 : ∀ (k426 : Nat) (x422 : List api_Process) (x423 : Int), f_process_Exit_l3 z1 y45 x359 k426 x422 x423 = some r → T 43 c [vw (kSlice 38 k_api_Process) z0.Processes [.slice p1 m2 c3]] [[row 38 (kShare k_api_Process) x422 (.slice p356 m357 c358)], [blk g28 [.int .i64 y45.Next, .int .i64 y45.NextSession, .slice p356 m357 c358] 28], [blk g75 [.int .i64 z1] 3], [blk g29 [.int .i64 0, .int .i64 0, .slice none 0 0] 28], [blk g17 [.int .i64 z0.Next, .int .i64 z0.NextSession, .slice p1 m2 c3] 28], [blk g19 [.int .i64 0, .int .i64 0, .slice none 0 0] 28], [blk g8 [.int .i64 0, .int .i64 0, .slice none 0 0] 28]] [(0, .pointer (some ⟨g28, 0, none⟩)), (3, .pointer (some ⟨g75, 0, none⟩)), (21, .int .i64 (x359.length : Int)), (22, .int .i64 x423)] k420 := by
          intro k426
          induction k426 with
          | zero => intro x422 x423 h425; rewrite [f_process_Exit_l3] at h425; cases h425
          | succ k426 ih427 =>
            intro x422 x423 h425
            rewrite [f_process_Exit_l3] at h425
            refine ti hk421 ?_
            refine t_seq fun K428 hK429 => ?_
            refine t_region ?_
            refine c_p (r_i rfl rfl rfl) rfl ?_
            refine t_nil ?_
            refine t_then hK429 ?_
            refine t_seq fun K430 hK431 => ?_
            rcases Bool.eq_false_or_eq_true (decide (x423 < (x359.length : Int))) with hb432 | hb432
            · replace h425 := itT hb432 h425
              refine t_T rfl hb432 ?_
              refine t_skip ?_
              refine t_then hK431 ?_
              refine t_seq fun K433 hK434 => ?_
              refine t_block ?_
              refine t_seq fun K435 hK436 => ?_
              refine t_region ?_
              refine c_p (r_mv rfl) rfl ?_
              refine c_p (r_as rfl) rfl ?_
              refine t_nil ?_
              refine t_then hK436 ?_
              refine t_seq fun K437 hK438 => ?_
              refine t_quiet mixed (by kernel_rfl) (panic_then (panic_block (panic_then (panic_then (panic_block (panic_then panic_body)))))) ?_
              refine k_p (r_mv rfl) rfl ?_
              refine k_p (r_nc rfl) rfl ?_
              refine k_p (r_fa (off' := 2) Try.underlying28 rfl ti26 rfl rfl) rfl ?_
              refine k_s (r_ld a1 Try.underlying26 rfl rfl rfl) rfl ?_
              refine k_p (r_mv rfl) rfl ?_
              obtain ⟨el442, hel442, h425⟩ := bs h425
              refine t_qL a0 hel442 fun q439 hq440 hm441 => ?_
              refine k_p (r_idx hq440 hm441 hel442 Try.underlying26 ti38 rfl rfl) rfl ?_
              refine t_qf hq440 1 fun q443 hq444 => ?_
              refine k_p (r_fai hq440 hq444 Try.underlying38 rfl ti3 rfl rfl) rfl ?_
              refine t_oI (opensO_share k_api_Process_opens) e0 hel442 fun t445 => ?_
              refine k_s (r_h1 a0 hq444 Try.underlying3 rfl rfl rfl) rfl ?_
              refine k_s (r_ld a2 Try.underlying3 rfl rfl rfl) rfl ?_
              refine k_p (r_i rfl rfl rfl) rfl ?_
              refine k_z ?_
              refine t_then hK438 ?_
              rcases Bool.eq_false_or_eq_true (el442.PPID == z1) with hb446 | hb446
              · replace h425 := itT hb446 h425
                refine t_T rfl hb446 ?_
                refine t_region ?_
                refine c_p (r_mv rfl) rfl ?_
                refine c_p (r_nc rfl) rfl ?_
                refine c_p (r_fa (off' := 2) Try.underlying28 rfl ti26 rfl rfl) rfl ?_
                refine c_s (r_ld a1 Try.underlying26 rfl rfl rfl) rfl ?_
                refine c_p (r_mv rfl) rfl ?_
                refine t_qH a0 hel442 fun q447 hq448 hm449 => ?_
                refine c_p (r_idx hq448 hm449 hel442 Try.underlying26 ti38 rfl rfl) rfl ?_
                refine t_qf hq448 1 fun q450 hq451 => ?_
                refine c_p (r_fai hq448 hq451 Try.underlying38 rfl ti3 rfl rfl) rfl ?_
                refine nx (t_hs u0 hq451 ti3 rfl rfl rfl rfl rfl (.s (.t (.s .z))) ?_)
                refine t_nil ?_
                refine t_blockN ?_
                refine t_then hK434 ?_
                refine t_region ?_
                refine c_p (r_i rfl rfl rfl) rfl ?_
                refine c_p (r_mv rfl) rfl ?_
                refine t_nil ?_
                refine t_cI (u := (⟨el442.PID, 1, el442.UID, el442.EUID, el442.GID, el442.EGID, el442.AUID, el442.Session, el442.Cwd, el442.Comm, el442.Exe, el442.Open, el442.Audited⟩ : api_Process)) (t := (t445.1, t445.2.1, t445.2.2)) (shutsO_share k_api_Process_shuts) (.cons e0 .nil) rfl (fun w Z hA => (V1 a0 hA V0)) ?_
                have hn452 := at_set (u' := (⟨el442.PID, 1, el442.UID, el442.EUID, el442.GID, el442.EGID, el442.AUID, el442.Session, el442.Cwd, el442.Comm, el442.Exe, el442.Open, el442.Audited⟩ : api_Process)) hel442
                exact t_norm (t_go (ih427 (x422.set x423.toNat (⟨el442.PID, 1, el442.UID, el442.EUID, el442.GID, el442.EGID, el442.AUID, el442.Session, el442.Cwd, el442.Comm, el442.Exe, el442.Open, el442.Audited⟩ : api_Process)) (IntKind.wrap .i64 (x423 + 1)) h425) ⟨rfl, rfl, rfl, rfl, trivial⟩ (.cons e0 (.cons e0 (.cons e0 (.cons e0 (.cons e0 (.cons e0 (.cons e0 .nil))))))) (fun w Z hA => V1 a1 hA (V0)))
              · replace h425 := itF hb446 h425
                refine t_F rfl hb446 ?_
                refine t_skip ?_
                refine t_blockN ?_
                refine t_then hK434 ?_
                refine t_region ?_
                refine c_p (r_i rfl rfl rfl) rfl ?_
                refine c_p (r_mv rfl) rfl ?_
                refine t_nil ?_
                refine t_cS (u := el442) (t := (t445.1, t445.2.1, t445.2.2)) (shutsO_share k_api_Process_shuts) hel442 (.cons e0 .nil) rfl (fun w Z hA => (V1 a0 hA V0)) ?_
                exact t_norm (t_go (ih427 x422 (IntKind.wrap .i64 (x423 + 1)) h425) ⟨rfl, rfl, rfl, rfl, trivial⟩ (.cons e0 (.cons e0 (.cons e0 (.cons e0 (.cons e0 (.cons e0 (.cons e0 .nil))))))) (fun w Z hA => V1 a1 hA (V0)))
            · replace h425 := itF hb432 h425
              refine t_F rfl hb432 ?_
              refine t_exit ?_
              refine te (te (bx ?_))
              refine t_then hK363 ?_
              refine t_seq fun K453 hK454 => ?_
              refine t_region ?_
              refine c_p (r_as rfl) rfl ?_
              refine t_nil ?_
              refine t_then hK454 ?_
              refine t_ret ?_
              refine ret1 rfl (v_t rfl) (t_bk hR72 ?_)
              exact t_go (J460 0 p356 m357 c358 x422 h425) ⟨rfl, rfl, trivial⟩ (.cons e0 (.cons e0 (.cons e1 (.cons e1 (.cons e1 (.cons e1 .nil)))))) (fun w Z hA => V1 a0 hA (V0))
        exact t_go (LP424 ((((x359.length : Int) : Int) - (0)).toNat + 1) x359 0 h361) ⟨rfl, rfl, rfl, rfl, trivial⟩ (.cons e0 (.cons e0 (.cons e0 (.cons e0 (.cons e0 (.cons e0 (.cons e0 .nil))))))) (fun w Z hA => V1 a0 hA (V0))
      refine t_region ?_
      refine c_p (r_mv rfl) rfl ?_
      refine c_p (r_mv rfl) rfl ?_
      refine c_p (r_nc rfl) rfl ?_
      refine c_p (r_fa (off' := 2) Try.underlying28 rfl ti26 rfl rfl) rfl ?_
      refine c_s (r_ld a3 Try.underlying26 rfl rfl rfl) rfl ?_
      refine c_p (r_mf (vs := [.pointer (some ⟨g75, 0, none⟩)]) rfl) rfl ?_
      refine nx (t_in (args := [.slice t46.1 t46.2.1 t46.2.2, .func (.func 64) #[] #[.pointer (some ⟨g75, 0, none⟩)]]) (cap := []) (all := [.slice t46.1 t46.2.1 t46.2.2, .func (.func 64) #[] #[.pointer (some ⟨g75, 0, none⟩)]]) rfl rfl Try.func63 nm63 rfl rfl rfl Try.ntmps63 rfl fun R85 k86 hk87 hR88 => ?_)
      have J354 : ∀ (p350 : Option Addr) (m351 : Nat) (c352 : Nat) (x353 : List api_Process), f_process_Exit_j4 z1 y45 x353 = some r → T 43 c [vw (kSlice 38 k_api_Process) z0.Processes [.slice p1 m2 c3]] [[blk g28 [.int .i64 y45.Next, .int .i64 y45.NextSession, .slice t46.1 t46.2.1 t46.2.2] 28], [blk g75 [.int .i64 z1] 3], [row 38 (kShare k_api_Process) x353 (.slice p350 m351 c352)], [blk g29 [.int .i64 0, .int .i64 0, .slice none 0 0] 28], [blk g17 [.int .i64 z0.Next, .int .i64 z0.NextSession, .slice p1 m2 c3] 28], [blk g19 [.int .i64 0, .int .i64 0, .slice none 0 0] 28], [blk g8 [.int .i64 0, .int .i64 0, .slice none 0 0] 28]] [(0, .pointer (some ⟨g28, 0, none⟩)), (3, .pointer (some ⟨g75, 0, none⟩)), (8, .pointer (some ⟨g28, 0, none⟩)), (14, .slice p350 m351 c352)] k86 := by
        intro p350 m351 c352 x353 h355
        unfold f_process_Exit_j4 at h355
        refine ti hk87 ?_
        refine c_p (r_nc rfl) rfl ?_
        refine c_p (r_fa (off' := 2) Try.underlying28 rfl ti26 rfl rfl) rfl ?_
        refine nx (t_st u0 ti26 rfl rfl rfl rfl rfl (.s (.s (.t (.s .z)))) ?_)
        refine t_nil ?_
        exact t_norm (t_go (J360 p350 m351 c352 x353 h355) ⟨rfl, rfl, trivial⟩ (.cons e2 (.cons e0 (.cons e0 (.cons e0 (.cons e0 (.cons e0 (.cons e0 .nil))))))) (fun w Z hA => V1 a0 hA (V0)))
      refine t_seq fun K89 hK90 => ?_
      refine t_region ?_
      refine c_p (r_as rfl) rfl ?_
      refine t_nil ?_
      refine t_then hK90 ?_
      refine t_seq fun K91 hK92 => ?_
      have J202 : ∀ (x201 : Int), f_process_Exit_j2 z1 y45 x201 = some r → T 42 c [vw (kSlice 38 k_api_Process) z0.Processes [.slice p1 m2 c3]] [[row 38 (kShare k_api_Process) y45.Processes (.slice t46.1 t46.2.1 t46.2.2)], [blk g75 [.int .i64 z1] 3], [blk g28 [.int .i64 y45.Next, .int .i64 y45.NextSession, .slice t46.1 t46.2.1 t46.2.2] 28], [blk g29 [.int .i64 0, .int .i64 0, .slice none 0 0] 28], [blk g17 [.int .i64 z0.Next, .int .i64 z0.NextSession, .slice p1 m2 c3] 28], [blk g19 [.int .i64 0, .int .i64 0, .slice none 0 0] 28], [blk g8 [.int .i64 0, .int .i64 0, .slice none 0 0] 28]] [(0, .slice t46.1 t46.2.1 t46.2.2), (1, .func (.func 64) #[] #[.pointer (some ⟨g75, 0, none⟩)]), (5, .int .i64 x201)] K91 := by
        intro x201 h203
        unfold f_process_Exit_j2 at h203
        refine ti hK92 ?_
        refine t_seq fun K204 hK205 => ?_
        refine t_seq fun K206 hK207 => ?_
        refine t_region ?_
        refine c_p (r_mv rfl) rfl ?_
        refine c_p (r_i rfl rfl rfl) rfl ?_
        refine t_nil ?_
        refine t_then hK207 ?_
        rcases Bool.eq_false_or_eq_true (x201 == (-1)) with hb208 | hb208
        · replace h203 := itT hb208 h203
          refine t_T rfl hb208 ?_
          refine t_seq fun K209 hK210 => ?_
          refine t_region ?_
          refine c_p (r_mv rfl) rfl ?_
          refine c_p (r_as rfl) rfl ?_
          refine t_nil ?_
          refine t_then hK210 ?_
          refine t_ret ?_
          refine tr (ret1 rfl (v_t rfl) (t_bk hR88 ?_))
          exact t_go (J354 t46.1 t46.2.1 t46.2.2 y45.Processes h203) ⟨rfl, rfl, rfl, rfl, trivial⟩ (.cons e2 (.cons e1 (.cons e0 (.cons e0 (.cons e0 (.cons e0 (.cons e0 .nil))))))) (fun w Z hA => V1 a0 hA (V0))
        · replace h203 := itF hb208 h203
          refine t_F rfl hb208 ?_
          refine t_skip ?_
          refine t_then hK205 ?_
          refine t_seq fun K211 hK212 => ?_
          have J337 : ∀ (x335 : List api_Process) (x336 : Int), f_process_Exit_j3 z1 y45 x335 x336 = some r → T 42 c [vw (kSlice 38 k_api_Process) z0.Processes [.slice p1 m2 c3]] [[row 38 (kShare k_api_Process) x335 (.slice t46.1 t46.2.1 t46.2.2)], [blk g28 [.int .i64 y45.Next, .int .i64 y45.NextSession, .slice t46.1 t46.2.1 t46.2.2] 28], [blk g75 [.int .i64 z1] 3], [blk g29 [.int .i64 0, .int .i64 0, .slice none 0 0] 28], [blk g17 [.int .i64 z0.Next, .int .i64 z0.NextSession, .slice p1 m2 c3] 28], [blk g19 [.int .i64 0, .int .i64 0, .slice none 0 0] 28], [blk g8 [.int .i64 0, .int .i64 0, .slice none 0 0] 28]] [(0, .slice t46.1 t46.2.1 t46.2.2), (5, .int .i64 x336)] K211 := by
            intro x335 x336 h338
            unfold f_process_Exit_j3 at h338
            refine ti hK212 ?_
            refine t_seq fun K339 hK340 => ?_
            refine t_region ?_
            refine c_p (r_mv rfl) rfl ?_
            refine c_p (r_mv rfl) rfl ?_
            obtain ⟨hc341, h338⟩ := ck_out h338
            refine nx (t_vw (i := x336) (j := (x335.length : Int)) a0 Try.underlying26 ti38 rfl (.inr ⟨_, _, rfl, rfl⟩) (.inl ⟨rfl, rfl⟩) hc341 rfl fun t342 hv343 => ?_)
            refine nx (t_clv (z0 := (⟨0, 0, 0, 0, 0, 0, 0, 0, (⟨0, 0⟩ : api_File), (⟨#[]⟩ : ByteArray), (⟨#[]⟩ : ByteArray), ([] : List api_Descriptor), false⟩ : api_Process)) (zc := [.int .i64 0, .int .i64 0, .int .i64 0, .int .i64 0, .int .i64 0, .int .i64 0, .int .i64 0, .int .i64 0, .int .i64 0, .int .i64 0, .string (⟨#[]⟩ : ByteArray), .string (⟨#[]⟩ : ByteArray), .slice none 0 0, .bool false]) u0 hv343 hc341 Try.underlying26 ti38 rfl rfl (k0 (shutsO_share k_api_Process_shuts) (⟨0, 0, 0, 0, 0, 0, 0, 0, (⟨0, 0⟩ : api_File), (⟨#[]⟩ : ByteArray), (⟨#[]⟩ : ByteArray), ([] : List api_Descriptor), false⟩ : api_Process) (none, 0, 0) (fun _ _ => hn0) (fun _ _ => (VN 81 V0))) rfl ?_)
            refine t_nil ?_
            refine t_then hK340 ?_
            refine t_seq fun K344 hK345 => ?_
            refine t_region ?_
            refine c_p (r_mv rfl) rfl ?_
            refine c_p (r_mv rfl) rfl ?_
            obtain ⟨hc346, h338⟩ := ck_out h338
            refine nx (t_vw (i := 0) (j := x336) a0 Try.underlying26 ti38 rfl (.inl ⟨rfl, rfl⟩) (.inr ⟨_, _, rfl, rfl⟩) hc346 rfl fun t347 hv348 => ?_)
            refine c_p (r_as rfl) rfl ?_
            refine t_nil ?_
            refine t_then hK345 ?_
            refine t_ret ?_
            refine ret1 rfl (v_t rfl) (t_bk hR88 ?_)
            refine t_vm (i := 0) (j := x336) e0 hv348 hc346 (.inl rfl) ?_
            exact t_go (J354 t347.1 t347.2.1 t347.2.2 (cut (zeroed (⟨0, 0, 0, 0, 0, 0, 0, 0, (⟨0, 0⟩ : api_File), (⟨#[]⟩ : ByteArray), (⟨#[]⟩ : ByteArray), ([] : List api_Descriptor), false⟩ : api_Process) x335 x336 (x335.length : Int)) 0 x336) h338) ⟨rfl, rfl, rfl, rfl, trivial⟩ (.cons e1 (.cons e1 (.cons e0 (.cons e0 (.cons e0 (.cons e0 (.cons e0 .nil))))))) (fun w Z hA => V1 a0 hA (V0))
          refine t_seq fun K213 hK214 => ?_
          refine t_region ?_
          refine c_p (r_mv rfl) rfl ?_
          refine c_p (r_i rfl rfl rfl) rfl ?_
          refine c_p (r_as rfl) rfl ?_
          refine t_nil ?_
          refine t_then hK214 ?_
          refine t_block ?_
          refine t_lp fun k291 hk292 => ?_
          have LP296 : ∀ (k298 : Nat) (x293 : List api_Process) (x294 : Int) (x295 : Int), f_process_Exit_l2 z1 y45 k298 x293 x294 x295 = some r → T 42 c [vw (kSlice 38 k_api_Process) z0.Processes [.slice p1 m2 c3]] [[row 38 (kShare k_api_Process) x293 (.slice t46.1 t46.2.1 t46.2.2)], [blk g75 [.int .i64 z1] 3], [blk g28 [.int .i64 y45.Next, .int .i64 y45.NextSession, .slice t46.1 t46.2.1 t46.2.2] 28], [blk g29 [.int .i64 0, .int .i64 0, .slice none 0 0] 28], [blk g17 [.int .i64 z0.Next, .int .i64 z0.NextSession, .slice p1 m2 c3] 28], [blk g19 [.int .i64 0, .int .i64 0, .slice none 0 0] 28], [blk g8 [.int .i64 0, .int .i64 0, .slice none 0 0] 28]] [(0, .slice t46.1 t46.2.1 t46.2.2), (1, .func (.func 64) #[] #[.pointer (some ⟨g75, 0, none⟩)]), (5, .int .i64 x294), (6, .int .i64 x295)] k291 := by
            intro k298
            induction k298 with
            | zero => intro x293 x294 x295 h297; rewrite [f_process_Exit_l2] at h297; cases h297
            | succ k298 ih299 =>
              intro x293 x294 x295 h297
              rewrite [f_process_Exit_l2] at h297
              refine ti hk292 ?_
              refine t_seq fun K300 hK301 => ?_
              refine t_seq fun K302 hK303 => ?_
              refine t_region ?_
              refine c_p (r_mv rfl) rfl ?_
              refine c_p (r_mv rfl) rfl ?_
              refine c_s (r_lnL a0 Try.underlying26 rfl) rfl ?_
              refine c_p (r_i rfl rfl rfl) rfl ?_
              refine t_nil ?_
              refine t_then hK303 ?_
              rcases Bool.eq_false_or_eq_true (decide (x295 < (x293.length : Int))) with hb304 | hb304
              · replace h297 := itT hb304 h297
                refine t_T rfl hb304 ?_
                refine t_skip ?_
                refine t_then hK301 ?_
                refine t_seq fun K305 hK306 => ?_
                refine t_block ?_
                refine t_seq fun K307 hK308 => ?_
                refine t_region ?_
                refine c_p (r_mv rfl) rfl ?_
                refine c_p (r_mv rfl) rfl ?_
                obtain ⟨el312, hel312, h297⟩ := bs h297
                refine t_qL a0 hel312 fun q309 hq310 hm311 => ?_
                refine c_p (r_idx hq310 hm311 hel312 Try.underlying26 ti38 rfl rfl) rfl ?_
                refine t_oI (opensO_share k_api_Process_opens) e0 hel312 fun t313 => ?_
                refine c_s (r_hA a0 hq310 Try.underlying38 rfl ti38 rfl rfl) rfl ?_
                refine nx (t_al (cs := [.int .i64 0, .int .i64 0, .int .i64 0, .int .i64 0, .int .i64 0, .int .i64 0, .int .i64 0, .int .i64 0, .int .i64 0, .int .i64 0, .string (⟨#[]⟩ : ByteArray), .string (⟨#[]⟩ : ByteArray), .slice none 0 0, .bool false]) ti38 rfl rfl fun g314 => ?_)
                refine nx (t_st u0 ti38 rfl rfl rfl rfl rfl (.t (.s (.s (.s (.s (.s (.s (.s (.s (.s (.s (.s (.s (.s (.s .z))))))))))))))) ?_)
                refine t_nil ?_
                refine t_then hK308 ?_
                refine t_seq fun K315 hK316 => ?_
                refine t_region ?_
                refine c_p (r_mv rfl) rfl ?_
                refine c_s (r_ldA a0 Try.underlying38 rfl ti38 rfl rfl) rfl ?_
                refine nx (t_in (args := [.agg #[.int .i64 el312.PID, .int .i64 el312.PPID, .int .i64 el312.UID, .int .i64 el312.EUID, .int .i64 el312.GID, .int .i64 el312.EGID, .int .i64 el312.AUID, .int .i64 el312.Session, .int .i64 el312.Cwd.Dev, .int .i64 el312.Cwd.Ino, .string el312.Comm, .string el312.Exe, .slice t313.1 t313.2.1 t313.2.2, .bool el312.Audited]]) (cap := [.pointer (some ⟨g75, 0, none⟩)]) (all := [.agg #[.int .i64 el312.PID, .int .i64 el312.PPID, .int .i64 el312.UID, .int .i64 el312.EUID, .int .i64 el312.GID, .int .i64 el312.EGID, .int .i64 el312.AUID, .int .i64 el312.Session, .int .i64 el312.Cwd.Dev, .int .i64 el312.Cwd.Ino, .string el312.Comm, .string el312.Exe, .slice t313.1 t313.2.1 t313.2.2, .bool el312.Audited], .pointer (some ⟨g75, 0, none⟩)]) rfl rfl Try.func64 nm64 rfl rfl rfl Try.ntmps64 rfl fun R317 k318 hk319 hR320 => ?_)
                refine t_seq fun K321 hK322 => ?_
                refine t_region ?_
                refine nx (t_bx (cs := [.int .i64 el312.PID, .int .i64 el312.PPID, .int .i64 el312.UID, .int .i64 el312.EUID, .int .i64 el312.GID, .int .i64 el312.EGID, .int .i64 el312.AUID, .int .i64 el312.Session, .int .i64 el312.Cwd.Dev, .int .i64 el312.Cwd.Ino, .string el312.Comm, .string el312.Exe, .slice t313.1 t313.2.1 t313.2.2, .bool el312.Audited]) rfl rfl rfl fun g323 => ?_)
                refine c_p (r_as rfl) rfl ?_
                refine t_nil ?_
                refine t_then hK322 ?_
                refine t_seq fun K324 hK325 => ?_
                refine t_region ?_
                refine c_p (r_fa (off' := 0) Try.underlying38 rfl ti3 rfl rfl) rfl ?_
                refine c_s (r_ld a0 Try.underlying3 rfl rfl rfl) rfl ?_
                refine c_s (r_ld a3 Try.underlying3 rfl rfl rfl) rfl ?_
                refine c_p (r_i rfl rfl rfl) rfl ?_
                refine c_p (r_as rfl) rfl ?_
                refine t_nil ?_
                refine t_then hK325 ?_
                refine t_ret ?_
                refine ret1 rfl (v_t rfl) (t_bk hR320 ?_)
                refine ti hk319 ?_
                refine c_p (r_not rfl) rfl ?_
                refine t_nil ?_
                refine t_then hK316 ?_
                rcases Bool.eq_false_or_eq_true (el312.PID == z1) with hb326 | hb326
                · replace h297 := itT hb326 h297
                  refine t_F rfl (congrArg Bool.not hb326) ?_
                  refine t_skip ?_
                  refine t_blockN ?_
                  refine t_then hK306 ?_
                  refine t_region ?_
                  refine c_p (r_mv rfl) rfl ?_
                  refine c_p (r_i rfl rfl rfl) rfl ?_
                  refine c_p (r_as rfl) rfl ?_
                  refine t_nil ?_
                  refine t_cS (u := el312) (t := (t313.1, t313.2.1, t313.2.2)) (shutsO_share k_api_Process_shuts) hel312 (.cons e2 .nil) rfl (fun w Z hA => (V1 a0 hA V0)) ?_
                  exact t_norm (t_go (ih299 x293 x294 (IntKind.wrap .i64 (x295 + 1)) h297) ⟨rfl, rfl, rfl, rfl, trivial⟩ (.cons e0 (.cons e2 (.cons e2 (.cons e2 (.cons e2 (.cons e2 (.cons e2 .nil))))))) (fun w Z hA => V1 a1 hA (V0)))
                · replace h297 := itF hb326 h297
                  refine t_T rfl (congrArg Bool.not hb326) ?_
                  refine t_seq fun K327 hK328 => ?_
                  refine t_region ?_
                  refine c_p (r_mv rfl) rfl ?_
                  refine c_p (r_mv rfl) rfl ?_
                  refine c_s (r_ldA a1 Try.underlying38 rfl ti38 rfl rfl) rfl ?_
                  refine t_cS (u := el312) (t := (t313.1, t313.2.1, t313.2.2)) (shutsO_share k_api_Process_shuts) hel312 (.cons e2 .nil) rfl (fun w Z hA => (V1 a0 hA V0)) ?_
                  obtain ⟨el332, hel332, h297⟩ := bs h297
                  refine t_qL a0 hel332 fun q329 hq330 hm331 => ?_
                  refine c_p (r_idx hq330 hm331 hel332 Try.underlying26 ti38 rfl rfl) rfl ?_
                  refine t_oI (opensO_share k_api_Process_opens) e0 hel332 fun t333 => ?_
                  refine nx (t_hs u0 hq330 ti38 rfl rfl rfl rfl rfl (.t (.s (.s (.s (.s (.s (.s (.s (.s (.s (.s (.s (.s (.s (.s .z))))))))))))))) ?_)
                  refine t_nil ?_
                  refine t_then hK328 ?_
                  refine t_region ?_
                  refine c_p (r_mv rfl) rfl ?_
                  refine c_p (r_i rfl rfl rfl) rfl ?_
                  refine c_p (r_as rfl) rfl ?_
                  refine t_nil ?_
                  refine t_blockN ?_
                  refine t_then hK306 ?_
                  refine t_region ?_
                  refine c_p (r_mv rfl) rfl ?_
                  refine c_p (r_i rfl rfl rfl) rfl ?_
                  refine c_p (r_as rfl) rfl ?_
                  refine t_nil ?_
                  refine t_cI (u := el312) (t := (t313.1, t313.2.1, t313.2.2)) (shutsO_share k_api_Process_shuts) (.cons e0 .nil) rfl (fun w Z hA => (V1 a1 hA V0)) ?_
                  have hn334 := at_set (u' := el312) hel332
                  exact t_norm (t_go (ih299 (x293.set x294.toNat el312) (IntKind.wrap .i64 (x294 + 1)) (IntKind.wrap .i64 (x295 + 1)) h297) ⟨rfl, rfl, rfl, rfl, trivial⟩ (.cons e0 (.cons e2 (.cons e2 (.cons e2 (.cons e2 (.cons e2 (.cons e2 .nil))))))) (fun w Z hA => V1 a2 hA (V0)))
              · replace h297 := itF hb304 h297
                refine t_F rfl hb304 ?_
                refine t_exit ?_
                refine te (te (bx ?_))
                exact t_norm (t_go (J337 x293 x294 h297) ⟨rfl, rfl, trivial⟩ (.cons e0 (.cons e1 (.cons e0 (.cons e0 (.cons e0 (.cons e0 (.cons e0 .nil))))))) (fun w Z hA => V1 a0 hA (V0)))
          exact t_go (LP296 ((((y45.Processes.length : Int) : Int) - ((IntKind.wrap .i64 (x201 + 1)))).toNat + 1) y45.Processes x201 (IntKind.wrap .i64 (x201 + 1)) h203) ⟨rfl, rfl, rfl, rfl, trivial⟩ (.cons e0 (.cons e0 (.cons e0 (.cons e0 (.cons e0 (.cons e0 (.cons e0 .nil))))))) (fun w Z hA => V1 a0 hA (V0))
      refine t_region ?_
      refine c_p (r_mv rfl) rfl ?_
      refine c_p (r_mv rfl) rfl ?_
      refine nx (t_in (args := [.slice t46.1 t46.2.1 t46.2.2, .func (.func 64) #[] #[.pointer (some ⟨g75, 0, none⟩)]]) (cap := []) (all := [.slice t46.1 t46.2.1 t46.2.2, .func (.func 64) #[] #[.pointer (some ⟨g75, 0, none⟩)]]) rfl rfl Try.func73 nm73 rfl rfl rfl Try.ntmps73 rfl fun R93 k94 hk95 hR96 => ?_)
      have J199 : ∀ (x198 : Int), f_process_Exit_j1 z1 y45 x198 = some r → T 42 c [vw (kSlice 38 k_api_Process) z0.Processes [.slice p1 m2 c3]] [[row 38 (kShare k_api_Process) y45.Processes (.slice t46.1 t46.2.1 t46.2.2)], [blk g75 [.int .i64 z1] 3], [blk g28 [.int .i64 y45.Next, .int .i64 y45.NextSession, .slice t46.1 t46.2.1 t46.2.2] 28], [blk g29 [.int .i64 0, .int .i64 0, .slice none 0 0] 28], [blk g17 [.int .i64 z0.Next, .int .i64 z0.NextSession, .slice p1 m2 c3] 28], [blk g19 [.int .i64 0, .int .i64 0, .slice none 0 0] 28], [blk g8 [.int .i64 0, .int .i64 0, .slice none 0 0] 28]] [(0, .slice t46.1 t46.2.1 t46.2.2), (1, .func (.func 64) #[] #[.pointer (some ⟨g75, 0, none⟩)]), (10, .int .i64 x198)] k94 := by
        intro x198 h200
        unfold f_process_Exit_j1 at h200
        refine ti hk95 ?_
        refine c_p (r_as rfl) rfl ?_
        refine t_nil ?_
        exact t_norm (t_go (J202 x198 h200) ⟨rfl, rfl, rfl, trivial⟩ (.cons e0 (.cons e0 (.cons e0 (.cons e0 (.cons e0 (.cons e0 (.cons e0 .nil))))))) (fun w Z hA => V1 a0 hA (V0)))
      refine t_seq fun K97 hK98 => ?_
      refine t_region ?_
      refine c_p (r_as rfl) rfl ?_
      refine t_nil ?_
      refine t_then hK98 ?_
      refine t_seq fun K99 hK100 => ?_
      refine t_seq fun K101 hK102 => ?_
      refine t_region ?_
      refine c_p (r_mv rfl) rfl ?_
      refine c_s (r_lnL a1 Try.underlying26 rfl) rfl ?_
      refine c_p (r_mv rfl) rfl ?_
      refine t_nil ?_
      refine t_then hK102 ?_
      refine t_block ?_
      refine t_lp fun k161 hk162 => ?_
      have LP164 : ∀ (k166 : Nat) (x163 : Int), f_process_Exit_l1 z1 y45 k166 x163 = some r → T 19 c [vw (kSlice 38 k_api_Process) z0.Processes [.slice p1 m2 c3]] [[row 38 (kShare k_api_Process) y45.Processes (.slice t46.1 t46.2.1 t46.2.2)], [blk g75 [.int .i64 z1] 3], [blk g28 [.int .i64 y45.Next, .int .i64 y45.NextSession, .slice t46.1 t46.2.1 t46.2.2] 28], [blk g29 [.int .i64 0, .int .i64 0, .slice none 0 0] 28], [blk g17 [.int .i64 z0.Next, .int .i64 z0.NextSession, .slice p1 m2 c3] 28], [blk g19 [.int .i64 0, .int .i64 0, .slice none 0 0] 28], [blk g8 [.int .i64 0, .int .i64 0, .slice none 0 0] 28]] [(0, .slice t46.1 t46.2.1 t46.2.2), (1, .func (.func 64) #[] #[.pointer (some ⟨g75, 0, none⟩)]), (7, .int .i64 (y45.Processes.length : Int)), (8, .int .i64 x163)] k161 := by
        intro k166
        induction k166 with
        | zero => intro x163 h165; rewrite [f_process_Exit_l1] at h165; cases h165
        | succ k166 ih167 =>
          intro x163 h165
          rewrite [f_process_Exit_l1] at h165
          refine ti hk162 ?_
          refine t_seq fun K168 hK169 => ?_
          refine t_region ?_
          refine c_p (r_i rfl rfl rfl) rfl ?_
          refine t_nil ?_
          refine t_then hK169 ?_
          refine t_seq fun K170 hK171 => ?_
          rcases Bool.eq_false_or_eq_true (decide (x163 < (y45.Processes.length : Int))) with hb172 | hb172
          · replace h165 := itT hb172 h165
            refine t_T rfl hb172 ?_
            refine t_skip ?_
            refine t_then hK171 ?_
            refine t_seq fun K173 hK174 => ?_
            refine t_block ?_
            refine t_seq fun K175 hK176 => ?_
            refine t_region ?_
            refine c_p (r_mv rfl) rfl ?_
            refine c_p (r_as rfl) rfl ?_
            refine t_nil ?_
            refine t_then hK176 ?_
            refine t_seq fun K177 hK178 => ?_
            refine t_region ?_
            refine c_p (r_mv rfl) rfl ?_
            refine c_p (r_mv rfl) rfl ?_
            refine c_p (r_mv rfl) rfl ?_
            obtain ⟨el182, hel182, h165⟩ := bs h165
            refine t_qL a0 hel182 fun q179 hq180 hm181 => ?_
            refine c_p (r_idx hq180 hm181 hel182 Try.underlying26 ti38 rfl rfl) rfl ?_
            refine t_oI (opensO_share k_api_Process_opens) e0 hel182 fun t183 => ?_
            refine c_s (r_hA a0 hq180 Try.underlying38 rfl ti38 rfl rfl) rfl ?_
            refine nx (t_in (args := [.agg #[.int .i64 el182.PID, .int .i64 el182.PPID, .int .i64 el182.UID, .int .i64 el182.EUID, .int .i64 el182.GID, .int .i64 el182.EGID, .int .i64 el182.AUID, .int .i64 el182.Session, .int .i64 el182.Cwd.Dev, .int .i64 el182.Cwd.Ino, .string el182.Comm, .string el182.Exe, .slice t183.1 t183.2.1 t183.2.2, .bool el182.Audited]]) (cap := [.pointer (some ⟨g75, 0, none⟩)]) (all := [.agg #[.int .i64 el182.PID, .int .i64 el182.PPID, .int .i64 el182.UID, .int .i64 el182.EUID, .int .i64 el182.GID, .int .i64 el182.EGID, .int .i64 el182.AUID, .int .i64 el182.Session, .int .i64 el182.Cwd.Dev, .int .i64 el182.Cwd.Ino, .string el182.Comm, .string el182.Exe, .slice t183.1 t183.2.1 t183.2.2, .bool el182.Audited], .pointer (some ⟨g75, 0, none⟩)]) rfl rfl Try.func64 nm64 rfl rfl rfl Try.ntmps64 rfl fun R184 k185 hk186 hR187 => ?_)
            refine t_seq fun K188 hK189 => ?_
            refine t_region ?_
            refine nx (t_bx (cs := [.int .i64 el182.PID, .int .i64 el182.PPID, .int .i64 el182.UID, .int .i64 el182.EUID, .int .i64 el182.GID, .int .i64 el182.EGID, .int .i64 el182.AUID, .int .i64 el182.Session, .int .i64 el182.Cwd.Dev, .int .i64 el182.Cwd.Ino, .string el182.Comm, .string el182.Exe, .slice t183.1 t183.2.1 t183.2.2, .bool el182.Audited]) rfl rfl rfl fun g190 => ?_)
            refine c_p (r_as rfl) rfl ?_
            refine t_nil ?_
            refine t_then hK189 ?_
            refine t_seq fun K191 hK192 => ?_
            refine t_region ?_
            refine c_p (r_fa (off' := 0) Try.underlying38 rfl ti3 rfl rfl) rfl ?_
            refine c_s (r_ld a0 Try.underlying3 rfl rfl rfl) rfl ?_
            refine c_s (r_ld a2 Try.underlying3 rfl rfl rfl) rfl ?_
            refine c_p (r_i rfl rfl rfl) rfl ?_
            refine c_p (r_as rfl) rfl ?_
            refine t_nil ?_
            refine t_then hK192 ?_
            refine t_ret ?_
            refine ret1 rfl (v_t rfl) (t_bk hR187 ?_)
            refine ti hk186 ?_
            refine t_nil ?_
            refine t_then hK178 ?_
            rcases Bool.eq_false_or_eq_true (el182.PID == z1) with hb193 | hb193
            · replace h165 := itT hb193 h165
              refine t_T rfl hb193 ?_
              refine t_seq fun K194 hK195 => ?_
              refine t_region ?_
              refine c_p (r_mv rfl) rfl ?_
              refine c_p (r_as rfl) rfl ?_
              refine t_nil ?_
              refine t_then hK195 ?_
              refine t_ret ?_
              refine br (tr (tr (br (tr (ret1 rfl (v_t rfl) (t_bk hR96 ?_))))))
              refine t_cS (u := el182) (t := (t183.1, t183.2.1, t183.2.2)) (shutsO_share k_api_Process_shuts) hel182 (.cons e1 .nil) rfl (fun w Z hA => (V1 a0 hA V0)) ?_
              exact t_go (J199 x163 h165) ⟨rfl, rfl, rfl, trivial⟩ (.cons e0 (.cons e1 (.cons e1 (.cons e1 (.cons e1 (.cons e1 (.cons e1 .nil))))))) (fun w Z hA => V1 a1 hA (V0))
            · replace h165 := itF hb193 h165
              refine t_F rfl hb193 ?_
              refine t_skip ?_
              refine t_blockN ?_
              refine t_then hK174 ?_
              refine t_region ?_
              refine c_p (r_i rfl rfl rfl) rfl ?_
              refine c_p (r_mv rfl) rfl ?_
              refine t_nil ?_
              refine t_cS (u := el182) (t := (t183.1, t183.2.1, t183.2.2)) (shutsO_share k_api_Process_shuts) hel182 (.cons e1 .nil) rfl (fun w Z hA => (V1 a0 hA V0)) ?_
              exact t_norm (t_go (ih167 (IntKind.wrap .i64 (x163 + 1)) h165) ⟨rfl, rfl, rfl, rfl, trivial⟩ (.cons e0 (.cons e1 (.cons e1 (.cons e1 (.cons e1 (.cons e1 (.cons e1 .nil))))))) (fun w Z hA => V1 a1 hA (V0)))
          · replace h165 := itF hb172 h165
            refine t_F rfl hb172 ?_
            refine t_exit ?_
            refine te (te (bx ?_))
            refine t_then hK100 ?_
            refine t_seq fun K196 hK197 => ?_
            refine t_region ?_
            refine c_p (r_as rfl) rfl ?_
            refine t_nil ?_
            refine t_then hK197 ?_
            refine t_ret ?_
            refine ret1 rfl (v_t rfl) (t_bk hR96 ?_)
            exact t_go (J199 (-1) h165) ⟨rfl, rfl, rfl, trivial⟩ (.cons e0 (.cons e0 (.cons e0 (.cons e0 (.cons e0 (.cons e0 (.cons e0 .nil))))))) (fun w Z hA => V1 a0 hA (V0))
      exact t_go (LP164 ((((y45.Processes.length : Int) : Int) - (0)).toNat + 1) 0 h) ⟨rfl, rfl, rfl, rfl, trivial⟩ (.cons e1 (.cons e0 (.cons e1 (.cons e0 (.cons e2 (.cons e0 (.cons e1 .nil))))))) (fun w Z hA => V1 a0 hA (V0))
  · replace h := itF hb40 h
    refine t_T rfl (congrArg Bool.not hb40) ?_
    refine t_seq fun K41 hK42 => ?_
    refine t_region ?_
    refine c_p (r_bu (ps := []) (cs := [.int .i64 0, .int .i64 0, .slice none 0 0]) rfl (by kernel_rfl)) rfl ?_
    refine c_p (r_mv rfl) rfl ?_
    refine nx (t_st u0 ti28 rfl rfl rfl rfl rfl (.t (.s (.s (.s .z)))) ?_)
    refine c_p (r_as rfl) rfl ?_
    refine c_p (r_as rfl) rfl ?_
    refine t_nil ?_
    refine t_then hK42 ?_
    refine t_ret ?_
    refine tr (ret3 rfl (v_N rfl a0 Try.underlying28 rfl ti28 rfl) (v_t rfl) (v_t rfl) (t_bk hR25 ?_))
    refine t_nr 38 k_api_Process ?_
    refine t_fe e0 ?_
    exact t_go (J508 0 0 none 0 0 ([] : List api_Process) false 3 h) ⟨rfl, rfl, rfl, trivial⟩ (.cons e5 (.cons e3 (.cons e0 (.cons e3 .nil)))) (fun w Z hA => V1 a0 hA (V0))
end Go.Proofs.Ytanimjbmkhpnaaa.Gx
