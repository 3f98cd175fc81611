/- Function 54, kaudit/own.Table: what it answers as a plain function, and that the Go code comes to exactly that (where the plain function gives an answer). -/
import Derived.Test.YtanimjbmkhpnaaaYT
import Derived.Test.YtanimjbmkhpnaaaY32
set_option linter.unusedVariables false
set_option linter.unusedSimpArgs false
namespace Go.Proofs.Ytanimjbmkhpnaaa.Gx
open Go.Gx Go.RowKit
/-! ### kaudit/own.Table: function 54 -/
def f_own_Table_j1 (z0 : api_Table) (x117 : List api_Process) : Option (api_Table) := some (⟨z0.Next, z0.NextSession, x117⟩ : api_Table)
def f_own_Table_l1 (z0 : api_Table) : Nat → List api_Process → Int → Option (api_Table)
  | 0, _, _ => none
  | k87 + 1, x83, x84 => if (decide (x84 < (z0.Processes.length : Int))) = true then ((at_ z0.Processes x84).bind fun el101 => (f_own_Process el101).bind fun y104 => (at_ x83 x84).bind fun el109 => f_own_Table_l1 z0 k87 (x83.set x84.toNat y104) (IntKind.wrap .i64 (x84 + 1))) else (f_own_Table_j1 z0 x83)
def f_own_Table (z0 : api_Table) : Option (api_Table) := if ((z0.Processes.length : Int) == 0) = true then (f_own_Table_j1 z0 ([] : List api_Process)) else (ck (makes (z0.Processes.length : Int) 144 = true) <| f_own_Table_l1 z0 ((((z0.Processes.length : Int) : Int) - (0)).toNat + 1) (List.replicate (z0.Processes.length : Int).toNat (⟨0, 0, 0, 0, 0, 0, 0, 0, (⟨0, 0⟩ : api_File), (⟨#[]⟩ : ByteArray), (⟨#[]⟩ : ByteArray), ([] : List api_Descriptor), false⟩ : api_Process)) 0)
set_option maxHeartbeats 4000000 in
set_option maxRecDepth 100000 in
theorem C54 (z0 : api_Table) (p1 : Option Addr) (m2 : Nat) (c3 : Nat) (r : api_Table) (h : f_own_Table z0 = some r) : FunG Try.prog 54 #[.agg #[.int .i64 z0.Next, .int .i64 z0.NextSession, .slice p1 m2 c3]] [vw (kSlice 38 k_api_Process) z0.Processes [.slice p1 m2 c3]] [] (fun t : (Option Addr × Nat × Nat) => .agg #[.int .i64 r.Next, .int .i64 r.NextSession, .slice t.1 t.2.1 t.2.2]) (fun t => []) (fun t => [[row 38 k_api_Process r.Processes (.slice t.1 t.2.1 t.2.2)]]) := by
  unfold f_own_Table at h
  refine t_begin (args := [.agg #[.int .i64 z0.Next, .int .i64 z0.NextSession, .slice p1 m2 c3]]) Try.func54 rfl Try.ntmps54 rfl fun c R hR => ?_
  have hQ : ∀ X, X = r → ∀ w2 (t : (Option Addr × Nat × Nat)), PostG c.w0 w2 c.M c.Y [] [[row 38 k_api_Process X.Processes (.slice t.1 t.2.1 t.2.2)]] → R (.returned (.agg #[.int .i64 X.Next, .int .i64 X.NextSession, .slice t.1 t.2.1 t.2.2])) w2 := fun X e => by subst e; exact hR
  refine t_seq fun K4 hK5 => ?_
  refine t_region ?_
  refine nx (t_bx (cs := [.int .i64 z0.Next, .int .i64 z0.NextSession, .slice p1 m2 c3]) rfl rfl rfl fun g6 => ?_)
  refine nx (t_al (cs := [.int .i64 0, .int .i64 0, .slice none 0 0]) ti28 rfl rfl fun g7 => ?_)
  refine t_nil ?_
  refine t_then hK5 ?_
  refine t_seq fun K8 hK9 => ?_
  refine t_region ?_
  refine c_p (r_fa (off' := 2) Try.underlying28 rfl ti26 rfl rfl) rfl ?_
  refine c_s (r_ld a1 Try.underlying26 rfl rfl rfl) rfl ?_
  refine nx (t_in (args := [.slice p1 m2 c3, .func (.func 32) #[] #[]]) (cap := []) (all := [.slice p1 m2 c3, .func (.func 32) #[] #[]]) rfl rfl Try.func69 nm69 rfl rfl rfl Try.ntmps69 rfl fun R10 k11 hk12 hR13 => ?_)
  have J118 : ∀ (p114 : Option Addr) (m115 : Nat) (c116 : Nat) (x117 : List api_Process), f_own_Table_j1 z0 x117 = some r → T 8 c [vw (kSlice 38 k_api_Process) z0.Processes [.slice p1 m2 c3]] [[blk g6 [.int .i64 z0.Next, .int .i64 z0.NextSession, .slice p1 m2 c3] 28], [blk g7 [.int .i64 0, .int .i64 0, .slice none 0 0] 28], [row 38 k_api_Process x117 (.slice p114 m115 c116)]] [(1, .pointer (some ⟨g6, 0, none⟩)), (2, .pointer (some ⟨g7, 0, none⟩)), (5, .slice p114 m115 c116)] k11 := by
    intro p114 m115 c116 x117 h119
    unfold f_own_Table_j1 at h119
    refine ti hk12 ?_
    refine c_p (r_fa (off' := 2) Try.underlying28 rfl ti26 rfl rfl) rfl ?_
    refine nx (t_st u0 ti26 rfl rfl rfl rfl rfl (.s (.s (.t (.s .z)))) ?_)
    refine t_nil ?_
    refine t_then hK9 ?_
    refine t_seq fun K120 hK121 => ?_
    refine t_region ?_
    refine c_s (r_ldA a0 Try.underlying28 rfl ti28 rfl rfl) rfl ?_
    refine nx (t_st u1 ti28 rfl rfl rfl rfl rfl (.t (.s (.s (.s .z)))) ?_)
    refine t_nil ?_
    refine t_then hK121 ?_
    refine t_ret ?_
    exact ret1 rfl (v_N rfl a1 Try.underlying28 rfl ti28 rfl) (t_leave (hQ _ (Option.some.inj h119)) (p114, m115, c116) rfl (fun w Z hA => V0) (.cons e2 .nil))
  refine t_seq fun K14 hK15 => ?_
  refine t_region ?_
  refine c_p (r_as rfl) rfl ?_
  refine t_nil ?_
  refine t_then hK15 ?_
  refine t_seq fun K16 hK17 => ?_
  refine t_seq fun K18 hK19 => ?_
  refine t_region ?_
  refine c_p (r_mv rfl) rfl ?_
  refine c_s (r_lnA a0 Try.underlying26 rfl) rfl ?_
  refine c_p (r_i rfl rfl rfl) rfl ?_
  refine t_nil ?_
  refine t_then hK19 ?_
  rcases Bool.eq_false_or_eq_true ((z0.Processes.length : Int) == 0) with hb20 | hb20
  · replace h := itT hb20 h
    refine t_T rfl hb20 ?_
    refine t_seq fun K21 hK22 => ?_
    refine t_region ?_
    refine c_p (r_as rfl) rfl ?_
    refine t_nil ?_
    refine t_then hK22 ?_
    refine t_ret ?_
    refine tr (ret1 rfl (v_t rfl) (t_bk hR13 ?_))
    refine t_nr 38 k_api_Process ?_
    exact t_go (J118 none 0 0 ([] : List api_Process) h) ⟨rfl, rfl, rfl, trivial⟩ (.cons e2 (.cons e1 (.cons e0 .nil))) (fun w Z hA => V1 a0 hA (V0))
  · replace h := itF hb20 h
    refine t_F rfl hb20 ?_
    refine t_skip ?_
    refine t_then hK17 ?_
    refine t_seq fun K23 hK24 => ?_
    refine t_region ?_
    refine c_p (r_mv rfl) rfl ?_
    refine c_s (r_lnA a0 Try.underlying26 rfl) rfl ?_
    obtain ⟨hc25, h⟩ := ck_out h
    refine nx (t_mk (Kd := k_api_Process) (zc := [.int .i64 0, .int .i64 0, .int .i64 0, .int .i64 0, .int .i64 0, .int .i64 0, .int .i64 0, .int .i64 0, .int .i64 0, .int .i64 0, .string (⟨#[]⟩ : ByteArray), .string (⟨#[]⟩ : ByteArray), .slice none 0 0, .bool false]) Try.underlying26 ti38 rfl rfl hc25 rfl rfl (k0 k_api_Process_shutsO (⟨0, 0, 0, 0, 0, 0, 0, 0, (⟨0, 0⟩ : api_File), (⟨#[]⟩ : ByteArray), (⟨#[]⟩ : ByteArray), ([] : List api_Descriptor), false⟩ : api_Process) (none, 0, 0) (fun _ _ => (hn1 hn0)) (fun _ _ => trivial)) rfl fun t26 => ?_)
    refine c_p (r_as rfl) rfl ?_
    refine t_nil ?_
    refine t_then hK24 ?_
    refine t_seq fun K27 hK28 => ?_
    refine t_seq fun K29 hK30 => ?_
    refine t_region ?_
    refine c_p (r_mv rfl) rfl ?_
    refine c_s (r_lnA a0 Try.underlying26 rfl) rfl ?_
    refine c_p (r_mv rfl) rfl ?_
    refine t_nil ?_
    refine t_then hK30 ?_
    refine t_block ?_
    refine t_lp fun k81 hk82 => ?_
    have LP85 : ∀ (k87 : Nat) (x83 : List api_Process) (x84 : Int), f_own_Table_l1 z0 k87 x83 x84 = some r → T 29 c [vw (kSlice 38 k_api_Process) z0.Processes [.slice p1 m2 c3]] [[row 38 k_api_Process x83 (.slice t26.1 t26.2.1 t26.2.2)], [blk g6 [.int .i64 z0.Next, .int .i64 z0.NextSession, .slice p1 m2 c3] 28], [blk g7 [.int .i64 0, .int .i64 0, .slice none 0 0] 28]] [(1, .func (.func 32) #[] #[]), (5, .slice t26.1 t26.2.1 t26.2.2), (14, .slice p1 m2 c3), (15, .int .i64 (z0.Processes.length : Int)), (16, .int .i64 x84)] k81 := by
      intro k87
      induction k87 with
      | zero => intro x83 x84 h86; rewrite [f_own_Table_l1] at h86; cases h86
      | succ k87 ih88 =>
        intro x83 x84 h86
        rewrite [f_own_Table_l1] at h86
        refine ti hk82 ?_
        refine t_seq fun K89 hK90 => ?_
        refine t_region ?_
        refine c_p (r_i rfl rfl rfl) rfl ?_
        refine t_nil ?_
        refine t_then hK90 ?_
        refine t_seq fun K91 hK92 => ?_
        rcases Bool.eq_false_or_eq_true (decide (x84 < (z0.Processes.length : Int))) with hb93 | hb93
        · replace h86 := itT hb93 h86
          refine t_T rfl hb93 ?_
          refine t_skip ?_
          refine t_then hK92 ?_
          refine t_seq fun K94 hK95 => ?_
          refine t_block ?_
          refine t_seq fun K96 hK97 => ?_
          refine t_region ?_
          refine c_p (r_mv rfl) rfl ?_
          obtain ⟨el101, hel101, h86⟩ := bs h86
          refine t_q a0 hel101 fun q98 hq99 hm100 => ?_
          refine c_p (r_idx hq99 hm100 hel101 Try.underlying26 ti38 rfl rfl) rfl ?_
          refine t_op k_api_Process_opens a0 hel101 fun t102 => ?_
          refine c_s (r_eA a1 hq99 Try.underlying38 rfl ti38 rfl rfl) rfl ?_
          refine nx (t_al (cs := [.int .i64 0, .int .i64 0, .int .i64 0, .int .i64 0, .int .i64 0, .int .i64 0, .int .i64 0, .int .i64 0, .int .i64 0, .int .i64 0, .string (⟨#[]⟩ : ByteArray), .string (⟨#[]⟩ : ByteArray), .slice none 0 0, .bool false]) ti38 rfl rfl fun g103 => ?_)
          refine c_p (r_as rfl) rfl ?_
          refine nx (t_st u0 ti38 rfl rfl rfl rfl rfl (.t (.s (.s (.s (.s (.s (.s (.s (.s (.s (.s (.s (.s (.s (.s .z))))))))))))))) ?_)
          refine t_nil ?_
          refine t_then hK97 ?_
          refine t_region ?_
          refine c_p (r_mv rfl) rfl ?_
          refine c_p (r_mv rfl) rfl ?_
          refine c_p (r_mv rfl) rfl ?_
          refine c_s (r_ldA a0 Try.underlying38 rfl ti38 rfl rfl) rfl ?_
          obtain ⟨y104, hy104, h86⟩ := bs h86
          refine nx (t_ca (C32 _ _ _ _ _ hy104) Try.func32 nm32 rfl rfl rfl .nil (fun w Z hA => (V1 a0 hA V0)) rfl fun t105 => ?_)
          obtain ⟨el109, hel109, h86⟩ := bs h86
          refine t_qL a2 hel109 fun q106 hq107 hm108 => ?_
          refine c_p (r_idx hq107 hm108 hel109 Try.underlying26 ti38 rfl rfl) rfl ?_
          refine t_oI k_api_Process_opensO e2 hel109 fun t110 => ?_
          refine nx (t_hs u0 hq107 ti38 rfl rfl rfl rfl rfl (.t (.s (.s (.s (.s (.s (.s (.s (.s (.s (.s (.s (.s (.s (.s .z))))))))))))))) ?_)
          refine t_nil ?_
          refine t_blockN ?_
          refine t_then hK95 ?_
          refine t_region ?_
          refine c_p (r_i rfl rfl rfl) rfl ?_
          refine c_p (r_mv rfl) rfl ?_
          refine t_nil ?_
          refine t_cI (u := y104) (t := (t105.1, t105.2.1, t105.2.2)) k_api_Process_shutsO (.cons e0 (.cons e1 .nil)) rfl (fun w Z hA => trivial) ?_
          have hn111 := at_set (u' := y104) hel109
          exact t_norm (t_go (ih88 (x83.set x84.toNat y104) (IntKind.wrap .i64 (x84 + 1)) h86) ⟨rfl, rfl, rfl, rfl, rfl, trivial⟩ (.cons e0 (.cons e2 (.cons e2 .nil))) (fun w Z hA => V1 a2 hA (V0)))
        · replace h86 := itF hb93 h86
          refine t_F rfl hb93 ?_
          refine t_exit ?_
          refine te (te (bx ?_))
          refine t_then hK28 ?_
          refine t_seq fun K112 hK113 => ?_
          refine t_region ?_
          refine c_p (r_mv rfl) rfl ?_
          refine c_p (r_as rfl) rfl ?_
          refine t_nil ?_
          refine t_then hK113 ?_
          refine t_ret ?_
          refine ret1 rfl (v_t rfl) (t_bk hR13 ?_)
          exact t_go (J118 t26.1 t26.2.1 t26.2.2 x83 h86) ⟨rfl, rfl, rfl, trivial⟩ (.cons e1 (.cons e1 (.cons e0 .nil))) (fun w Z hA => V1 a0 hA (V0))
    exact t_go (LP85 ((((z0.Processes.length : Int) : Int) - (0)).toNat + 1) (List.replicate (z0.Processes.length : Int).toNat (⟨0, 0, 0, 0, 0, 0, 0, 0, (⟨0, 0⟩ : api_File), (⟨#[]⟩ : ByteArray), (⟨#[]⟩ : ByteArray), ([] : List api_Descriptor), false⟩ : api_Process)) 0 h) ⟨rfl, rfl, rfl, rfl, rfl, trivial⟩ (.cons e0 (.cons e1 (.cons e0 .nil))) (fun w Z hA => V1 a0 hA (V0))
end Go.Proofs.Ytanimjbmkhpnaaa.Gx
