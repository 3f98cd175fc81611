/- K6: the texts Y32, Y33, Y6, Y11, Y12, Y5, Y7, Y9, Y3, DOthers, joined. -/
import Derived.Test.YtkjeedijloobgaaDoorK2
import Derived.Test.YtkjeedijloobgaaDoorK3
import Derived.Test.YtkjeedijloobgaaDoorK4
import Derived.Test.YtkjeedijloobgaaDoorK5
/- Function 32, kaudit/disk.Spoil: what it answers as a plain function, and that the Go code comes to exactly that (where the plain function gives an answer). -/
set_option linter.unusedVariables false
set_option linter.unusedSimpArgs false
namespace Go.Proofs.YtkjeedijloobgaaDoor.Gx
open Go.Gx Go.RowKit
/-! ### kaudit/disk.Spoil: function 32 -/
def f_disk_Spoil (z0 : api_Disk) (z1 : ByteArray) (z2 : Int) (z3 : Int) : Option (api_Disk × Int) := (f_disk_Valid z0).bind fun y12 => if y12 = true then ((f_disk_find z0 z1).bind fun y19 => if (decide (y19 < 0)) = true then (some ((⟨0, ([] : List api_DiskFile), false, 0⟩ : api_Disk), 244)) else (if (decide (z2 < 0)) = true then (some ((⟨0, ([] : List api_DiskFile), false, 0⟩ : api_Disk), 246)) else ((at_ z0.Files y19).bind fun el36 => if (decide (z2 ≥ (el36.Data.length : Int))) = true then (some ((⟨0, ([] : List api_DiskFile), false, 0⟩ : api_Disk), 246)) else ((f_fresh_Disk z0).bind fun y47 => (at_ y47.Files y19).bind fun el55 => (at_ el55.Data z2).bind fun el62 => some ((⟨y47.Room, (y47.Files.set y19.toNat (⟨el55.Name, (el55.Data.set z2.toNat (IntKind.wrap .u8 (((BitVec.ofInt (IntKind.bits .u8) el62 ^^^ BitVec.ofInt (IntKind.bits .u8) z3)).toNat : Int))), el55.Safe⟩ : api_DiskFile)), y47.Off, y47.Plan⟩ : api_Disk), 0))))) else (some ((⟨0, ([] : List api_DiskFile), false, 0⟩ : api_Disk), 241))
set_option maxHeartbeats 4000000 in
set_option maxRecDepth 100000 in
theorem C32 (z0 : api_Disk) (z1 : ByteArray) (z2 : Int) (z3 : Int) (p1 : Option Addr) (m2 : Nat) (c3 : Nat) (r : api_Disk × Int) (h : f_disk_Spoil z0 z1 z2 z3 = some r) : FunG Tryd.prog 32 #[.agg #[.int .i64 z0.Room, .slice p1 m2 c3, .bool z0.Off, .int .i64 z0.Plan], .string z1, .int .i64 z2, .int .u8 z3] [vw (kSlice 34 k_api_DiskFile) z0.Files [.slice p1 m2 c3], g_names] [] (fun t : (Option Addr × Nat × Nat) => .tuple #[.agg #[.int .i64 r.1.Room, .slice t.1 t.2.1 t.2.2, .bool r.1.Off, .int .i64 r.1.Plan], .int .i64 r.2]) (fun t => []) (fun t => [[row 34 k_api_DiskFile r.1.Files (.slice t.1 t.2.1 t.2.2)]]) := by
  unfold f_disk_Spoil at h
  refine t_begin (args := [.agg #[.int .i64 z0.Room, .slice p1 m2 c3, .bool z0.Off, .int .i64 z0.Plan], .string z1, .int .i64 z2, .int .u8 z3]) Tryd.func32 rfl Tryd.ntmps32 rfl fun c R hR => ?_
  have hQ : ∀ X, X = r → ∀ w2 (t : (Option Addr × Nat × Nat)), PostG c.w0 w2 c.M c.Y [] [[row 34 k_api_DiskFile X.1.Files (.slice t.1 t.2.1 t.2.2)]] → R (.returned (.tuple #[.agg #[.int .i64 X.1.Room, .slice t.1 t.2.1 t.2.2, .bool X.1.Off, .int .i64 X.1.Plan], .int .i64 X.2])) w2 := fun X e => by subst e; exact hR
  refine t_seq fun K4 hK5 => ?_
  refine t_region ?_
  refine nx (t_bx (cs := [.int .i64 z0.Room, .slice p1 m2 c3, .bool z0.Off, .int .i64 z0.Plan]) rfl rfl rfl fun g6 => ?_)
  refine nx (t_al (cs := [.int .i64 0, .slice none 0 0, .bool false, .int .i64 0]) ti27 rfl rfl fun g7 => ?_)
  refine c_p (r_as rfl) rfl ?_
  refine t_nil ?_
  refine t_then hK5 ?_
  refine t_seq fun K8 hK9 => ?_
  refine t_seq fun K10 hK11 => ?_
  refine t_region ?_
  refine c_s (r_ldA a1 Tryd.underlying27 rfl ti27 rfl rfl) rfl ?_
  obtain ⟨y12, hy12, h⟩ := bs h
  refine nx (t_ca (C10 _ _ _ _ _ hy12) Tryd.func10 nm10 rfl rfl rfl .nil (fun w Z hA => (V1 a0 hA (V1 a1 hA V0))) rfl fun t13 => ?_)
  refine c_p (r_not rfl) rfl ?_
  refine t_nil ?_
  refine t_then hK11 ?_
  rcases Bool.eq_false_or_eq_true y12 with hb14 | hb14
  · replace h := itT hb14 h
    refine t_F rfl (congrArg Bool.not hb14) ?_
    refine t_skip ?_
    refine t_then hK9 ?_
    refine t_seq fun K17 hK18 => ?_
    refine t_region ?_
    refine c_s (r_ldA a1 Tryd.underlying27 rfl ti27 rfl rfl) rfl ?_
    refine c_p (r_mv rfl) rfl ?_
    obtain ⟨y19, hy19, h⟩ := bs h
    refine nx (t_ca (C34 _ _ _ _ _ _ hy19) Tryd.func34 nm34 rfl rfl rfl .nil (fun w Z hA => (V1 a0 hA (V1 a1 hA V0))) rfl fun t20 => ?_)
    refine c_p (r_as rfl) rfl ?_
    refine t_nil ?_
    refine t_then hK18 ?_
    refine t_seq fun K21 hK22 => ?_
    refine t_seq fun K23 hK24 => ?_
    refine t_region ?_
    refine c_p (r_mv rfl) rfl ?_
    refine c_p (r_i rfl rfl rfl) rfl ?_
    refine t_nil ?_
    refine t_then hK24 ?_
    rcases Bool.eq_false_or_eq_true (decide (y19 < 0)) with hb25 | hb25
    · replace h := itT hb25 h
      refine t_T rfl hb25 ?_
      refine t_seq fun K26 hK27 => ?_
      refine t_region ?_
      refine c_p (r_bu (ps := []) (cs := [.int .i64 0, .slice none 0 0, .bool false, .int .i64 0]) rfl (by kernel_rfl)) rfl ?_
      refine nx (t_st u0 ti27 rfl rfl rfl rfl rfl (.t (.s (.s (.s (.s .z))))) ?_)
      refine c_p (r_as rfl) rfl ?_
      refine t_nil ?_
      refine t_then hK27 ?_
      refine t_ret ?_
      refine t_nr 34 k_api_DiskFile ?_
      exact tr (ret2 rfl (v_N rfl a1 Tryd.underlying27 rfl ti27 rfl) (v_t rfl) (t_leave (hQ _ (Option.some.inj h)) (none, 0, 0) rfl (fun w Z hA => V0) (.cons e0 .nil)))
    · replace h := itF hb25 h
      refine t_F rfl hb25 ?_
      refine t_skip ?_
      refine t_then hK22 ?_
      refine t_seq fun K28 hK29 => ?_
      refine t_seq fun K30 hK31 => ?_
      refine t_region ?_
      refine c_p (r_mv rfl) rfl ?_
      refine c_p (r_i rfl rfl rfl) rfl ?_
      refine c_p (r_mv rfl) rfl ?_
      rcases Bool.eq_false_or_eq_true (decide (z2 < 0)) with hb32 | hb32
      · replace h := itT hb32 h
        refine nx (pass rfl rfl hb32 rfl ?_)
        refine nx (pass rfl rfl hb32 rfl ?_)
        refine nx (pass rfl rfl hb32 rfl ?_)
        refine nx (pass rfl rfl hb32 rfl ?_)
        refine nx (pass rfl rfl hb32 rfl ?_)
        refine nx (pass rfl rfl hb32 rfl ?_)
        refine nx (pass rfl rfl hb32 rfl ?_)
        refine nx (pass rfl rfl hb32 rfl ?_)
        refine nx (pass rfl rfl hb32 rfl ?_)
        refine c_p (r_pT rfl hb32 rfl) rfl ?_
        refine t_nil ?_
        refine t_then hK31 ?_
        refine t_T rfl rfl ?_
        refine t_seq fun K40 hK41 => ?_
        refine t_region ?_
        refine c_p (r_bu (ps := []) (cs := [.int .i64 0, .slice none 0 0, .bool false, .int .i64 0]) rfl (by kernel_rfl)) rfl ?_
        refine nx (t_st u0 ti27 rfl rfl rfl rfl rfl (.t (.s (.s (.s (.s .z))))) ?_)
        refine c_p (r_as rfl) rfl ?_
        refine t_nil ?_
        refine t_then hK41 ?_
        refine t_ret ?_
        refine t_nr 34 k_api_DiskFile ?_
        exact tr (ret2 rfl (v_N rfl a1 Tryd.underlying27 rfl ti27 rfl) (v_t rfl) (t_leave (hQ _ (Option.some.inj h)) (none, 0, 0) rfl (fun w Z hA => V0) (.cons e0 .nil)))
      · replace h := itF hb32 h
        refine nx (gd rfl rfl hb32 (sp (r_mv rfl) rfl ?_))
        refine nx (gd rfl rfl hb32 (sp (r_fa (off' := 1) Tryd.underlying27 rfl ti25 rfl rfl) rfl ?_))
        refine nx (gd rfl rfl hb32 (ss (r_ld a1 Tryd.underlying25 rfl rfl rfl) rfl ?_))
        refine nx (gd rfl rfl hb32 (sp (r_mv rfl) rfl ?_))
        obtain ⟨el36, hel36, h⟩ := bs h
        refine t_q a0 hel36 fun q33 hq34 hm35 => ?_
        refine nx (gd rfl rfl hb32 (sp (r_idx hq34 hm35 hel36 Tryd.underlying25 ti34 rfl rfl) rfl ?_))
        refine t_qf hq34 1 fun q37 hq38 => ?_
        refine nx (gd rfl rfl hb32 (sp (r_fai hq34 hq38 Tryd.underlying34 rfl ti22 rfl rfl) rfl ?_))
        refine t_op k_api_DiskFile_opens a0 hel36 fun t39 => ?_
        refine nx (gd rfl rfl hb32 (ss (r_e1 a1 hq38 Tryd.underlying22 rfl rfl rfl) rfl ?_))
        refine nx (gd rfl rfl hb32 (ss (r_lnA a0 Tryd.underlying22 rfl) rfl ?_))
        refine nx (gd rfl rfl hb32 (sp (r_i rfl rfl rfl) rfl ?_))
        refine c_p (r_pF rfl hb32 rfl) rfl ?_
        refine t_nil ?_
        refine t_then hK31 ?_
        rcases Bool.eq_false_or_eq_true (decide (z2 ≥ (el36.Data.length : Int))) with hb42 | hb42
        · replace h := itT hb42 h
          refine t_T rfl hb42 ?_
          refine t_seq fun K43 hK44 => ?_
          refine t_region ?_
          refine c_p (r_bu (ps := []) (cs := [.int .i64 0, .slice none 0 0, .bool false, .int .i64 0]) rfl (by kernel_rfl)) rfl ?_
          refine nx (t_st u0 ti27 rfl rfl rfl rfl rfl (.t (.s (.s (.s (.s .z))))) ?_)
          refine c_p (r_as rfl) rfl ?_
          refine t_nil ?_
          refine t_then hK44 ?_
          refine t_ret ?_
          refine t_nr 34 k_api_DiskFile ?_
          exact tr (ret2 rfl (v_N rfl a1 Tryd.underlying27 rfl ti27 rfl) (v_t rfl) (t_leave (hQ _ (Option.some.inj h)) (none, 0, 0) rfl (fun w Z hA => V0) (.cons e0 .nil)))
        · replace h := itF hb42 h
          refine t_F rfl hb42 ?_
          refine t_skip ?_
          refine t_then hK29 ?_
          refine t_seq fun K45 hK46 => ?_
          refine t_region ?_
          refine c_s (r_ldA a1 Tryd.underlying27 rfl ti27 rfl rfl) rfl ?_
          obtain ⟨y47, hy47, h⟩ := bs h
          refine nx (t_ca (C61 _ _ _ _ _ hy47) Tryd.func61 nm61 rfl rfl rfl .nil (fun w Z hA => (V1 a2 hA (V1 a3 hA V0))) rfl fun t48 => ?_)
          refine nx (t_al (cs := [.int .i64 0, .slice none 0 0, .bool false, .int .i64 0]) ti27 rfl rfl fun g49 => ?_)
          refine nx (t_st u0 ti27 rfl rfl rfl rfl rfl (.t (.s (.s (.s (.s .z))))) ?_)
          refine t_nil ?_
          refine t_then hK46 ?_
          refine t_seq fun K50 hK51 => ?_
          refine t_region ?_
          refine c_p (r_fa (off' := 1) Tryd.underlying27 rfl ti25 rfl rfl) rfl ?_
          refine c_s (r_ld a0 Tryd.underlying25 rfl rfl rfl) rfl ?_
          refine c_p (r_mv rfl) rfl ?_
          obtain ⟨el55, hel55, h⟩ := bs h
          refine t_qL a1 hel55 fun q52 hq53 hm54 => ?_
          refine c_p (r_idx hq53 hm54 hel55 Tryd.underlying25 ti34 rfl rfl) rfl ?_
          refine t_qf hq53 1 fun q56 hq57 => ?_
          refine c_p (r_fai hq53 hq57 Tryd.underlying34 rfl ti22 rfl rfl) rfl ?_
          refine t_oI k_api_DiskFile_opensO e1 hel55 fun t58 => ?_
          refine c_s (r_h1 a0 hq57 Tryd.underlying22 rfl rfl rfl) rfl ?_
          refine c_p (r_mv rfl) rfl ?_
          obtain ⟨el62, hel62, h⟩ := bs h
          refine t_qL a1 hel62 fun q59 hq60 hm61 => ?_
          refine c_p (r_idx hq60 hm61 hel62 Tryd.underlying22 ti5 rfl rfl) rfl ?_
          refine t_oI (opensO_int .u8) e1 hel62 fun t63 => ?_
          refine c_s (r_h1 a0 hq60 Tryd.underlying5 rfl rfl rfl) rfl ?_
          refine c_p (r_mv rfl) rfl ?_
          refine c_p (r_i rfl rfl rfl) rfl ?_
          refine t_qH a0 hel62 fun q64 hq65 hm66 => ?_
          refine c_p (r_idx hq65 hm66 hel62 Tryd.underlying22 ti5 rfl rfl) rfl ?_
          refine nx (t_hs u0 hq65 ti5 rfl rfl rfl rfl rfl (.t (.s .z)) ?_)
          refine t_nil ?_
          refine t_then hK51 ?_
          refine t_seq fun K67 hK68 => ?_
          refine t_region ?_
          refine c_s (r_ldA a2 Tryd.underlying27 rfl ti27 rfl rfl) rfl ?_
          refine nx (t_st u3 ti27 rfl rfl rfl rfl rfl (.t (.s (.s (.s (.s .z))))) ?_)
          refine c_p (r_as rfl) rfl ?_
          refine t_nil ?_
          refine t_then hK68 ?_
          refine t_ret ?_
          refine t_cI (u := (IntKind.wrap .u8 (((BitVec.ofInt (IntKind.bits .u8) el62 ^^^ BitVec.ofInt (IntKind.bits .u8) z3)).toNat : Int))) (t := ()) (shutsO_int .u8) (.cons e0 .nil) rfl (fun w Z hA => trivial) ?_
          have hn69 := at_set (u' := (IntKind.wrap .u8 (((BitVec.ofInt (IntKind.bits .u8) el62 ^^^ BitVec.ofInt (IntKind.bits .u8) z3)).toNat : Int))) hel62
          refine t_cI (u := (⟨el55.Name, (el55.Data.set z2.toNat (IntKind.wrap .u8 (((BitVec.ofInt (IntKind.bits .u8) el62 ^^^ BitVec.ofInt (IntKind.bits .u8) z3)).toNat : Int))), el55.Safe⟩ : api_DiskFile)) (t := (t58.1, t58.2.1, t58.2.2)) k_api_DiskFile_shutsO (.cons e1 (.cons e0 .nil)) rfl (fun w Z hA => trivial) ?_
          have hn70 := at_set (u' := (⟨el55.Name, (el55.Data.set z2.toNat (IntKind.wrap .u8 (((BitVec.ofInt (IntKind.bits .u8) el62 ^^^ BitVec.ofInt (IntKind.bits .u8) z3)).toNat : Int))), el55.Safe⟩ : api_DiskFile)) hel55
          exact ret2 rfl (v_N rfl a2 Tryd.underlying27 rfl ti27 rfl) (v_t rfl) (t_leave (hQ _ (Option.some.inj h)) (t48.1, t48.2.1, t48.2.2) rfl (fun w Z hA => V0) (.cons e0 .nil))
  · replace h := itF hb14 h
    refine t_T rfl (congrArg Bool.not hb14) ?_
    refine t_seq fun K15 hK16 => ?_
    refine t_region ?_
    refine c_p (r_bu (ps := []) (cs := [.int .i64 0, .slice none 0 0, .bool false, .int .i64 0]) rfl (by kernel_rfl)) rfl ?_
    refine nx (t_st u0 ti27 rfl rfl rfl rfl rfl (.t (.s (.s (.s (.s .z))))) ?_)
    refine c_p (r_as rfl) rfl ?_
    refine t_nil ?_
    refine t_then hK16 ?_
    refine t_ret ?_
    refine t_nr 34 k_api_DiskFile ?_
    exact tr (ret2 rfl (v_N rfl a1 Tryd.underlying27 rfl ti27 rfl) (v_t rfl) (t_leave (hQ _ (Option.some.inj h)) (none, 0, 0) rfl (fun w Z hA => V0) (.cons e0 .nil)))
end Go.Proofs.YtkjeedijloobgaaDoor.Gx

/- Function 33, kaudit/kauditref24.Spoil: what it answers as a plain function, and that the Go code comes to exactly that (where the plain function gives an answer). -/
set_option linter.unusedVariables false
set_option linter.unusedSimpArgs false
namespace Go.Proofs.YtkjeedijloobgaaDoor.Gx
open Go.Gx Go.RowKit
/-! ### kaudit/kauditref24.Spoil: function 33 -/
def f_kauditref24_Spoil (z0 : api_Disk) (z1 : ByteArray) (z2 : Int) (z3 : Int) : Option (api_Disk × Int) := (f_kauditref24_Valid z0).bind fun y12 => if y12 = true then ((f_kauditref24_find z0 z1).bind fun y19 => if (decide (y19 < 0)) = true then (some ((⟨0, ([] : List api_DiskFile), false, 0⟩ : api_Disk), 244)) else (if (decide (z2 < 0)) = true then (some ((⟨0, ([] : List api_DiskFile), false, 0⟩ : api_Disk), 246)) else ((at_ z0.Files y19).bind fun el36 => if (decide (z2 ≥ (el36.Data.length : Int))) = true then (some ((⟨0, ([] : List api_DiskFile), false, 0⟩ : api_Disk), 246)) else ((f_kauditref24_Copy z0).bind fun y47 => (at_ y47.Files y19).bind fun el55 => (at_ el55.Data z2).bind fun el62 => some ((⟨y47.Room, (y47.Files.set y19.toNat (⟨el55.Name, (el55.Data.set z2.toNat (IntKind.wrap .u8 (((BitVec.ofInt (IntKind.bits .u8) el62 ^^^ BitVec.ofInt (IntKind.bits .u8) z3)).toNat : Int))), el55.Safe⟩ : api_DiskFile)), y47.Off, y47.Plan⟩ : api_Disk), 0))))) else (some ((⟨0, ([] : List api_DiskFile), false, 0⟩ : api_Disk), 241))
set_option maxHeartbeats 4000000 in
set_option maxRecDepth 100000 in
theorem C33 (z0 : api_Disk) (z1 : ByteArray) (z2 : Int) (z3 : Int) (p1 : Option Addr) (m2 : Nat) (c3 : Nat) (r : api_Disk × Int) (h : f_kauditref24_Spoil z0 z1 z2 z3 = some r) : FunG Tryd.prog 33 #[.agg #[.int .i64 z0.Room, .slice p1 m2 c3, .bool z0.Off, .int .i64 z0.Plan], .string z1, .int .i64 z2, .int .u8 z3] [vw (kSlice 34 k_api_DiskFile) z0.Files [.slice p1 m2 c3], g_names] [] (fun t : (Option Addr × Nat × Nat) => .tuple #[.agg #[.int .i64 r.1.Room, .slice t.1 t.2.1 t.2.2, .bool r.1.Off, .int .i64 r.1.Plan], .int .i64 r.2]) (fun t => []) (fun t => [[row 34 k_api_DiskFile r.1.Files (.slice t.1 t.2.1 t.2.2)]]) := by
  unfold f_kauditref24_Spoil at h
  refine t_begin (args := [.agg #[.int .i64 z0.Room, .slice p1 m2 c3, .bool z0.Off, .int .i64 z0.Plan], .string z1, .int .i64 z2, .int .u8 z3]) Tryd.func33 rfl Tryd.ntmps33 rfl fun c R hR => ?_
  have hQ : ∀ X, X = r → ∀ w2 (t : (Option Addr × Nat × Nat)), PostG c.w0 w2 c.M c.Y [] [[row 34 k_api_DiskFile X.1.Files (.slice t.1 t.2.1 t.2.2)]] → R (.returned (.tuple #[.agg #[.int .i64 X.1.Room, .slice t.1 t.2.1 t.2.2, .bool X.1.Off, .int .i64 X.1.Plan], .int .i64 X.2])) w2 := fun X e => by subst e; exact hR
  refine t_seq fun K4 hK5 => ?_
  refine t_region ?_
  refine nx (t_bx (cs := [.int .i64 z0.Room, .slice p1 m2 c3, .bool z0.Off, .int .i64 z0.Plan]) rfl rfl rfl fun g6 => ?_)
  refine nx (t_al (cs := [.int .i64 0, .slice none 0 0, .bool false, .int .i64 0]) ti27 rfl rfl fun g7 => ?_)
  refine c_p (r_as rfl) rfl ?_
  refine t_nil ?_
  refine t_then hK5 ?_
  refine t_seq fun K8 hK9 => ?_
  refine t_seq fun K10 hK11 => ?_
  refine t_region ?_
  refine c_s (r_ldA a1 Tryd.underlying27 rfl ti27 rfl rfl) rfl ?_
  obtain ⟨y12, hy12, h⟩ := bs h
  refine nx (t_ca (C62 _ _ _ _ _ hy12) Tryd.func62 nm62 rfl rfl rfl .nil (fun w Z hA => (V1 a0 hA (V1 a1 hA V0))) rfl fun t13 => ?_)
  refine c_p (r_not rfl) rfl ?_
  refine t_nil ?_
  refine t_then hK11 ?_
  rcases Bool.eq_false_or_eq_true y12 with hb14 | hb14
  · replace h := itT hb14 h
    refine t_F rfl (congrArg Bool.not hb14) ?_
    refine t_skip ?_
    refine t_then hK9 ?_
    refine t_seq fun K17 hK18 => ?_
    refine t_region ?_
    refine c_s (r_ldA a1 Tryd.underlying27 rfl ti27 rfl rfl) rfl ?_
    refine c_p (r_mv rfl) rfl ?_
    obtain ⟨y19, hy19, h⟩ := bs h
    refine nx (t_ca (C45 _ _ _ _ _ _ hy19) Tryd.func45 nm45 rfl rfl rfl .nil (fun w Z hA => (V1 a0 hA (V1 a1 hA V0))) rfl fun t20 => ?_)
    refine c_p (r_as rfl) rfl ?_
    refine t_nil ?_
    refine t_then hK18 ?_
    refine t_seq fun K21 hK22 => ?_
    refine t_seq fun K23 hK24 => ?_
    refine t_region ?_
    refine c_p (r_mv rfl) rfl ?_
    refine c_p (r_i rfl rfl rfl) rfl ?_
    refine t_nil ?_
    refine t_then hK24 ?_
    rcases Bool.eq_false_or_eq_true (decide (y19 < 0)) with hb25 | hb25
    · replace h := itT hb25 h
      refine t_T rfl hb25 ?_
      refine t_seq fun K26 hK27 => ?_
      refine t_region ?_
      refine c_p (r_bu (ps := []) (cs := [.int .i64 0, .slice none 0 0, .bool false, .int .i64 0]) rfl (by kernel_rfl)) rfl ?_
      refine nx (t_st u0 ti27 rfl rfl rfl rfl rfl (.t (.s (.s (.s (.s .z))))) ?_)
      refine c_p (r_as rfl) rfl ?_
      refine t_nil ?_
      refine t_then hK27 ?_
      refine t_ret ?_
      refine t_nr 34 k_api_DiskFile ?_
      exact tr (ret2 rfl (v_N rfl a1 Tryd.underlying27 rfl ti27 rfl) (v_t rfl) (t_leave (hQ _ (Option.some.inj h)) (none, 0, 0) rfl (fun w Z hA => V0) (.cons e0 .nil)))
    · replace h := itF hb25 h
      refine t_F rfl hb25 ?_
      refine t_skip ?_
      refine t_then hK22 ?_
      refine t_seq fun K28 hK29 => ?_
      refine t_seq fun K30 hK31 => ?_
      refine t_region ?_
      refine c_p (r_mv rfl) rfl ?_
      refine c_p (r_i rfl rfl rfl) rfl ?_
      refine c_p (r_mv rfl) rfl ?_
      rcases Bool.eq_false_or_eq_true (decide (z2 < 0)) with hb32 | hb32
      · replace h := itT hb32 h
        refine nx (pass rfl rfl hb32 rfl ?_)
        refine nx (pass rfl rfl hb32 rfl ?_)
        refine nx (pass rfl rfl hb32 rfl ?_)
        refine nx (pass rfl rfl hb32 rfl ?_)
        refine nx (pass rfl rfl hb32 rfl ?_)
        refine nx (pass rfl rfl hb32 rfl ?_)
        refine nx (pass rfl rfl hb32 rfl ?_)
        refine nx (pass rfl rfl hb32 rfl ?_)
        refine nx (pass rfl rfl hb32 rfl ?_)
        refine c_p (r_pT rfl hb32 rfl) rfl ?_
        refine t_nil ?_
        refine t_then hK31 ?_
        refine t_T rfl rfl ?_
        refine t_seq fun K40 hK41 => ?_
        refine t_region ?_
        refine c_p (r_bu (ps := []) (cs := [.int .i64 0, .slice none 0 0, .bool false, .int .i64 0]) rfl (by kernel_rfl)) rfl ?_
        refine nx (t_st u0 ti27 rfl rfl rfl rfl rfl (.t (.s (.s (.s (.s .z))))) ?_)
        refine c_p (r_as rfl) rfl ?_
        refine t_nil ?_
        refine t_then hK41 ?_
        refine t_ret ?_
        refine t_nr 34 k_api_DiskFile ?_
        exact tr (ret2 rfl (v_N rfl a1 Tryd.underlying27 rfl ti27 rfl) (v_t rfl) (t_leave (hQ _ (Option.some.inj h)) (none, 0, 0) rfl (fun w Z hA => V0) (.cons e0 .nil)))
      · replace h := itF hb32 h
        refine nx (gd rfl rfl hb32 (sp (r_mv rfl) rfl ?_))
        refine nx (gd rfl rfl hb32 (sp (r_fa (off' := 1) Tryd.underlying27 rfl ti25 rfl rfl) rfl ?_))
        refine nx (gd rfl rfl hb32 (ss (r_ld a1 Tryd.underlying25 rfl rfl rfl) rfl ?_))
        refine nx (gd rfl rfl hb32 (sp (r_mv rfl) rfl ?_))
        obtain ⟨el36, hel36, h⟩ := bs h
        refine t_q a0 hel36 fun q33 hq34 hm35 => ?_
        refine nx (gd rfl rfl hb32 (sp (r_idx hq34 hm35 hel36 Tryd.underlying25 ti34 rfl rfl) rfl ?_))
        refine t_qf hq34 1 fun q37 hq38 => ?_
        refine nx (gd rfl rfl hb32 (sp (r_fai hq34 hq38 Tryd.underlying34 rfl ti22 rfl rfl) rfl ?_))
        refine t_op k_api_DiskFile_opens a0 hel36 fun t39 => ?_
        refine nx (gd rfl rfl hb32 (ss (r_e1 a1 hq38 Tryd.underlying22 rfl rfl rfl) rfl ?_))
        refine nx (gd rfl rfl hb32 (ss (r_lnA a0 Tryd.underlying22 rfl) rfl ?_))
        refine nx (gd rfl rfl hb32 (sp (r_i rfl rfl rfl) rfl ?_))
        refine c_p (r_pF rfl hb32 rfl) rfl ?_
        refine t_nil ?_
        refine t_then hK31 ?_
        rcases Bool.eq_false_or_eq_true (decide (z2 ≥ (el36.Data.length : Int))) with hb42 | hb42
        · replace h := itT hb42 h
          refine t_T rfl hb42 ?_
          refine t_seq fun K43 hK44 => ?_
          refine t_region ?_
          refine c_p (r_bu (ps := []) (cs := [.int .i64 0, .slice none 0 0, .bool false, .int .i64 0]) rfl (by kernel_rfl)) rfl ?_
          refine nx (t_st u0 ti27 rfl rfl rfl rfl rfl (.t (.s (.s (.s (.s .z))))) ?_)
          refine c_p (r_as rfl) rfl ?_
          refine t_nil ?_
          refine t_then hK44 ?_
          refine t_ret ?_
          refine t_nr 34 k_api_DiskFile ?_
          exact tr (ret2 rfl (v_N rfl a1 Tryd.underlying27 rfl ti27 rfl) (v_t rfl) (t_leave (hQ _ (Option.some.inj h)) (none, 0, 0) rfl (fun w Z hA => V0) (.cons e0 .nil)))
        · replace h := itF hb42 h
          refine t_F rfl hb42 ?_
          refine t_skip ?_
          refine t_then hK29 ?_
          refine t_seq fun K45 hK46 => ?_
          refine t_region ?_
          refine c_s (r_ldA a1 Tryd.underlying27 rfl ti27 rfl rfl) rfl ?_
          obtain ⟨y47, hy47, h⟩ := bs h
          refine nx (t_ca (C47 _ _ _ _ _ hy47) Tryd.func47 nm47 rfl rfl rfl .nil (fun w Z hA => (V1 a2 hA (V1 a3 hA V0))) rfl fun t48 => ?_)
          refine nx (t_al (cs := [.int .i64 0, .slice none 0 0, .bool false, .int .i64 0]) ti27 rfl rfl fun g49 => ?_)
          refine nx (t_st u0 ti27 rfl rfl rfl rfl rfl (.t (.s (.s (.s (.s .z))))) ?_)
          refine t_nil ?_
          refine t_then hK46 ?_
          refine t_seq fun K50 hK51 => ?_
          refine t_region ?_
          refine c_p (r_fa (off' := 1) Tryd.underlying27 rfl ti25 rfl rfl) rfl ?_
          refine c_s (r_ld a0 Tryd.underlying25 rfl rfl rfl) rfl ?_
          refine c_p (r_mv rfl) rfl ?_
          obtain ⟨el55, hel55, h⟩ := bs h
          refine t_qL a1 hel55 fun q52 hq53 hm54 => ?_
          refine c_p (r_idx hq53 hm54 hel55 Tryd.underlying25 ti34 rfl rfl) rfl ?_
          refine t_qf hq53 1 fun q56 hq57 => ?_
          refine c_p (r_fai hq53 hq57 Tryd.underlying34 rfl ti22 rfl rfl) rfl ?_
          refine t_oI k_api_DiskFile_opensO e1 hel55 fun t58 => ?_
          refine c_s (r_h1 a0 hq57 Tryd.underlying22 rfl rfl rfl) rfl ?_
          refine c_p (r_mv rfl) rfl ?_
          obtain ⟨el62, hel62, h⟩ := bs h
          refine t_qL a1 hel62 fun q59 hq60 hm61 => ?_
          refine c_p (r_idx hq60 hm61 hel62 Tryd.underlying22 ti5 rfl rfl) rfl ?_
          refine t_oI (opensO_int .u8) e1 hel62 fun t63 => ?_
          refine c_s (r_h1 a0 hq60 Tryd.underlying5 rfl rfl rfl) rfl ?_
          refine c_p (r_mv rfl) rfl ?_
          refine c_p (r_i rfl rfl rfl) rfl ?_
          refine t_qH a0 hel62 fun q64 hq65 hm66 => ?_
          refine c_p (r_idx hq65 hm66 hel62 Tryd.underlying22 ti5 rfl rfl) rfl ?_
          refine nx (t_hs u0 hq65 ti5 rfl rfl rfl rfl rfl (.t (.s .z)) ?_)
          refine t_nil ?_
          refine t_then hK51 ?_
          refine t_seq fun K67 hK68 => ?_
          refine t_region ?_
          refine c_s (r_ldA a2 Tryd.underlying27 rfl ti27 rfl rfl) rfl ?_
          refine nx (t_st u3 ti27 rfl rfl rfl rfl rfl (.t (.s (.s (.s (.s .z))))) ?_)
          refine c_p (r_as rfl) rfl ?_
          refine t_nil ?_
          refine t_then hK68 ?_
          refine t_ret ?_
          refine t_cI (u := (IntKind.wrap .u8 (((BitVec.ofInt (IntKind.bits .u8) el62 ^^^ BitVec.ofInt (IntKind.bits .u8) z3)).toNat : Int))) (t := ()) (shutsO_int .u8) (.cons e0 .nil) rfl (fun w Z hA => trivial) ?_
          have hn69 := at_set (u' := (IntKind.wrap .u8 (((BitVec.ofInt (IntKind.bits .u8) el62 ^^^ BitVec.ofInt (IntKind.bits .u8) z3)).toNat : Int))) hel62
          refine t_cI (u := (⟨el55.Name, (el55.Data.set z2.toNat (IntKind.wrap .u8 (((BitVec.ofInt (IntKind.bits .u8) el62 ^^^ BitVec.ofInt (IntKind.bits .u8) z3)).toNat : Int))), el55.Safe⟩ : api_DiskFile)) (t := (t58.1, t58.2.1, t58.2.2)) k_api_DiskFile_shutsO (.cons e1 (.cons e0 .nil)) rfl (fun w Z hA => trivial) ?_
          have hn70 := at_set (u' := (⟨el55.Name, (el55.Data.set z2.toNat (IntKind.wrap .u8 (((BitVec.ofInt (IntKind.bits .u8) el62 ^^^ BitVec.ofInt (IntKind.bits .u8) z3)).toNat : Int))), el55.Safe⟩ : api_DiskFile)) hel55
          exact ret2 rfl (v_N rfl a2 Tryd.underlying27 rfl ti27 rfl) (v_t rfl) (t_leave (hQ _ (Option.some.inj h)) (t48.1, t48.2.1, t48.2.2) rfl (fun w Z hA => V0) (.cons e0 .nil))
  · replace h := itF hb14 h
    refine t_T rfl (congrArg Bool.not hb14) ?_
    refine t_seq fun K15 hK16 => ?_
    refine t_region ?_
    refine c_p (r_bu (ps := []) (cs := [.int .i64 0, .slice none 0 0, .bool false, .int .i64 0]) rfl (by kernel_rfl)) rfl ?_
    refine nx (t_st u0 ti27 rfl rfl rfl rfl rfl (.t (.s (.s (.s (.s .z))))) ?_)
    refine c_p (r_as rfl) rfl ?_
    refine t_nil ?_
    refine t_then hK16 ?_
    refine t_ret ?_
    refine t_nr 34 k_api_DiskFile ?_
    exact tr (ret2 rfl (v_N rfl a1 Tryd.underlying27 rfl ti27 rfl) (v_t rfl) (t_leave (hQ _ (Option.some.inj h)) (none, 0, 0) rfl (fun w Z hA => V0) (.cons e0 .nil)))
end Go.Proofs.YtkjeedijloobgaaDoor.Gx

/- Function 6, kaudit/kauditlaw24.change: what it answers as a plain function, and that the Go code comes to exactly that (where the plain function gives an answer). -/
set_option linter.unusedVariables false
set_option linter.unusedSimpArgs false
namespace Go.Proofs.YtkjeedijloobgaaDoor.Gx
open Go.Gx Go.RowKit
/-! ### kaudit/kauditlaw24.change: function 6 -/
def f_kauditlaw24_change_j1 (x167 : Int) (x171 : List api_DiskFile) (x172 : Bool) (x173 : Int) (x174 : Int) (x178 : List api_DiskFile) (x179 : Bool) (x180 : Int) (x181 : Int) (x182 : Int) (x183 : Int) : Option (api_Disk × Int × api_Disk × Int × Int) := some ((⟨x167, x171, x172, x173⟩ : api_Disk), x181, (⟨x174, x178, x179, x180⟩ : api_Disk), x182, x183)
def f_kauditlaw24_change (z0 : kauditmill_Case) (z1 : Int) (z2 : api_Disk) (z3 : api_Disk) (z4 : ByteArray) (z5 : ByteArray) (z6 : (List Int)) (z7 : Int) : Option (api_Disk × Int × api_Disk × Int × Int) := if (z1 == 0) = true then ((f_disk_Create z2 z4).bind fun y34 => (f_kauditref24_Create z3 z4).bind fun y36 => f_kauditlaw24_change_j1 y34.1.Room y34.1.Files y34.1.Off y34.1.Plan y36.1.Room y36.1.Files y36.1.Off y36.1.Plan y34.2 y36.2 z0.at_) else (if (z1 == 1) = true then ((f_disk_Append z2 z4 z6).bind fun y43 => (f_kauditref24_Append z3 z4 z6).bind fun y45 => f_kauditlaw24_change_j1 y43.1.Room y43.1.Files y43.1.Off y43.1.Plan y45.1.Room y45.1.Files y45.1.Off y45.1.Plan y43.2 y45.2 z0.at_) else (if (z1 == 2) = true then ((f_disk_Sync z2 z4).bind fun y52 => (f_kauditref24_Sync z3 z4).bind fun y54 => f_kauditlaw24_change_j1 y52.1.Room y52.1.Files y52.1.Off y52.1.Plan y54.1.Room y54.1.Files y54.1.Off y54.1.Plan y52.2 y54.2 z0.at_) else (if (z1 == 3) = true then ((f_disk_Truncate z2 z4 z7).bind fun y61 => (f_kauditref24_Truncate z3 z4 z7).bind fun y63 => f_kauditlaw24_change_j1 y61.1.Room y61.1.Files y61.1.Off y61.1.Plan y63.1.Room y63.1.Files y63.1.Off y63.1.Plan y61.2 y63.2 z0.at_) else (if (z1 == 4) = true then ((f_disk_Rename z2 z4 z5).bind fun y70 => (f_kauditref24_Rename z3 z4 z5).bind fun y72 => f_kauditlaw24_change_j1 y70.1.Room y70.1.Files y70.1.Off y70.1.Plan y72.1.Room y72.1.Files y72.1.Off y72.1.Plan y70.2 y72.2 z0.at_) else (if (z1 == 5) = true then ((f_disk_Remove z2 z4).bind fun y79 => (f_kauditref24_Remove z3 z4).bind fun y81 => f_kauditlaw24_change_j1 y79.1.Room y79.1.Files y79.1.Off y79.1.Plan y81.1.Room y81.1.Files y81.1.Off y81.1.Plan y79.2 y81.2 z0.at_) else (if (z1 == 6) = true then ((f_disk_Fail z2 z7).bind fun y88 => (f_kauditref24_Fail z3 z7).bind fun y90 => f_kauditlaw24_change_j1 y88.1.Room y88.1.Files y88.1.Off y88.1.Plan y90.1.Room y90.1.Files y90.1.Off y90.1.Plan y88.2 y90.2 z0.at_) else (if (z1 == 7) = true then ((f_kauditmill_Case_Keep z0).bind fun y97 => (f_disk_Crash z2 y97.1).bind fun y101 => (f_kauditref24_Crash z3 y97.1).bind fun y103 => f_kauditlaw24_change_j1 y101.Room y101.Files y101.Off y101.Plan y103.Room y103.Files y103.Off y103.Plan 0 0 y97.2) else ((f_disk_Spoil z2 z4 z7 5).bind fun y107 => (f_kauditref24_Spoil z3 z4 z7 5).bind fun y109 => f_kauditlaw24_change_j1 y107.1.Room y107.1.Files y107.1.Off y107.1.Plan y109.1.Room y109.1.Files y109.1.Off y109.1.Plan y107.2 y109.2 z0.at_))))))))
set_option maxHeartbeats 4000000 in
set_option maxRecDepth 100000 in
theorem C6 (z0 : kauditmill_Case) (z1 : Int) (z2 : api_Disk) (z3 : api_Disk) (z4 : ByteArray) (z5 : ByteArray) (z6 : (List Int)) (z7 : Int) (g_ : Nat) (p1 : Option Addr) (m2 : Nat) (c3 : Nat) (p4 : Option Addr) (m5 : Nat) (c6 : Nat) (p7 : Option Addr) (m8 : Nat) (c9 : Nat) (p10 : Option Addr) (m11 : Nat) (c12 : Nat) (r : api_Disk × Int × api_Disk × Int × Int) (h : f_kauditlaw24_change z0 z1 z2 z3 z4 z5 z6 z7 = some r) : FunG Tryd.prog 6 #[.pointer (some ⟨g_, 0, none⟩), .int .i64 z1, .agg #[.int .i64 z2.Room, .slice p4 m5 c6, .bool z2.Off, .int .i64 z2.Plan], .agg #[.int .i64 z3.Room, .slice p7 m8 c9, .bool z3.Off, .int .i64 z3.Plan], .string z4, .string z5, .slice p10 m11 c12, .int .i64 z7] [vw (kSlice 5 (kInt .u8)) z0.codes [.slice p1 m2 c3], vw (kSlice 34 k_api_DiskFile) z2.Files [.slice p4 m5 c6], vw (kSlice 34 k_api_DiskFile) z3.Files [.slice p7 m8 c9], vw (kSlice 5 (kInt .u8)) z6 [.slice p10 m11 c12], g_names] [[blk g_ [.slice p1 m2 c3, .int .i64 z0.at_] 41]] (fun t : (Option Addr × Nat × Nat) × (Option Addr × Nat × Nat) => .tuple #[.agg #[.int .i64 r.1.Room, .slice t.1.1 t.1.2.1 t.1.2.2, .bool r.1.Off, .int .i64 r.1.Plan], .int .i64 r.2.1, .agg #[.int .i64 r.2.2.1.Room, .slice t.2.1 t.2.2.1 t.2.2.2, .bool r.2.2.1.Off, .int .i64 r.2.2.1.Plan], .int .i64 r.2.2.2.1]) (fun t => []) (fun t => [[blk g_ [.slice p1 m2 c3, .int .i64 r.2.2.2.2] 41], [row 34 (kShare k_api_DiskFile) r.1.Files (.slice t.1.1 t.1.2.1 t.1.2.2)], [row 34 (kShare k_api_DiskFile) r.2.2.1.Files (.slice t.2.1 t.2.2.1 t.2.2.2)]]) := by
  unfold f_kauditlaw24_change at h
  refine t_begin (args := [.pointer (some ⟨g_, 0, none⟩), .int .i64 z1, .agg #[.int .i64 z2.Room, .slice p4 m5 c6, .bool z2.Off, .int .i64 z2.Plan], .agg #[.int .i64 z3.Room, .slice p7 m8 c9, .bool z3.Off, .int .i64 z3.Plan], .string z4, .string z5, .slice p10 m11 c12, .int .i64 z7]) Tryd.func6 rfl Tryd.ntmps6 rfl fun c R hR => ?_
  have hQ : ∀ X, X = r → ∀ w2 (t : (Option Addr × Nat × Nat) × (Option Addr × Nat × Nat)), PostG c.w0 w2 c.M c.Y [] [[blk g_ [.slice p1 m2 c3, .int .i64 X.2.2.2.2] 41], [row 34 (kShare k_api_DiskFile) X.1.Files (.slice t.1.1 t.1.2.1 t.1.2.2)], [row 34 (kShare k_api_DiskFile) X.2.2.1.Files (.slice t.2.1 t.2.2.1 t.2.2.2)]] → R (.returned (.tuple #[.agg #[.int .i64 X.1.Room, .slice t.1.1 t.1.2.1 t.1.2.2, .bool X.1.Off, .int .i64 X.1.Plan], .int .i64 X.2.1, .agg #[.int .i64 X.2.2.1.Room, .slice t.2.1 t.2.2.1 t.2.2.2, .bool X.2.2.1.Off, .int .i64 X.2.2.1.Plan], .int .i64 X.2.2.2.1])) w2 := fun X e => by subst e; exact hR
  refine t_seq fun K13 hK14 => ?_
  refine t_region ?_
  refine nx (t_bx (cs := [.int .i64 z2.Room, .slice p4 m5 c6, .bool z2.Off, .int .i64 z2.Plan]) rfl rfl rfl fun g15 => ?_)
  refine nx (t_bx (cs := [.int .i64 z3.Room, .slice p7 m8 c9, .bool z3.Off, .int .i64 z3.Plan]) rfl rfl rfl fun g16 => ?_)
  refine nx (t_al (cs := [.int .i64 0, .slice none 0 0, .bool false, .int .i64 0]) ti27 rfl rfl fun g17 => ?_)
  refine c_p (r_as rfl) rfl ?_
  refine nx (t_al (cs := [.int .i64 0, .slice none 0 0, .bool false, .int .i64 0]) ti27 rfl rfl fun g18 => ?_)
  refine c_p (r_as rfl) rfl ?_
  refine t_nil ?_
  refine t_then hK14 ?_
  refine t_seq fun K19 hK20 => ?_
  refine t_region ?_
  refine nx (t_al (cs := [.int .i64 0, .slice none 0 0, .bool false, .int .i64 0]) ti27 rfl rfl fun g21 => ?_)
  refine nx (t_al (cs := [.int .i64 0, .slice none 0 0, .bool false, .int .i64 0]) ti27 rfl rfl fun g22 => ?_)
  refine t_nil ?_
  refine t_then hK20 ?_
  refine t_seq fun K23 hK24 => ?_
  refine t_region ?_
  refine c_p (r_as rfl) rfl ?_
  refine c_p (r_as rfl) rfl ?_
  refine t_nil ?_
  refine t_then hK24 ?_
  refine t_seq fun K25 hK26 => ?_
  have J184 : ∀ (x167 : Int) (p168 : Option Addr) (m169 : Nat) (c170 : Nat) (x171 : List api_DiskFile) (x172 : Bool) (x173 : Int) (x174 : Int) (p175 : Option Addr) (m176 : Nat) (c177 : Nat) (x178 : List api_DiskFile) (x179 : Bool) (x180 : Int) (x181 : Int) (x182 : Int) (x183 : Int), f_kauditlaw24_change_j1 x167 x171 x172 x173 x174 x178 x179 x180 x181 x182 x183 = some r → T 158 c [vw (kSlice 5 (kInt .u8)) z0.codes [.slice p1 m2 c3], g_names] [[blk g17 [.int .i64 0, .slice none 0 0, .bool false, .int .i64 0] 27], [blk g18 [.int .i64 0, .slice none 0 0, .bool false, .int .i64 0] 27], [row 34 (kShare k_api_DiskFile) x171 (.slice p168 m169 c170)], [blk g21 [.int .i64 x167, .slice p168 m169 c170, .bool x172, .int .i64 x173] 27], [row 34 (kShare k_api_DiskFile) x178 (.slice p175 m176 c177)], [blk g22 [.int .i64 x174, .slice p175 m176 c177, .bool x179, .int .i64 x180] 27], [blk g_ [.slice p1 m2 c3, .int .i64 x183] 41]] [(16, .pointer (some ⟨g17, 0, none⟩)), (18, .pointer (some ⟨g18, 0, none⟩)), (20, .pointer (some ⟨g21, 0, none⟩)), (21, .pointer (some ⟨g22, 0, none⟩)), (22, .int .i64 x181), (23, .int .i64 x182)] K25 := by
    intro x167 p168 m169 c170 x171 x172 x173 x174 p175 m176 c177 x178 x179 x180 x181 x182 x183 h185
    unfold f_kauditlaw24_change_j1 at h185
    refine ti hK26 ?_
    refine t_seq fun K186 hK187 => ?_
    refine t_draw mixed (fun w_ => Bk g22 [.int .i64 x174, .slice p175 m176 c177, .bool x179, .int .i64 x180] w_ ∧ True) [2] [4, 6] rfl ?_
    refine q_u 0 (panic_then panic_body) rfl (by kernel_rfl) W0 (by kernel_rfl) (r_ldA a3 Tryd.underlying27 rfl ti27 rfl rfl) rfl ?_
    refine q_p 1 (panic_then panic_body) rfl (by kernel_rfl) W0 (r_mv rfl) rfl ?_
    refine q_s 2 (panic_then panic_body) rfl (by kernel_rfl) W0 (by kernel_rfl) (fun w H => ⟨bk a5 H, trivial⟩) (b_ldN (fun _ h => h.1) Tryd.underlying27 rfl ti27 rfl (.t (.s (.s (.s (.s .z)))))) rfl ?_
    refine q_p 3 (panic_then panic_body) rfl (by kernel_rfl) W0 (r_mv rfl) rfl ?_
    refine d1 4 rfl (by kernel_rfl) (by kernel_rfl) ?_
    refine t_st u0 ti27 rfl rfl rfl rfl rfl (.t (.s (.s (.s (.s .z))))) ?_
    refine dk (fun w H => ⟨bk a5 H, trivial⟩) ?_
    refine q_p 5 (panic_then panic_body) rfl (by kernel_rfl) W0 (r_as rfl) rfl ?_
    refine d1 6 rfl (by kernel_rfl) (by kernel_rfl) ?_
    refine t_st u1 ti27 rfl rfl rfl rfl rfl (.t (.s (.s (.s (.s .z))))) ?_
    refine dn (by kernel_rfl) ?_
    refine q_p 7 (panic_then panic_body) rfl (by kernel_rfl) W0 (r_as rfl) rfl ?_
    refine dz (by kernel_rfl) ?_
    refine t_then hK187 ?_
    refine t_ret ?_
    exact ret4 rfl (v_N rfl a0 Tryd.underlying27 rfl ti27 rfl) (v_t rfl) (v_N rfl a1 Tryd.underlying27 rfl ti27 rfl) (v_t rfl) (t_leave (hQ _ (Option.some.inj h185)) ((p168, m169, c170), (p175, m176, c177)) rfl (fun w Z hA => V0) (.cons e6 (.cons e2 (.cons e3 .nil))))
  refine t_seq fun K27 hK28 => ?_
  refine t_region ?_
  refine c_p (r_mv rfl) rfl ?_
  refine t_nil ?_
  refine t_then hK28 ?_
  refine t_block ?_
  refine t_seq fun K29 hK30 => ?_
  refine t_region ?_
  refine c_p (r_i rfl rfl rfl) rfl ?_
  refine c_p (r_as rfl) rfl ?_
  refine t_nil ?_
  refine t_then hK30 ?_
  rcases Bool.eq_false_or_eq_true (z1 == 0) with hb31 | hb31
  · replace h := itT hb31 h
    refine t_T rfl hb31 ?_
    refine t_seq fun K32 hK33 => ?_
    refine t_region ?_
    refine c_s (r_ldA a5 Tryd.underlying27 rfl ti27 rfl rfl) rfl ?_
    refine c_p (r_mv rfl) rfl ?_
    obtain ⟨y34, hy34, h⟩ := bs h
    refine nx (t_ca (C15 _ _ _ _ _ _ hy34) Tryd.func15 nm15 rfl rfl rfl .nil (fun w Z hA => (V1 a1 hA (V1 a4 hA V0))) rfl fun t35 => ?_)
    refine c_p (r_mv rfl) rfl ?_
    refine c_p (r_ex rfl rfl) rfl ?_
    refine c_p (r_ex rfl rfl) rfl ?_
    refine nx (t_st u2 ti27 rfl rfl rfl rfl rfl (.t (.s (.s (.s (.s .z))))) ?_)
    refine c_p (r_as rfl) rfl ?_
    refine t_nil ?_
    refine t_then hK33 ?_
    refine t_region ?_
    refine c_s (r_ldA a5 Tryd.underlying27 rfl ti27 rfl rfl) rfl ?_
    refine c_p (r_mv rfl) rfl ?_
    obtain ⟨y36, hy36, h⟩ := bs h
    refine nx (t_ca (C16 _ _ _ _ _ _ hy36) Tryd.func16 nm16 rfl rfl rfl .nil (fun w Z hA => (V1 a2 hA (V1 a4 hA V0))) rfl fun t37 => ?_)
    refine c_p (r_mv rfl) rfl ?_
    refine c_p (r_ex rfl rfl) rfl ?_
    refine c_p (r_ex rfl rfl) rfl ?_
    refine nx (t_st u2 ti27 rfl rfl rfl rfl rfl (.t (.s (.s (.s (.s .z))))) ?_)
    refine c_p (r_as rfl) rfl ?_
    refine t_nil ?_
    refine t_blockN ?_
    refine t_fe e1 ?_
    exact t_norm (t_go (J184 y34.1.Room t35.1 t35.2.1 t35.2.2 y34.1.Files y34.1.Off y34.1.Plan y36.1.Room t37.1 t37.2.1 t37.2.2 y36.1.Files y36.1.Off y36.1.Plan y34.2 y36.2 z0.at_ h) ⟨rfl, rfl, rfl, rfl, rfl, rfl, trivial⟩ (.cons e5 (.cons e4 (.cons e0 (.cons e2 (.cons e0 (.cons e0 (.cons e2 .nil))))))) (fun w Z hA => V1 a0 hA (V1 a4 hA (V0))))
  · replace h := itF hb31 h
    refine t_F rfl hb31 ?_
    refine t_seq fun K38 hK39 => ?_
    refine t_region ?_
    refine c_p (r_i rfl rfl rfl) rfl ?_
    refine c_p (r_as rfl) rfl ?_
    refine t_nil ?_
    refine t_then hK39 ?_
    rcases Bool.eq_false_or_eq_true (z1 == 1) with hb40 | hb40
    · replace h := itT hb40 h
      refine t_T rfl hb40 ?_
      refine t_seq fun K41 hK42 => ?_
      refine t_region ?_
      refine c_s (r_ldA a5 Tryd.underlying27 rfl ti27 rfl rfl) rfl ?_
      refine c_p (r_mv rfl) rfl ?_
      refine c_p (r_mv rfl) rfl ?_
      obtain ⟨y43, hy43, h⟩ := bs h
      refine nx (t_ca (C17 _ _ _ _ _ _ _ _ _ _ hy43) Tryd.func17 nm17 rfl rfl rfl .nil (fun w Z hA => (V1 a1 hA (V1 a3 hA (V1 a4 hA V0)))) rfl fun t44 => ?_)
      refine c_p (r_mv rfl) rfl ?_
      refine c_p (r_ex rfl rfl) rfl ?_
      refine c_p (r_ex rfl rfl) rfl ?_
      refine nx (t_st u2 ti27 rfl rfl rfl rfl rfl (.t (.s (.s (.s (.s .z))))) ?_)
      refine c_p (r_as rfl) rfl ?_
      refine t_nil ?_
      refine t_then hK42 ?_
      refine t_region ?_
      refine c_s (r_ldA a5 Tryd.underlying27 rfl ti27 rfl rfl) rfl ?_
      refine c_p (r_mv rfl) rfl ?_
      refine c_p (r_mv rfl) rfl ?_
      obtain ⟨y45, hy45, h⟩ := bs h
      refine nx (t_ca (C18 _ _ _ _ _ _ _ _ _ _ hy45) Tryd.func18 nm18 rfl rfl rfl .nil (fun w Z hA => (V1 a2 hA (V1 a3 hA (V1 a4 hA V0)))) rfl fun t46 => ?_)
      refine c_p (r_mv rfl) rfl ?_
      refine c_p (r_ex rfl rfl) rfl ?_
      refine c_p (r_ex rfl rfl) rfl ?_
      refine nx (t_st u2 ti27 rfl rfl rfl rfl rfl (.t (.s (.s (.s (.s .z))))) ?_)
      refine c_p (r_as rfl) rfl ?_
      refine t_nil ?_
      refine t_blockN ?_
      refine t_fe e1 ?_
      refine t_fe e1 ?_
      exact t_norm (t_go (J184 y43.1.Room t44.1 t44.2.1 t44.2.2 y43.1.Files y43.1.Off y43.1.Plan y45.1.Room t46.1 t46.2.1 t46.2.2 y45.1.Files y45.1.Off y45.1.Plan y43.2 y45.2 z0.at_ h) ⟨rfl, rfl, rfl, rfl, rfl, rfl, trivial⟩ (.cons e5 (.cons e4 (.cons e1 (.cons e2 (.cons e0 (.cons e0 (.cons e2 .nil))))))) (fun w Z hA => V1 a0 hA (V1 a4 hA (V0))))
    · replace h := itF hb40 h
      refine t_F rfl hb40 ?_
      refine t_seq fun K47 hK48 => ?_
      refine t_region ?_
      refine c_p (r_i rfl rfl rfl) rfl ?_
      refine c_p (r_as rfl) rfl ?_
      refine t_nil ?_
      refine t_then hK48 ?_
      rcases Bool.eq_false_or_eq_true (z1 == 2) with hb49 | hb49
      · replace h := itT hb49 h
        refine t_T rfl hb49 ?_
        refine t_seq fun K50 hK51 => ?_
        refine t_region ?_
        refine c_s (r_ldA a5 Tryd.underlying27 rfl ti27 rfl rfl) rfl ?_
        refine c_p (r_mv rfl) rfl ?_
        obtain ⟨y52, hy52, h⟩ := bs h
        refine nx (t_ca (C19 _ _ _ _ _ _ hy52) Tryd.func19 nm19 rfl rfl rfl .nil (fun w Z hA => (V1 a1 hA (V1 a4 hA V0))) rfl fun t53 => ?_)
        refine c_p (r_mv rfl) rfl ?_
        refine c_p (r_ex rfl rfl) rfl ?_
        refine c_p (r_ex rfl rfl) rfl ?_
        refine nx (t_st u2 ti27 rfl rfl rfl rfl rfl (.t (.s (.s (.s (.s .z))))) ?_)
        refine c_p (r_as rfl) rfl ?_
        refine t_nil ?_
        refine t_then hK51 ?_
        refine t_region ?_
        refine c_s (r_ldA a5 Tryd.underlying27 rfl ti27 rfl rfl) rfl ?_
        refine c_p (r_mv rfl) rfl ?_
        obtain ⟨y54, hy54, h⟩ := bs h
        refine nx (t_ca (C20 _ _ _ _ _ _ hy54) Tryd.func20 nm20 rfl rfl rfl .nil (fun w Z hA => (V1 a2 hA (V1 a4 hA V0))) rfl fun t55 => ?_)
        refine c_p (r_mv rfl) rfl ?_
        refine c_p (r_ex rfl rfl) rfl ?_
        refine c_p (r_ex rfl rfl) rfl ?_
        refine nx (t_st u2 ti27 rfl rfl rfl rfl rfl (.t (.s (.s (.s (.s .z))))) ?_)
        refine c_p (r_as rfl) rfl ?_
        refine t_nil ?_
        refine t_blockN ?_
        refine t_fe e1 ?_
        refine t_fe e1 ?_
        exact t_norm (t_go (J184 y52.1.Room t53.1 t53.2.1 t53.2.2 y52.1.Files y52.1.Off y52.1.Plan y54.1.Room t55.1 t55.2.1 t55.2.2 y54.1.Files y54.1.Off y54.1.Plan y52.2 y54.2 z0.at_ h) ⟨rfl, rfl, rfl, rfl, rfl, rfl, trivial⟩ (.cons e5 (.cons e4 (.cons e1 (.cons e2 (.cons e0 (.cons e0 (.cons e2 .nil))))))) (fun w Z hA => V1 a0 hA (V1 a4 hA (V0))))
      · replace h := itF hb49 h
        refine t_F rfl hb49 ?_
        refine t_seq fun K56 hK57 => ?_
        refine t_region ?_
        refine c_p (r_i rfl rfl rfl) rfl ?_
        refine c_p (r_as rfl) rfl ?_
        refine t_nil ?_
        refine t_then hK57 ?_
        rcases Bool.eq_false_or_eq_true (z1 == 3) with hb58 | hb58
        · replace h := itT hb58 h
          refine t_T rfl hb58 ?_
          refine t_seq fun K59 hK60 => ?_
          refine t_region ?_
          refine c_s (r_ldA a5 Tryd.underlying27 rfl ti27 rfl rfl) rfl ?_
          refine c_p (r_mv rfl) rfl ?_
          refine c_p (r_mv rfl) rfl ?_
          obtain ⟨y61, hy61, h⟩ := bs h
          refine nx (t_ca (C21 _ _ _ _ _ _ _ hy61) Tryd.func21 nm21 rfl rfl rfl .nil (fun w Z hA => (V1 a1 hA (V1 a4 hA V0))) rfl fun t62 => ?_)
          refine c_p (r_mv rfl) rfl ?_
          refine c_p (r_ex rfl rfl) rfl ?_
          refine c_p (r_ex rfl rfl) rfl ?_
          refine nx (t_st u2 ti27 rfl rfl rfl rfl rfl (.t (.s (.s (.s (.s .z))))) ?_)
          refine c_p (r_as rfl) rfl ?_
          refine t_nil ?_
          refine t_then hK60 ?_
          refine t_region ?_
          refine c_s (r_ldA a5 Tryd.underlying27 rfl ti27 rfl rfl) rfl ?_
          refine c_p (r_mv rfl) rfl ?_
          refine c_p (r_mv rfl) rfl ?_
          obtain ⟨y63, hy63, h⟩ := bs h
          refine nx (t_ca (C22 _ _ _ _ _ _ _ hy63) Tryd.func22 nm22 rfl rfl rfl .nil (fun w Z hA => (V1 a2 hA (V1 a4 hA V0))) rfl fun t64 => ?_)
          refine c_p (r_mv rfl) rfl ?_
          refine c_p (r_ex rfl rfl) rfl ?_
          refine c_p (r_ex rfl rfl) rfl ?_
          refine nx (t_st u2 ti27 rfl rfl rfl rfl rfl (.t (.s (.s (.s (.s .z))))) ?_)
          refine c_p (r_as rfl) rfl ?_
          refine t_nil ?_
          refine t_blockN ?_
          refine t_fe e1 ?_
          refine t_fe e1 ?_
          exact t_norm (t_go (J184 y61.1.Room t62.1 t62.2.1 t62.2.2 y61.1.Files y61.1.Off y61.1.Plan y63.1.Room t64.1 t64.2.1 t64.2.2 y63.1.Files y63.1.Off y63.1.Plan y61.2 y63.2 z0.at_ h) ⟨rfl, rfl, rfl, rfl, rfl, rfl, trivial⟩ (.cons e5 (.cons e4 (.cons e1 (.cons e2 (.cons e0 (.cons e0 (.cons e2 .nil))))))) (fun w Z hA => V1 a0 hA (V1 a4 hA (V0))))
        · replace h := itF hb58 h
          refine t_F rfl hb58 ?_
          refine t_seq fun K65 hK66 => ?_
          refine t_region ?_
          refine c_p (r_i rfl rfl rfl) rfl ?_
          refine c_p (r_as rfl) rfl ?_
          refine t_nil ?_
          refine t_then hK66 ?_
          rcases Bool.eq_false_or_eq_true (z1 == 4) with hb67 | hb67
          · replace h := itT hb67 h
            refine t_T rfl hb67 ?_
            refine t_seq fun K68 hK69 => ?_
            refine t_region ?_
            refine c_s (r_ldA a5 Tryd.underlying27 rfl ti27 rfl rfl) rfl ?_
            refine c_p (r_mv rfl) rfl ?_
            refine c_p (r_mv rfl) rfl ?_
            obtain ⟨y70, hy70, h⟩ := bs h
            refine nx (t_ca (C23 _ _ _ _ _ _ _ hy70) Tryd.func23 nm23 rfl rfl rfl .nil (fun w Z hA => (V1 a1 hA (V1 a4 hA V0))) rfl fun t71 => ?_)
            refine c_p (r_mv rfl) rfl ?_
            refine c_p (r_ex rfl rfl) rfl ?_
            refine c_p (r_ex rfl rfl) rfl ?_
            refine nx (t_st u2 ti27 rfl rfl rfl rfl rfl (.t (.s (.s (.s (.s .z))))) ?_)
            refine c_p (r_as rfl) rfl ?_
            refine t_nil ?_
            refine t_then hK69 ?_
            refine t_region ?_
            refine c_s (r_ldA a5 Tryd.underlying27 rfl ti27 rfl rfl) rfl ?_
            refine c_p (r_mv rfl) rfl ?_
            refine c_p (r_mv rfl) rfl ?_
            obtain ⟨y72, hy72, h⟩ := bs h
            refine nx (t_ca (C24 _ _ _ _ _ _ _ hy72) Tryd.func24 nm24 rfl rfl rfl .nil (fun w Z hA => (V1 a2 hA (V1 a4 hA V0))) rfl fun t73 => ?_)
            refine c_p (r_mv rfl) rfl ?_
            refine c_p (r_ex rfl rfl) rfl ?_
            refine c_p (r_ex rfl rfl) rfl ?_
            refine nx (t_st u2 ti27 rfl rfl rfl rfl rfl (.t (.s (.s (.s (.s .z))))) ?_)
            refine c_p (r_as rfl) rfl ?_
            refine t_nil ?_
            refine t_blockN ?_
            exact t_norm (t_go (J184 y70.1.Room t71.1 t71.2.1 t71.2.2 y70.1.Files y70.1.Off y70.1.Plan y72.1.Room t73.1 t73.2.1 t73.2.2 y72.1.Files y72.1.Off y72.1.Plan y70.2 y72.2 z0.at_ h) ⟨rfl, rfl, rfl, rfl, rfl, rfl, trivial⟩ (.cons e5 (.cons e4 (.cons e1 (.cons e2 (.cons e0 (.cons e0 (.cons e2 .nil))))))) (fun w Z hA => V1 a0 hA (V1 a4 hA (V0))))
          · replace h := itF hb67 h
            refine t_F rfl hb67 ?_
            refine t_seq fun K74 hK75 => ?_
            refine t_region ?_
            refine c_p (r_i rfl rfl rfl) rfl ?_
            refine c_p (r_as rfl) rfl ?_
            refine t_nil ?_
            refine t_then hK75 ?_
            rcases Bool.eq_false_or_eq_true (z1 == 5) with hb76 | hb76
            · replace h := itT hb76 h
              refine t_T rfl hb76 ?_
              refine t_seq fun K77 hK78 => ?_
              refine t_region ?_
              refine c_s (r_ldA a5 Tryd.underlying27 rfl ti27 rfl rfl) rfl ?_
              refine c_p (r_mv rfl) rfl ?_
              obtain ⟨y79, hy79, h⟩ := bs h
              refine nx (t_ca (C25 _ _ _ _ _ _ hy79) Tryd.func25 nm25 rfl rfl rfl .nil (fun w Z hA => (V1 a1 hA (V1 a4 hA V0))) rfl fun t80 => ?_)
              refine c_p (r_mv rfl) rfl ?_
              refine c_p (r_ex rfl rfl) rfl ?_
              refine c_p (r_ex rfl rfl) rfl ?_
              refine nx (t_st u2 ti27 rfl rfl rfl rfl rfl (.t (.s (.s (.s (.s .z))))) ?_)
              refine c_p (r_as rfl) rfl ?_
              refine t_nil ?_
              refine t_then hK78 ?_
              refine t_region ?_
              refine c_s (r_ldA a5 Tryd.underlying27 rfl ti27 rfl rfl) rfl ?_
              refine c_p (r_mv rfl) rfl ?_
              obtain ⟨y81, hy81, h⟩ := bs h
              refine nx (t_ca (C26 _ _ _ _ _ _ hy81) Tryd.func26 nm26 rfl rfl rfl .nil (fun w Z hA => (V1 a2 hA (V1 a4 hA V0))) rfl fun t82 => ?_)
              refine c_p (r_mv rfl) rfl ?_
              refine c_p (r_ex rfl rfl) rfl ?_
              refine c_p (r_ex rfl rfl) rfl ?_
              refine nx (t_st u2 ti27 rfl rfl rfl rfl rfl (.t (.s (.s (.s (.s .z))))) ?_)
              refine c_p (r_as rfl) rfl ?_
              refine t_nil ?_
              refine t_blockN ?_
              refine t_fe e1 ?_
              exact t_norm (t_go (J184 y79.1.Room t80.1 t80.2.1 t80.2.2 y79.1.Files y79.1.Off y79.1.Plan y81.1.Room t82.1 t82.2.1 t82.2.2 y81.1.Files y81.1.Off y81.1.Plan y79.2 y81.2 z0.at_ h) ⟨rfl, rfl, rfl, rfl, rfl, rfl, trivial⟩ (.cons e5 (.cons e4 (.cons e0 (.cons e2 (.cons e0 (.cons e0 (.cons e2 .nil))))))) (fun w Z hA => V1 a0 hA (V1 a4 hA (V0))))
            · replace h := itF hb76 h
              refine t_F rfl hb76 ?_
              refine t_seq fun K83 hK84 => ?_
              refine t_region ?_
              refine c_p (r_i rfl rfl rfl) rfl ?_
              refine c_p (r_as rfl) rfl ?_
              refine t_nil ?_
              refine t_then hK84 ?_
              rcases Bool.eq_false_or_eq_true (z1 == 6) with hb85 | hb85
              · replace h := itT hb85 h
                refine t_T rfl hb85 ?_
                refine t_seq fun K86 hK87 => ?_
                refine t_region ?_
                refine c_s (r_ldA a5 Tryd.underlying27 rfl ti27 rfl rfl) rfl ?_
                refine c_p (r_mv rfl) rfl ?_
                obtain ⟨y88, hy88, h⟩ := bs h
                refine nx (t_ca (C27 _ _ _ _ _ _ hy88) Tryd.func27 nm27 rfl rfl rfl .nil (fun w Z hA => (V1 a1 hA (V1 a4 hA V0))) rfl fun t89 => ?_)
                refine c_p (r_mv rfl) rfl ?_
                refine c_p (r_ex rfl rfl) rfl ?_
                refine c_p (r_ex rfl rfl) rfl ?_
                refine nx (t_st u2 ti27 rfl rfl rfl rfl rfl (.t (.s (.s (.s (.s .z))))) ?_)
                refine c_p (r_as rfl) rfl ?_
                refine t_nil ?_
                refine t_then hK87 ?_
                refine t_region ?_
                refine c_s (r_ldA a5 Tryd.underlying27 rfl ti27 rfl rfl) rfl ?_
                refine c_p (r_mv rfl) rfl ?_
                obtain ⟨y90, hy90, h⟩ := bs h
                refine nx (t_ca (C28 _ _ _ _ _ _ hy90) Tryd.func28 nm28 rfl rfl rfl .nil (fun w Z hA => (V1 a2 hA (V1 a4 hA V0))) rfl fun t91 => ?_)
                refine c_p (r_mv rfl) rfl ?_
                refine c_p (r_ex rfl rfl) rfl ?_
                refine c_p (r_ex rfl rfl) rfl ?_
                refine nx (t_st u2 ti27 rfl rfl rfl rfl rfl (.t (.s (.s (.s (.s .z))))) ?_)
                refine c_p (r_as rfl) rfl ?_
                refine t_nil ?_
                refine t_blockN ?_
                refine t_fe e1 ?_
                refine t_fe e1 ?_
                exact t_norm (t_go (J184 y88.1.Room t89.1 t89.2.1 t89.2.2 y88.1.Files y88.1.Off y88.1.Plan y90.1.Room t91.1 t91.2.1 t91.2.2 y90.1.Files y90.1.Off y90.1.Plan y88.2 y90.2 z0.at_ h) ⟨rfl, rfl, rfl, rfl, rfl, rfl, trivial⟩ (.cons e5 (.cons e4 (.cons e1 (.cons e2 (.cons e0 (.cons e0 (.cons e2 .nil))))))) (fun w Z hA => V1 a0 hA (V1 a4 hA (V0))))
              · replace h := itF hb85 h
                refine t_F rfl hb85 ?_
                refine t_seq fun K92 hK93 => ?_
                refine t_region ?_
                refine c_p (r_i rfl rfl rfl) rfl ?_
                refine c_p (r_as rfl) rfl ?_
                refine t_nil ?_
                refine t_then hK93 ?_
                rcases Bool.eq_false_or_eq_true (z1 == 7) with hb94 | hb94
                · replace h := itT hb94 h
                  refine t_T rfl hb94 ?_
                  refine t_seq fun K95 hK96 => ?_
                  refine t_region ?_
                  refine c_p (r_mv rfl) rfl ?_
                  obtain ⟨y97, hy97, h⟩ := bs h
                  refine nx (t_ca (C29 _ _ _ _ _ _ hy97) Tryd.func29 nm29 rfl rfl rfl (.cons e6 .nil) (fun w Z hA => (V1 a0 hA (V1 a4 hA V0))) rfl fun t98 => ?_)
                  refine c_p (r_as rfl) rfl ?_
                  refine t_nil ?_
                  refine t_then hK96 ?_
                  refine t_draw mixed (fun w_ => Bk g16 [.int .i64 z3.Room, .slice p7 m8 c9, .bool z3.Off, .int .i64 z3.Plan] w_ ∧ True) [3] [2, 5, 6, 7] rfl ?_
                  refine q_u 0 (panic_block (panic_then panic_body)) rfl (by kernel_rfl) W0 (by kernel_rfl) (r_ldA a7 Tryd.underlying27 rfl ti27 rfl rfl) rfl ?_
                  refine q_p 1 (panic_block (panic_then panic_body)) rfl (by kernel_rfl) W0 (r_mv rfl) rfl ?_
                  refine q_s 3 (panic_block (panic_then panic_body)) rfl (by kernel_rfl) W0 (by kernel_rfl) (fun w H => ⟨bk a6 H, trivial⟩) (b_ldN (fun _ h => h.1) Tryd.underlying27 rfl ti27 rfl (.t (.s (.s (.s (.s .z)))))) rfl ?_
                  refine q_p 4 (panic_block (panic_then panic_body)) rfl (by kernel_rfl) W0 (r_mv rfl) rfl ?_
                  refine d1 2 rfl (by kernel_rfl) (by kernel_rfl) ?_
                  obtain ⟨y101, hy101, h⟩ := bs h
                  refine t_cf (C30 _ _ _ _ _ _ _ _ _ hy101) (fun _ => (flat_cons (indK_slice 34 k_api_DiskFile_indK) flat_nil)) Tryd.func30 nm30 rfl rfl rfl .nil (fun w Z S hA hL => (F1 a1 hA (FL a1 hL (F1 a4 hA F0)))) rfl fun t102 => ?_
                  refine dk (fun w H => ⟨bk a7 H, trivial⟩) ?_
                  refine d1 5 rfl (by kernel_rfl) (by kernel_rfl) ?_
                  obtain ⟨y103, hy103, h⟩ := bs h
                  refine t_cf (C31 _ _ _ _ _ _ _ _ _ hy103) (fun _ => (flat_cons (indK_slice 34 k_api_DiskFile_indK) flat_nil)) Tryd.func31 nm31 rfl rfl rfl .nil (fun w Z S hA hL => (F1 a2 hA (FL a2 hL (F1 a4 hA F0)))) rfl fun t104 => ?_
                  refine dn (by kernel_rfl) ?_
                  refine d1 6 rfl (by kernel_rfl) (by kernel_rfl) ?_
                  refine t_st u5 ti27 rfl rfl rfl rfl rfl (.t (.s (.s (.s (.s .z))))) ?_
                  refine dn (by kernel_rfl) ?_
                  refine d1 7 rfl (by kernel_rfl) (by kernel_rfl) ?_
                  refine t_st u4 ti27 rfl rfl rfl rfl rfl (.t (.s (.s (.s (.s .z))))) ?_
                  refine dn (by kernel_rfl) ?_
                  refine dz (by kernel_rfl) ?_
                  refine t_blockN ?_
                  refine t_fe e1 ?_
                  refine t_fe e1 ?_
                  exact t_norm (t_go (J184 y101.Room t102.1 t102.2.1 t102.2.2 y101.Files y101.Off y101.Plan y103.Room t104.1 t104.2.1 t104.2.2 y103.Files y103.Off y103.Plan 0 0 y97.2 h) ⟨rfl, rfl, rfl, rfl, rfl, rfl, trivial⟩ (.cons e7 (.cons e6 (.cons e1 (.cons e4 (.cons e0 (.cons e2 (.cons e0 .nil))))))) (fun w Z hA => V1 a0 hA (V1 a4 hA (V0))))
                · replace h := itF hb94 h
                  refine t_F rfl hb94 ?_
                  refine t_seq fun K105 hK106 => ?_
                  refine t_region ?_
                  refine c_s (r_ldA a5 Tryd.underlying27 rfl ti27 rfl rfl) rfl ?_
                  refine c_p (r_mv rfl) rfl ?_
                  refine c_p (r_mv rfl) rfl ?_
                  obtain ⟨y107, hy107, h⟩ := bs h
                  refine nx (t_ca (C32 _ _ _ _ _ _ _ _ hy107) Tryd.func32 nm32 rfl rfl rfl .nil (fun w Z hA => (V1 a1 hA (V1 a4 hA V0))) rfl fun t108 => ?_)
                  refine c_p (r_mv rfl) rfl ?_
                  refine c_p (r_ex rfl rfl) rfl ?_
                  refine c_p (r_ex rfl rfl) rfl ?_
                  refine nx (t_st u2 ti27 rfl rfl rfl rfl rfl (.t (.s (.s (.s (.s .z))))) ?_)
                  refine c_p (r_as rfl) rfl ?_
                  refine t_nil ?_
                  refine t_then hK106 ?_
                  refine t_region ?_
                  refine c_s (r_ldA a5 Tryd.underlying27 rfl ti27 rfl rfl) rfl ?_
                  refine c_p (r_mv rfl) rfl ?_
                  refine c_p (r_mv rfl) rfl ?_
                  obtain ⟨y109, hy109, h⟩ := bs h
                  refine nx (t_ca (C33 _ _ _ _ _ _ _ _ hy109) Tryd.func33 nm33 rfl rfl rfl .nil (fun w Z hA => (V1 a2 hA (V1 a4 hA V0))) rfl fun t110 => ?_)
                  refine c_p (r_mv rfl) rfl ?_
                  refine c_p (r_ex rfl rfl) rfl ?_
                  refine c_p (r_ex rfl rfl) rfl ?_
                  refine nx (t_st u2 ti27 rfl rfl rfl rfl rfl (.t (.s (.s (.s (.s .z))))) ?_)
                  refine c_p (r_as rfl) rfl ?_
                  refine t_nil ?_
                  refine t_blockN ?_
                  refine t_fe e1 ?_
                  refine t_fe e1 ?_
                  exact t_norm (t_go (J184 y107.1.Room t108.1 t108.2.1 t108.2.2 y107.1.Files y107.1.Off y107.1.Plan y109.1.Room t110.1 t110.2.1 t110.2.2 y109.1.Files y109.1.Off y109.1.Plan y107.2 y109.2 z0.at_ h) ⟨rfl, rfl, rfl, rfl, rfl, rfl, trivial⟩ (.cons e5 (.cons e4 (.cons e1 (.cons e2 (.cons e0 (.cons e0 (.cons e2 .nil))))))) (fun w Z hA => V1 a0 hA (V1 a4 hA (V0))))
end Go.Proofs.YtkjeedijloobgaaDoor.Gx

/- Function 11, kaudit/disk.New: what it answers as a plain function, and that the Go code comes to exactly that (where the plain function gives an answer). -/
set_option linter.unusedVariables false
set_option linter.unusedSimpArgs false
namespace Go.Proofs.YtkjeedijloobgaaDoor.Gx
open Go.Gx Go.RowKit
/-! ### kaudit/disk.New: function 11 -/
def f_disk_New (z0 : Int) : Option (api_Disk × Int) := if (decide (z0 < 0)) = true then (some ((⟨0, ([] : List api_DiskFile), false, 0⟩ : api_Disk), 240)) else (if (decide (z0 > 1048576)) = true then (some ((⟨0, ([] : List api_DiskFile), false, 0⟩ : api_Disk), 240)) else (some ((⟨z0, ([] : List api_DiskFile), false, 0⟩ : api_Disk), 0)))
set_option maxHeartbeats 4000000 in
set_option maxRecDepth 100000 in
theorem C11 (z0 : Int) (r : api_Disk × Int) (h : f_disk_New z0 = some r) : FunG Tryd.prog 11 #[.int .i64 z0] [g_names] [] (fun t : (Option Addr × Nat × Nat) => .tuple #[.agg #[.int .i64 r.1.Room, .slice t.1 t.2.1 t.2.2, .bool r.1.Off, .int .i64 r.1.Plan], .int .i64 r.2]) (fun t => []) (fun t => [[row 34 k_api_DiskFile r.1.Files (.slice t.1 t.2.1 t.2.2)]]) := by
  unfold f_disk_New at h
  refine t_begin (args := [.int .i64 z0]) Tryd.func11 rfl Tryd.ntmps11 rfl fun c R hR => ?_
  have hQ : ∀ X, X = r → ∀ w2 (t : (Option Addr × Nat × Nat)), PostG c.w0 w2 c.M c.Y [] [[row 34 k_api_DiskFile X.1.Files (.slice t.1 t.2.1 t.2.2)]] → R (.returned (.tuple #[.agg #[.int .i64 X.1.Room, .slice t.1 t.2.1 t.2.2, .bool X.1.Off, .int .i64 X.1.Plan], .int .i64 X.2])) w2 := fun X e => by subst e; exact hR
  refine t_seq fun K1 hK2 => ?_
  refine t_region ?_
  refine nx (t_al (cs := [.int .i64 0, .slice none 0 0, .bool false, .int .i64 0]) ti27 rfl rfl fun g3 => ?_)
  refine c_p (r_as rfl) rfl ?_
  refine t_nil ?_
  refine t_then hK2 ?_
  refine t_seq fun K4 hK5 => ?_
  refine t_seq fun K6 hK7 => ?_
  refine t_region ?_
  refine c_p (r_mv rfl) rfl ?_
  refine c_p (r_i rfl rfl rfl) rfl ?_
  refine c_p (r_mv rfl) rfl ?_
  rcases Bool.eq_false_or_eq_true (decide (z0 < 0)) with hb8 | hb8
  · replace h := itT hb8 h
    refine nx (pass rfl rfl hb8 rfl ?_)
    refine nx (pass rfl rfl hb8 rfl ?_)
    refine c_p (r_pT rfl hb8 rfl) rfl ?_
    refine t_nil ?_
    refine t_then hK7 ?_
    refine t_T rfl rfl ?_
    refine t_seq fun K9 hK10 => ?_
    refine t_region ?_
    refine c_p (r_bu (ps := []) (cs := [.int .i64 0, .slice none 0 0, .bool false, .int .i64 0]) rfl (by kernel_rfl)) rfl ?_
    refine nx (t_st u0 ti27 rfl rfl rfl rfl rfl (.t (.s (.s (.s (.s .z))))) ?_)
    refine c_p (r_as rfl) rfl ?_
    refine t_nil ?_
    refine t_then hK10 ?_
    refine t_ret ?_
    refine t_nr 34 k_api_DiskFile ?_
    exact tr (ret2 rfl (v_N rfl a1 Tryd.underlying27 rfl ti27 rfl) (v_t rfl) (t_leave (hQ _ (Option.some.inj h)) (none, 0, 0) rfl (fun w Z hA => V0) (.cons e0 .nil)))
  · replace h := itF hb8 h
    refine nx (gd rfl rfl hb8 (sp (r_mv rfl) rfl ?_))
    refine nx (gd rfl rfl hb8 (sp (r_i rfl rfl rfl) rfl ?_))
    refine c_p (r_pF rfl hb8 rfl) rfl ?_
    refine t_nil ?_
    refine t_then hK7 ?_
    rcases Bool.eq_false_or_eq_true (decide (z0 > 1048576)) with hb11 | hb11
    · replace h := itT hb11 h
      refine t_T rfl hb11 ?_
      refine t_seq fun K12 hK13 => ?_
      refine t_region ?_
      refine c_p (r_bu (ps := []) (cs := [.int .i64 0, .slice none 0 0, .bool false, .int .i64 0]) rfl (by kernel_rfl)) rfl ?_
      refine nx (t_st u0 ti27 rfl rfl rfl rfl rfl (.t (.s (.s (.s (.s .z))))) ?_)
      refine c_p (r_as rfl) rfl ?_
      refine t_nil ?_
      refine t_then hK13 ?_
      refine t_ret ?_
      refine t_nr 34 k_api_DiskFile ?_
      exact tr (ret2 rfl (v_N rfl a1 Tryd.underlying27 rfl ti27 rfl) (v_t rfl) (t_leave (hQ _ (Option.some.inj h)) (none, 0, 0) rfl (fun w Z hA => V0) (.cons e0 .nil)))
    · replace h := itF hb11 h
      refine t_F rfl hb11 ?_
      refine t_skip ?_
      refine t_then hK5 ?_
      refine t_seq fun K14 hK15 => ?_
      refine t_region ?_
      refine c_p (r_mv rfl) rfl ?_
      refine c_p (r_bu (ps := [(0, .int .i64 z0)]) (cs := [.int .i64 z0, .slice none 0 0, .bool false, .int .i64 0]) rfl (by kernel_rfl)) rfl ?_
      refine nx (t_st u0 ti27 rfl rfl rfl rfl rfl (.t (.s (.s (.s (.s .z))))) ?_)
      refine c_p (r_as rfl) rfl ?_
      refine t_nil ?_
      refine t_then hK15 ?_
      refine t_ret ?_
      refine t_nr 34 k_api_DiskFile ?_
      exact ret2 rfl (v_N rfl a1 Tryd.underlying27 rfl ti27 rfl) (v_t rfl) (t_leave (hQ _ (Option.some.inj h)) (none, 0, 0) rfl (fun w Z hA => V0) (.cons e0 .nil))
end Go.Proofs.YtkjeedijloobgaaDoor.Gx

/- Function 12, (*kaudit/kauditmill.Case).Left: what it answers as a plain function, and that the Go code comes to exactly that (where the plain function gives an answer). -/
set_option linter.unusedVariables false
set_option linter.unusedSimpArgs false
namespace Go.Proofs.YtkjeedijloobgaaDoor.Gx
open Go.Gx Go.RowKit
/-! ### (*kaudit/kauditmill.Case).Left: function 12 -/
def f_kauditmill_Case_Left (z0 : kauditmill_Case) : Option (Bool) := some (decide (z0.at_ < (z0.codes.length : Int)))
set_option maxHeartbeats 4000000 in
set_option maxRecDepth 100000 in
theorem C12 (z0 : kauditmill_Case) (g_ : Nat) (p1 : Option Addr) (m2 : Nat) (c3 : Nat) (r : Bool) (h : f_kauditmill_Case_Left z0 = some r) : FunG Tryd.prog 12 #[.pointer (some ⟨g_, 0, none⟩)] [vw (kSlice 5 (kInt .u8)) z0.codes [.slice p1 m2 c3], g_names] [[blk g_ [.slice p1 m2 c3, .int .i64 z0.at_] 41]] (fun (_ : Unit) => .bool r) (fun _ => []) (fun _ => [[blk g_ [.slice p1 m2 c3, .int .i64 z0.at_] 41]]) := by
  unfold f_kauditmill_Case_Left at h
  refine t_begin (args := [.pointer (some ⟨g_, 0, none⟩)]) Tryd.func12 rfl Tryd.ntmps12 rfl fun c R hR => ?_
  have hQ : ∀ X, X = r → ∀ w2 (_ : Unit), PostG c.w0 w2 c.M c.Y [] [[blk g_ [.slice p1 m2 c3, .int .i64 z0.at_] 41]] → R (.returned (.bool X)) w2 := fun X e => by subst e; exact hR
  refine t_seq fun K4 hK5 => ?_
  refine t_region ?_
  refine c_p (r_as rfl) rfl ?_
  refine t_nil ?_
  refine t_then hK5 ?_
  refine t_seq fun K6 hK7 => ?_
  refine t_quiet mixed (by kernel_rfl) (panic_then panic_body) ?_
  refine k_p (r_mv rfl) rfl ?_
  refine k_p (r_nc rfl) rfl ?_
  refine k_p (r_fa (off' := 1) Tryd.underlying41 rfl ti3 rfl rfl) rfl ?_
  refine k_s (r_ld a0 Tryd.underlying3 rfl rfl rfl) rfl ?_
  refine k_p (r_mv rfl) rfl ?_
  refine k_p (r_nc rfl) rfl ?_
  refine k_p (r_fa (off' := 0) Tryd.underlying41 rfl ti22 rfl rfl) rfl ?_
  refine k_s (r_ld a0 Tryd.underlying22 rfl rfl rfl) rfl ?_
  refine k_s (r_lnA a0 Tryd.underlying22 rfl) rfl ?_
  refine k_p (r_i rfl rfl rfl) rfl ?_
  refine k_p (r_as rfl) rfl ?_
  refine k_z ?_
  refine t_then hK7 ?_
  refine t_ret ?_
  exact ret1 rfl (v_t rfl) (t_leave (hQ _ (Option.some.inj h)) () rfl (fun w Z hA => V0) (.cons e0 .nil))
end Go.Proofs.YtkjeedijloobgaaDoor.Gx

/- Function 5, kaudit/kauditlaw24.made: what it answers as a plain function, and that the Go code comes to exactly that (where the plain function gives an answer). -/
set_option linter.unusedVariables false
set_option linter.unusedSimpArgs false
namespace Go.Proofs.YtkjeedijloobgaaDoor.Gx
open Go.Gx Go.RowKit
/-! ### kaudit/kauditlaw24.made: function 5 -/
def f_kauditlaw24_made_l1 (z0 : kauditmill_Case) : Nat → Int → Int → Int → List api_DiskFile → Bool → Int → Option (api_Disk × Int)
  | 0, _, _, _, _, _, _ => none
  | k310 + 1, x299, x300, x301, x305, x306, x307 => if (decide (x300 > 0)) = true then ((f_kauditmill_Case_Left (⟨z0.codes, x299⟩ : kauditmill_Case)).bind fun y317 => if y317 = true then ((f_kauditmill_Case_Int (⟨z0.codes, x299⟩ : kauditmill_Case) 6).bind fun y326 => (f_kauditmill_Case_Int (⟨z0.codes, y326.2⟩ : kauditmill_Case) 3).bind fun y330 => ck (0 ≤ y330.1 ∧ y330.1 < 6) <| (at_ (t_names : List ByteArray) y330.1).bind fun el333 => (f_kauditmill_Case_Int (⟨z0.codes, y330.2⟩ : kauditmill_Case) 3).bind fun y342 => ck (0 ≤ y342.1 ∧ y342.1 < 6) <| (at_ (t_names : List ByteArray) y342.1).bind fun el345 => (f_kauditmill_Case_Bytes (⟨z0.codes, y342.2⟩ : kauditmill_Case) 30).bind fun y363 => (f_kauditmill_Case_Int (⟨z0.codes, y363.2⟩ : kauditmill_Case) 9).bind fun y384 => (f_kauditlaw24_change (⟨z0.codes, y384.2⟩ : kauditmill_Case) y326.1 (⟨x301, x305, x306, x307⟩ : api_Disk) (⟨0, ([] : List api_DiskFile), false, 0⟩ : api_Disk) el333 el345 y363.1 y384.1).bind fun y401 => if (y401.2.1 == 0) = true then (f_kauditlaw24_made_l1 z0 k310 y401.2.2.2.2 (IntKind.wrap .i64 (x300 - 1)) y401.1.Room y401.1.Files y401.1.Off y401.1.Plan) else (f_kauditlaw24_made_l1 z0 k310 y401.2.2.2.2 (IntKind.wrap .i64 (x300 - 1)) x301 x305 x306 x307)) else (some ((⟨x301, x305, x306, x307⟩ : api_Disk), x299))) else (some ((⟨x301, x305, x306, x307⟩ : api_Disk), x299))
def f_kauditlaw24_made (z0 : kauditmill_Case) (z1 : Int) : Option (api_Disk × Int) := (f_disk_New 2000).bind fun y9 => f_kauditlaw24_made_l1 z0 (((z1 : Int) - (0)).toNat + 1) z0.at_ z1 y9.1.Room y9.1.Files y9.1.Off y9.1.Plan
set_option maxHeartbeats 4000000 in
set_option maxRecDepth 100000 in
theorem C5 (z0 : kauditmill_Case) (z1 : Int) (g_ : Nat) (p1 : Option Addr) (m2 : Nat) (c3 : Nat) (r : api_Disk × Int) (h : f_kauditlaw24_made z0 z1 = some r) : FunG Tryd.prog 5 #[.pointer (some ⟨g_, 0, none⟩), .int .i64 z1] [vw (kSlice 5 (kInt .u8)) z0.codes [.slice p1 m2 c3], g_names] [[blk g_ [.slice p1 m2 c3, .int .i64 z0.at_] 41]] (fun t : (Option Addr × Nat × Nat) => .agg #[.int .i64 r.1.Room, .slice t.1 t.2.1 t.2.2, .bool r.1.Off, .int .i64 r.1.Plan]) (fun t => [vw (kSlice 34 k_api_DiskFile) r.1.Files [.slice t.1 t.2.1 t.2.2]]) (fun t => [[blk g_ [.slice p1 m2 c3, .int .i64 r.2] 41]]) := by
  unfold f_kauditlaw24_made at h
  refine t_begin (args := [.pointer (some ⟨g_, 0, none⟩), .int .i64 z1]) Tryd.func5 rfl Tryd.ntmps5 rfl fun c R hR => ?_
  have hQ : ∀ X, X = r → ∀ w2 (t : (Option Addr × Nat × Nat)), PostG c.w0 w2 c.M c.Y [vw (kSlice 34 k_api_DiskFile) X.1.Files [.slice t.1 t.2.1 t.2.2]] [[blk g_ [.slice p1 m2 c3, .int .i64 X.2] 41]] → R (.returned (.agg #[.int .i64 X.1.Room, .slice t.1 t.2.1 t.2.2, .bool X.1.Off, .int .i64 X.1.Plan])) w2 := fun X e => by subst e; exact hR
  refine t_seq fun K4 hK5 => ?_
  refine t_region ?_
  refine nx (t_al (cs := [.int .i64 0, .slice none 0 0, .bool false, .int .i64 0]) ti27 rfl rfl fun g6 => ?_)
  refine t_nil ?_
  refine t_then hK5 ?_
  refine t_seq fun K7 hK8 => ?_
  refine t_region ?_
  obtain ⟨y9, hy9, h⟩ := bs h
  refine nx (t_ca (C11 _ _ hy9) Tryd.func11 nm11 rfl rfl rfl .nil (fun w Z hA => (V1 a1 hA V0)) rfl fun t10 => ?_)
  refine c_p (r_mv rfl) rfl ?_
  refine c_p (r_ex rfl rfl) rfl ?_
  refine c_p (r_ex rfl rfl) rfl ?_
  refine nx (t_al (cs := [.int .i64 0, .slice none 0 0, .bool false, .int .i64 0]) ti27 rfl rfl fun g11 => ?_)
  refine nx (t_st u0 ti27 rfl rfl rfl rfl rfl (.t (.s (.s (.s (.s .z))))) ?_)
  refine c_p (r_as rfl) rfl ?_
  refine t_nil ?_
  refine t_then hK8 ?_
  refine t_seq fun K12 hK13 => ?_
  refine t_block ?_
  refine t_sh e1 ?_
  refine t_lp fun k297 hk298 => ?_
  have LP308 : ∀ (k310 : Nat) (x299 : Int) (x300 : Int) (x301 : Int) (p302 : Option Addr) (m303 : Nat) (c304 : Nat) (x305 : List api_DiskFile) (x306 : Bool) (x307 : Int), f_kauditlaw24_made_l1 z0 k310 x299 x300 x301 x305 x306 x307 = some r → T 50 c [vw (kSlice 5 (kInt .u8)) z0.codes [.slice p1 m2 c3], vw (kSlice 34 k_api_DiskFile) x305 [.slice p302 m303 c304], g_names] [[blk g_ [.slice p1 m2 c3, .int .i64 x299] 41], [blk g6 [.int .i64 0, .slice none 0 0, .bool false, .int .i64 0] 27], [blk g11 [.int .i64 x301, .slice p302 m303 c304, .bool x306, .int .i64 x307] 27]] [(0, .pointer (some ⟨g_, 0, none⟩)), (1, .int .i64 x300), (4, .pointer (some ⟨g6, 0, none⟩)), (5, .pointer (some ⟨g11, 0, none⟩))] k297 := by
    intro k310
    induction k310 with
    | zero => intro x299 x300 x301 p302 m303 c304 x305 x306 x307 h309; rewrite [f_kauditlaw24_made_l1] at h309; cases h309
    | succ k310 ih311 =>
      intro x299 x300 x301 p302 m303 c304 x305 x306 x307 h309
      rewrite [f_kauditlaw24_made_l1] at h309
      refine ti hk298 ?_
      refine t_seq fun K312 hK313 => ?_
      refine t_seq fun K314 hK315 => ?_
      refine t_region ?_
      refine c_p (r_mv rfl) rfl ?_
      refine c_p (r_i rfl rfl rfl) rfl ?_
      refine c_p (r_mv rfl) rfl ?_
      rcases Bool.eq_false_or_eq_true (decide (x300 > 0)) with hb316 | hb316
      · replace h309 := itT hb316 h309
        refine nx (gd rfl rfl hb316 (sp (r_mv rfl) rfl ?_))
        obtain ⟨y317, hy317, h309⟩ := bs h309
        refine nx (gd rfl rfl hb316 (t_ca (C12 _ _ _ _ _ _ hy317) Tryd.func12 nm12 rfl rfl rfl (.cons e0 .nil) (fun w Z hA => (V1 a0 hA (V1 a2 hA V0))) rfl fun t318 => ?_))
        refine c_p (r_pT rfl hb316 rfl) rfl ?_
        refine t_nil ?_
        refine t_then hK315 ?_
        rcases Bool.eq_false_or_eq_true y317 with hb319 | hb319
        · replace h309 := itT hb319 h309
          refine t_T rfl hb319 ?_
          refine t_skip ?_
          refine t_then hK313 ?_
          refine t_seq fun K320 hK321 => ?_
          refine t_block ?_
          refine t_seq fun K322 hK323 => ?_
          refine t_draw mixed (fun w_ => Bk g11 [.int .i64 x301, .slice p302 m303 c304, .bool x306, .int .i64 x307] w_ ∧ Tb 0 ((t_names : List ByteArray).map Value.string) w_ ∧ True) [3, 8, 12] [2, 6, 10, 14, 16, 17, 23, 24, 25, 27] rfl ?_
          refine t_nameW (fun w_ => Bk g11 [.int .i64 x301, .slice p302 m303 c304, .bool x306, .int .i64 x307] w_ ∧ Tb 0 ((t_names : List ByteArray).map Value.string) w_ ∧ True) [3, 8, 12] [2, 6, 10, 14, 16, 17, 23, 24, 25, 27] fun W324 hW325 => ?_
          have J436 : ∀ (y326 : Int × Int) (hy326 : f_kauditmill_Case_Int (⟨z0.codes, x299⟩ : kauditmill_Case) 6 = some y326) (y330 : Int × Int) (hy330 : f_kauditmill_Case_Int (⟨z0.codes, y326.2⟩ : kauditmill_Case) 3 = some y330) (hc332 : 0 ≤ y330.1 ∧ y330.1 < 6) (el333 : ByteArray) (hel333 : at_ (t_names : List ByteArray) y330.1 = some el333) (y342 : Int × Int) (hy342 : f_kauditmill_Case_Int (⟨z0.codes, y330.2⟩ : kauditmill_Case) 3 = some y342) (hc344 : 0 ≤ y342.1 ∧ y342.1 < 6) (el345 : ByteArray) (hel345 : at_ (t_names : List ByteArray) y342.1 = some el345) (y363 : (List Int) × Int) (hy363 : f_kauditmill_Case_Bytes (⟨z0.codes, y342.2⟩ : kauditmill_Case) 30 = some y363) (y384 : Int × Int) (hy384 : f_kauditmill_Case_Int (⟨z0.codes, y363.2⟩ : kauditmill_Case) 9 = some y384) (y401 : api_Disk × Int × api_Disk × Int × Int) (hy401 : f_kauditlaw24_change (⟨z0.codes, y384.2⟩ : kauditmill_Case) y326.1 (⟨x301, x305, x306, x307⟩ : api_Disk) (⟨0, ([] : List api_DiskFile), false, 0⟩ : api_Disk) el333 el345 y363.1 y384.1 = some y401) (t402 : (Option Addr × Nat × Nat) × (Option Addr × Nat × Nat)) (g416 : Nat) (g430 : Nat), (if (y401.2.1 == 0) = true then (f_kauditlaw24_made_l1 z0 k310 y401.2.2.2.2 (IntKind.wrap .i64 (x300 - 1)) y401.1.Room y401.1.Files y401.1.Off y401.1.Plan) else (f_kauditlaw24_made_l1 z0 k310 y401.2.2.2.2 (IntKind.wrap .i64 (x300 - 1)) x301 x305 x306 x307)) = some r → T 50 c [vw (kSlice 5 (kInt .u8)) z0.codes [.slice p1 m2 c3], vw (kSlice 34 k_api_DiskFile) x305 [.slice p302 m303 c304], g_names] [[blk g430 [.int .i64 0, .slice none 0 0, .bool false, .int .i64 0] 27], [blk g416 [.int .i64 0, .slice none 0 0, .bool false, .int .i64 0] 27], [blk g_ [.slice p1 m2 c3, .int .i64 y401.2.2.2.2] 41], [row 34 (kShare k_api_DiskFile) y401.1.Files (.slice t402.1.1 t402.1.2.1 t402.1.2.2)], [row 34 (kShare k_api_DiskFile) y401.2.2.1.Files (.slice t402.2.1 t402.2.2.1 t402.2.2.2)], [blk g6 [.int .i64 0, .slice none 0 0, .bool false, .int .i64 0] 27], [blk g11 [.int .i64 x301, .slice p302 m303 c304, .bool x306, .int .i64 x307] 27]] [(0, .pointer (some ⟨g_, 0, none⟩)), (1, .int .i64 x300), (4, .pointer (some ⟨g6, 0, none⟩)), (5, .pointer (some ⟨g11, 0, none⟩)), (7, .pointer (some ⟨g416, 0, none⟩)), (9, .pointer (some ⟨g430, 0, none⟩)), (18, .pointer (some ⟨g_, 0, none⟩)), (19, .bool y317), (42, .agg #[.int .i64 y401.1.Room, .slice t402.1.1 t402.1.2.1 t402.1.2.2, .bool y401.1.Off, .int .i64 y401.1.Plan]), (43, .int .i64 y401.2.1), (44, .agg #[.int .i64 y401.2.2.1.Room, .slice t402.2.1 t402.2.2.1 t402.2.2.2, .bool y401.2.2.1.Off, .int .i64 y401.2.2.1.Plan]), (45, .int .i64 y401.2.2.2.1)] (W324 4 #[true, true, true, true, true, true, true, true, true, true, true, true, true, true, true, true, true, true, true, true, true, true, true, true, true, false, false, false, false]) := by
            intro y326 hy326 y330 hy330 hc332 el333 hel333 y342 hy342 hc344 el345 hel345 y363 hy363 y384 hy384 y401 hy401 t402 g416 g430 h309
            refine t_W hW325 ?_
            refine d1 25 rfl (by kernel_rfl) (by kernel_rfl) ?_
            refine t_st u1 ti27 rfl rfl rfl rfl rfl (.t (.s (.s (.s (.s .z))))) ?_
            refine dn (by kernel_rfl) ?_
            refine q_p 26 (panic_then (panic_block (panic_then (panic_then (panic_block (panic_then panic_body)))))) rfl (by kernel_rfl) W0 (r_as rfl) rfl ?_
            refine d1 27 rfl (by kernel_rfl) (by kernel_rfl) ?_
            refine t_st u0 ti27 rfl rfl rfl rfl rfl (.t (.s (.s (.s (.s .z))))) ?_
            refine dn (by kernel_rfl) ?_
            refine q_p 28 (panic_then (panic_block (panic_then (panic_then (panic_block (panic_then panic_body)))))) rfl (by kernel_rfl) W0 (r_as rfl) rfl ?_
            refine dz (by kernel_rfl) ?_
            refine t_then hK323 ?_
            refine t_seq fun K437 hK438 => ?_
            refine t_region ?_
            refine c_p (r_mv rfl) rfl ?_
            refine c_p (r_i rfl rfl rfl) rfl ?_
            refine t_nil ?_
            refine t_then hK438 ?_
            rcases Bool.eq_false_or_eq_true (y401.2.1 == 0) with hb439 | hb439
            · replace h309 := itT hb439 h309
              refine t_T rfl hb439 ?_
              refine t_region ?_
              refine c_s (r_ldA a1 Tryd.underlying27 rfl ti27 rfl rfl) rfl ?_
              refine nx (t_st u6 ti27 rfl rfl rfl rfl rfl (.t (.s (.s (.s (.s .z))))) ?_)
              refine t_nil ?_
              refine t_blockN ?_
              refine t_then hK321 ?_
              refine t_region ?_
              refine c_p (r_mv rfl) rfl ?_
              refine c_p (r_i rfl rfl rfl) rfl ?_
              refine c_p (r_as rfl) rfl ?_
              refine t_nil ?_
              refine t_shS e3 ?_
              exact t_norm (t_go (ih311 y401.2.2.2.2 (IntKind.wrap .i64 (x300 - 1)) y401.1.Room t402.1.1 t402.1.2.1 t402.1.2.2 y401.1.Files y401.1.Off y401.1.Plan h309) ⟨rfl, rfl, rfl, rfl, trivial⟩ (.cons e2 (.cons e3 (.cons e3 .nil))) (fun w Z hA => V1 a1 hA (V1 a0 hA (V1 a3 hA (V0)))))
            · replace h309 := itF hb439 h309
              refine t_F rfl hb439 ?_
              refine t_skip ?_
              refine t_blockN ?_
              refine t_then hK321 ?_
              refine t_region ?_
              refine c_p (r_mv rfl) rfl ?_
              refine c_p (r_i rfl rfl rfl) rfl ?_
              refine c_p (r_as rfl) rfl ?_
              refine t_nil ?_
              exact t_norm (t_go (ih311 y401.2.2.2.2 (IntKind.wrap .i64 (x300 - 1)) x301 p302 m303 c304 x305 x306 x307 h309) ⟨rfl, rfl, rfl, rfl, trivial⟩ (.cons e2 (.cons e4 (.cons e4 .nil))) (fun w Z hA => V1 a0 hA (V1 a1 hA (V1 a2 hA (V0)))))
          have J433 : ∀ (y326 : Int × Int) (hy326 : f_kauditmill_Case_Int (⟨z0.codes, x299⟩ : kauditmill_Case) 6 = some y326) (y330 : Int × Int) (hy330 : f_kauditmill_Case_Int (⟨z0.codes, y326.2⟩ : kauditmill_Case) 3 = some y330) (hc332 : 0 ≤ y330.1 ∧ y330.1 < 6) (el333 : ByteArray) (hel333 : at_ (t_names : List ByteArray) y330.1 = some el333) (y342 : Int × Int) (hy342 : f_kauditmill_Case_Int (⟨z0.codes, y330.2⟩ : kauditmill_Case) 3 = some y342) (hc344 : 0 ≤ y342.1 ∧ y342.1 < 6) (el345 : ByteArray) (hel345 : at_ (t_names : List ByteArray) y342.1 = some el345) (y363 : (List Int) × Int) (hy363 : f_kauditmill_Case_Bytes (⟨z0.codes, y342.2⟩ : kauditmill_Case) 30 = some y363) (t364 : (Option Addr × Nat × Nat)) (y384 : Int × Int) (hy384 : f_kauditmill_Case_Int (⟨z0.codes, y363.2⟩ : kauditmill_Case) 9 = some y384) (g403 : Nat) (g421 : Nat), ((f_kauditlaw24_change (⟨z0.codes, y384.2⟩ : kauditmill_Case) y326.1 (⟨x301, x305, x306, x307⟩ : api_Disk) (⟨0, ([] : List api_DiskFile), false, 0⟩ : api_Disk) el333 el345 y363.1 y384.1).bind fun y401 => if (y401.2.1 == 0) = true then (f_kauditlaw24_made_l1 z0 k310 y401.2.2.2.2 (IntKind.wrap .i64 (x300 - 1)) y401.1.Room y401.1.Files y401.1.Off y401.1.Plan) else (f_kauditlaw24_made_l1 z0 k310 y401.2.2.2.2 (IntKind.wrap .i64 (x300 - 1)) x301 x305 x306 x307)) = some r → T 50 c [vw (kSlice 5 (kInt .u8)) z0.codes [.slice p1 m2 c3], vw (kSlice 34 k_api_DiskFile) x305 [.slice p302 m303 c304], g_names] [[blk g421 [.int .i64 0, .slice none 0 0, .bool false, .int .i64 0] 27], [blk g403 [.int .i64 0, .slice none 0 0, .bool false, .int .i64 0] 27], [blk g_ [.slice p1 m2 c3, .int .i64 y384.2] 41], [row 5 (kInt .u8) y363.1 (.slice t364.1 t364.2.1 t364.2.2)], [blk g6 [.int .i64 0, .slice none 0 0, .bool false, .int .i64 0] 27], [blk g11 [.int .i64 x301, .slice p302 m303 c304, .bool x306, .int .i64 x307] 27]] [(0, .pointer (some ⟨g_, 0, none⟩)), (1, .int .i64 x300), (4, .pointer (some ⟨g6, 0, none⟩)), (5, .pointer (some ⟨g11, 0, none⟩)), (7, .pointer (some ⟨g403, 0, none⟩)), (9, .pointer (some ⟨g421, 0, none⟩)), (18, .pointer (some ⟨g_, 0, none⟩)), (19, .bool y317), (24, .pointer (some ⟨g_, 0, none⟩)), (26, .int .i64 y326.1), (27, .agg #[.int .i64 x301, .slice p302 m303 c304, .bool x306, .int .i64 x307]), (28, .agg #[.int .i64 0, .slice none 0 0, .bool false, .int .i64 0]), (32, .string el333), (36, .string el345), (38, .slice t364.1 t364.2.1 t364.2.2), (40, .int .i64 y384.1)] (W324 10 #[true, true, true, true, true, true, true, true, true, true, true, true, true, true, true, true, true, false, false, false, false, false, false, true, true, false, false, false, false]) := by
            intro y326 hy326 y330 hy330 hc332 el333 hel333 y342 hy342 hc344 el345 hel345 y363 hy363 t364 y384 hy384 g403 g421 h309
            refine t_W hW325 ?_
            refine d1 17 rfl (by kernel_rfl) (by kernel_rfl) ?_
            refine t_sh e3 ?_
            obtain ⟨y434, hy434, h309⟩ := bs h309
            refine t_ca (C6 _ _ _ _ _ _ _ _ _ _ _ _ _ _ _ _ _ _ _ _ _ _ hy434) Tryd.func6 nm6 rfl rfl rfl (.cons e2 .nil) (fun w Z hA => (V1 a1 hA (V1 a2 hA (VN 34 (V1 a0 hA (V1 a3 hA V0)))))) rfl fun t435 => ?_
            refine dn (by kernel_rfl) ?_
            refine q_p 18 (panic_then (panic_block (panic_then (panic_then (panic_block (panic_then panic_body)))))) rfl (by kernel_rfl) W0 (r_mv rfl) rfl ?_
            refine q_p 19 (panic_then (panic_block (panic_then (panic_then (panic_block (panic_then panic_body)))))) rfl (by kernel_rfl) W0 (r_ex rfl rfl) rfl ?_
            refine q_p 20 (panic_then (panic_block (panic_then (panic_then (panic_block (panic_then panic_body)))))) rfl (by kernel_rfl) W0 (r_ex rfl rfl) rfl ?_
            refine q_p 21 (panic_then (panic_block (panic_then (panic_then (panic_block (panic_then panic_body)))))) rfl (by kernel_rfl) W0 (r_ex rfl rfl) rfl ?_
            refine q_p 22 (panic_then (panic_block (panic_then (panic_then (panic_block (panic_then panic_body)))))) rfl (by kernel_rfl) W0 (r_ex rfl rfl) rfl ?_
            exact dW hW325 (by kernel_rfl) (t_go (J436 y326 hy326 y330 hy330 hc332 el333 hel333 y342 hy342 hc344 el345 hel345 y363 hy363 y384 hy384 y434 hy434 t435 g403 g421 h309) ⟨rfl, rfl, rfl, rfl, rfl, rfl, rfl, rfl, rfl, rfl, rfl, rfl, trivial⟩ (.cons e3 (.cons e3 (.cons e0 (.cons e0 (.cons e0 (.cons e0 (.cons e0 .nil))))))) (fun w Z hA => V1 a1 hA (V1 a2 hA (V1 a3 hA (V0)))))
          have J431 : ∀ (y326 : Int × Int) (hy326 : f_kauditmill_Case_Int (⟨z0.codes, x299⟩ : kauditmill_Case) 6 = some y326) (y330 : Int × Int) (hy330 : f_kauditmill_Case_Int (⟨z0.codes, y326.2⟩ : kauditmill_Case) 3 = some y330) (hc332 : 0 ≤ y330.1 ∧ y330.1 < 6) (el333 : ByteArray) (hel333 : at_ (t_names : List ByteArray) y330.1 = some el333) (y342 : Int × Int) (hy342 : f_kauditmill_Case_Int (⟨z0.codes, y330.2⟩ : kauditmill_Case) 3 = some y342) (hc344 : 0 ≤ y342.1 ∧ y342.1 < 6) (el345 : ByteArray) (hel345 : at_ (t_names : List ByteArray) y342.1 = some el345) (y363 : (List Int) × Int) (hy363 : f_kauditmill_Case_Bytes (⟨z0.codes, y342.2⟩ : kauditmill_Case) 30 = some y363) (y384 : Int × Int) (hy384 : f_kauditmill_Case_Int (⟨z0.codes, y363.2⟩ : kauditmill_Case) 9 = some y384) (y401 : api_Disk × Int × api_Disk × Int × Int) (hy401 : f_kauditlaw24_change (⟨z0.codes, y384.2⟩ : kauditmill_Case) y326.1 (⟨x301, x305, x306, x307⟩ : api_Disk) (⟨0, ([] : List api_DiskFile), false, 0⟩ : api_Disk) el333 el345 y363.1 y384.1 = some y401) (t402 : (Option Addr × Nat × Nat) × (Option Addr × Nat × Nat)) (g417 : Nat), (if (y401.2.1 == 0) = true then (f_kauditlaw24_made_l1 z0 k310 y401.2.2.2.2 (IntKind.wrap .i64 (x300 - 1)) y401.1.Room y401.1.Files y401.1.Off y401.1.Plan) else (f_kauditlaw24_made_l1 z0 k310 y401.2.2.2.2 (IntKind.wrap .i64 (x300 - 1)) x301 x305 x306 x307)) = some r → T 50 c [vw (kSlice 5 (kInt .u8)) z0.codes [.slice p1 m2 c3], vw (kSlice 34 k_api_DiskFile) x305 [.slice p302 m303 c304], g_names] [[blk g417 [.int .i64 0, .slice none 0 0, .bool false, .int .i64 0] 27], [blk g_ [.slice p1 m2 c3, .int .i64 y401.2.2.2.2] 41], [row 34 (kShare k_api_DiskFile) y401.1.Files (.slice t402.1.1 t402.1.2.1 t402.1.2.2)], [row 34 (kShare k_api_DiskFile) y401.2.2.1.Files (.slice t402.2.1 t402.2.2.1 t402.2.2.2)], [blk g6 [.int .i64 0, .slice none 0 0, .bool false, .int .i64 0] 27], [blk g11 [.int .i64 x301, .slice p302 m303 c304, .bool x306, .int .i64 x307] 27]] [(0, .pointer (some ⟨g_, 0, none⟩)), (1, .int .i64 x300), (4, .pointer (some ⟨g6, 0, none⟩)), (5, .pointer (some ⟨g11, 0, none⟩)), (9, .pointer (some ⟨g417, 0, none⟩)), (18, .pointer (some ⟨g_, 0, none⟩)), (19, .bool y317), (42, .agg #[.int .i64 y401.1.Room, .slice t402.1.1 t402.1.2.1 t402.1.2.2, .bool y401.1.Off, .int .i64 y401.1.Plan]), (43, .int .i64 y401.2.1), (44, .agg #[.int .i64 y401.2.2.1.Room, .slice t402.2.1 t402.2.2.1 t402.2.2.2, .bool y401.2.2.1.Off, .int .i64 y401.2.2.1.Plan]), (45, .int .i64 y401.2.2.2.1)] (W324 5 #[true, true, true, true, true, true, true, true, true, true, true, true, true, true, true, true, true, true, true, true, true, true, true, false, true, false, false, false, false]) := by
            intro y326 hy326 y330 hy330 hc332 el333 hel333 y342 hy342 hc344 el345 hel345 y363 hy363 y384 hy384 y401 hy401 t402 g417 h309
            refine t_W hW325 ?_
            refine d1 23 rfl (by kernel_rfl) (by kernel_rfl) ?_
            refine t_al (cs := [.int .i64 0, .slice none 0 0, .bool false, .int .i64 0]) ti27 rfl rfl fun g432 => ?_
            refine dk (fun w H => ⟨bk a6 H, tbk a2 H, trivial⟩) ?_
            exact dW hW325 (by kernel_rfl) (t_go (J436 y326 hy326 y330 hy330 hc332 el333 hel333 y342 hy342 hc344 el345 hel345 y363 hy363 y384 hy384 y401 hy401 t402 g432 g417 h309) ⟨rfl, rfl, rfl, rfl, rfl, rfl, rfl, rfl, rfl, rfl, rfl, rfl, trivial⟩ (.cons e1 (.cons e0 (.cons e0 (.cons e0 (.cons e0 (.cons e0 (.cons e0 .nil))))))) (fun w Z hA => V1 a0 hA (V1 a1 hA (V1 a2 hA (V0)))))
          have J429 : ∀ (y326 : Int × Int) (hy326 : f_kauditmill_Case_Int (⟨z0.codes, x299⟩ : kauditmill_Case) 6 = some y326) (y330 : Int × Int) (hy330 : f_kauditmill_Case_Int (⟨z0.codes, y326.2⟩ : kauditmill_Case) 3 = some y330) (hc332 : 0 ≤ y330.1 ∧ y330.1 < 6) (el333 : ByteArray) (hel333 : at_ (t_names : List ByteArray) y330.1 = some el333) (y342 : Int × Int) (hy342 : f_kauditmill_Case_Int (⟨z0.codes, y330.2⟩ : kauditmill_Case) 3 = some y342) (hc344 : 0 ≤ y342.1 ∧ y342.1 < 6) (el345 : ByteArray) (hel345 : at_ (t_names : List ByteArray) y342.1 = some el345) (y363 : (List Int) × Int) (hy363 : f_kauditmill_Case_Bytes (⟨z0.codes, y342.2⟩ : kauditmill_Case) 30 = some y363) (y384 : Int × Int) (hy384 : f_kauditmill_Case_Int (⟨z0.codes, y363.2⟩ : kauditmill_Case) 9 = some y384) (y401 : api_Disk × Int × api_Disk × Int × Int) (hy401 : f_kauditlaw24_change (⟨z0.codes, y384.2⟩ : kauditmill_Case) y326.1 (⟨x301, x305, x306, x307⟩ : api_Disk) (⟨0, ([] : List api_DiskFile), false, 0⟩ : api_Disk) el333 el345 y363.1 y384.1 = some y401) (t402 : (Option Addr × Nat × Nat) × (Option Addr × Nat × Nat)) (g416 : Nat), (if (y401.2.1 == 0) = true then (f_kauditlaw24_made_l1 z0 k310 y401.2.2.2.2 (IntKind.wrap .i64 (x300 - 1)) y401.1.Room y401.1.Files y401.1.Off y401.1.Plan) else (f_kauditlaw24_made_l1 z0 k310 y401.2.2.2.2 (IntKind.wrap .i64 (x300 - 1)) x301 x305 x306 x307)) = some r → T 50 c [vw (kSlice 5 (kInt .u8)) z0.codes [.slice p1 m2 c3], vw (kSlice 34 k_api_DiskFile) x305 [.slice p302 m303 c304], g_names] [[blk g416 [.int .i64 0, .slice none 0 0, .bool false, .int .i64 0] 27], [blk g_ [.slice p1 m2 c3, .int .i64 y401.2.2.2.2] 41], [row 34 (kShare k_api_DiskFile) y401.1.Files (.slice t402.1.1 t402.1.2.1 t402.1.2.2)], [row 34 (kShare k_api_DiskFile) y401.2.2.1.Files (.slice t402.2.1 t402.2.2.1 t402.2.2.2)], [blk g6 [.int .i64 0, .slice none 0 0, .bool false, .int .i64 0] 27], [blk g11 [.int .i64 x301, .slice p302 m303 c304, .bool x306, .int .i64 x307] 27]] [(0, .pointer (some ⟨g_, 0, none⟩)), (1, .int .i64 x300), (4, .pointer (some ⟨g6, 0, none⟩)), (5, .pointer (some ⟨g11, 0, none⟩)), (7, .pointer (some ⟨g416, 0, none⟩)), (18, .pointer (some ⟨g_, 0, none⟩)), (19, .bool y317), (42, .agg #[.int .i64 y401.1.Room, .slice t402.1.1 t402.1.2.1 t402.1.2.2, .bool y401.1.Off, .int .i64 y401.1.Plan]), (43, .int .i64 y401.2.1), (44, .agg #[.int .i64 y401.2.2.1.Room, .slice t402.2.1 t402.2.2.1 t402.2.2.2, .bool y401.2.2.1.Off, .int .i64 y401.2.2.1.Plan]), (45, .int .i64 y401.2.2.2.1)] (W324 5 #[true, true, true, true, true, true, true, true, true, true, true, true, true, true, true, true, true, true, true, true, true, true, true, true, false, false, false, false, false]) := by
            intro y326 hy326 y330 hy330 hc332 el333 hel333 y342 hy342 hc344 el345 hel345 y363 hy363 y384 hy384 y401 hy401 t402 g416 h309
            refine t_W hW325 ?_
            refine d1 24 rfl (by kernel_rfl) (by kernel_rfl) ?_
            refine t_al (cs := [.int .i64 0, .slice none 0 0, .bool false, .int .i64 0]) ti27 rfl rfl fun g430 => ?_
            refine dk (fun w H => ⟨bk a6 H, tbk a2 H, trivial⟩) ?_
            exact dW hW325 (by kernel_rfl) (t_go (J436 y326 hy326 y330 hy330 hc332 el333 hel333 y342 hy342 hc344 el345 hel345 y363 hy363 y384 hy384 y401 hy401 t402 g416 g430 h309) ⟨rfl, rfl, rfl, rfl, rfl, rfl, rfl, rfl, rfl, rfl, rfl, rfl, trivial⟩ (.cons e0 (.cons e0 (.cons e0 (.cons e0 (.cons e0 (.cons e0 (.cons e0 .nil))))))) (fun w Z hA => V1 a0 hA (V1 a1 hA (V1 a2 hA (V0)))))
          have J426 : ∀ (y326 : Int × Int) (hy326 : f_kauditmill_Case_Int (⟨z0.codes, x299⟩ : kauditmill_Case) 6 = some y326) (y330 : Int × Int) (hy330 : f_kauditmill_Case_Int (⟨z0.codes, y326.2⟩ : kauditmill_Case) 3 = some y330) (hc332 : 0 ≤ y330.1 ∧ y330.1 < 6) (el333 : ByteArray) (hel333 : at_ (t_names : List ByteArray) y330.1 = some el333) (y342 : Int × Int) (hy342 : f_kauditmill_Case_Int (⟨z0.codes, y330.2⟩ : kauditmill_Case) 3 = some y342) (hc344 : 0 ≤ y342.1 ∧ y342.1 < 6) (el345 : ByteArray) (hel345 : at_ (t_names : List ByteArray) y342.1 = some el345) (y363 : (List Int) × Int) (hy363 : f_kauditmill_Case_Bytes (⟨z0.codes, y342.2⟩ : kauditmill_Case) 30 = some y363) (t364 : (Option Addr × Nat × Nat)) (g386 : Nat) (g408 : Nat), ((f_kauditmill_Case_Int (⟨z0.codes, y363.2⟩ : kauditmill_Case) 9).bind fun y384 => (f_kauditlaw24_change (⟨z0.codes, y384.2⟩ : kauditmill_Case) y326.1 (⟨x301, x305, x306, x307⟩ : api_Disk) (⟨0, ([] : List api_DiskFile), false, 0⟩ : api_Disk) el333 el345 y363.1 y384.1).bind fun y401 => if (y401.2.1 == 0) = true then (f_kauditlaw24_made_l1 z0 k310 y401.2.2.2.2 (IntKind.wrap .i64 (x300 - 1)) y401.1.Room y401.1.Files y401.1.Off y401.1.Plan) else (f_kauditlaw24_made_l1 z0 k310 y401.2.2.2.2 (IntKind.wrap .i64 (x300 - 1)) x301 x305 x306 x307)) = some r → T 50 c [vw (kSlice 5 (kInt .u8)) z0.codes [.slice p1 m2 c3], vw (kSlice 34 k_api_DiskFile) x305 [.slice p302 m303 c304], g_names] [[blk g408 [.int .i64 0, .slice none 0 0, .bool false, .int .i64 0] 27], [blk g386 [.int .i64 0, .slice none 0 0, .bool false, .int .i64 0] 27], [blk g_ [.slice p1 m2 c3, .int .i64 y363.2] 41], [row 5 (kInt .u8) y363.1 (.slice t364.1 t364.2.1 t364.2.2)], [blk g6 [.int .i64 0, .slice none 0 0, .bool false, .int .i64 0] 27], [blk g11 [.int .i64 x301, .slice p302 m303 c304, .bool x306, .int .i64 x307] 27]] [(0, .pointer (some ⟨g_, 0, none⟩)), (1, .int .i64 x300), (4, .pointer (some ⟨g6, 0, none⟩)), (5, .pointer (some ⟨g11, 0, none⟩)), (7, .pointer (some ⟨g386, 0, none⟩)), (9, .pointer (some ⟨g408, 0, none⟩)), (18, .pointer (some ⟨g_, 0, none⟩)), (19, .bool y317), (24, .pointer (some ⟨g_, 0, none⟩)), (26, .int .i64 y326.1), (27, .agg #[.int .i64 x301, .slice p302 m303 c304, .bool x306, .int .i64 x307]), (28, .agg #[.int .i64 0, .slice none 0 0, .bool false, .int .i64 0]), (32, .string el333), (36, .string el345), (38, .slice t364.1 t364.2.1 t364.2.2), (39, .pointer (some ⟨g_, 0, none⟩))] (W324 11 #[true, true, true, true, true, true, true, true, true, true, true, true, true, true, true, true, false, false, false, false, false, false, false, true, true, false, false, false, false]) := by
            intro y326 hy326 y330 hy330 hc332 el333 hel333 y342 hy342 hc344 el345 hel345 y363 hy363 t364 g386 g408 h309
            refine t_W hW325 ?_
            refine d1 16 rfl (by kernel_rfl) (by kernel_rfl) ?_
            obtain ⟨y427, hy427, h309⟩ := bs h309
            refine t_ca (C13 _ _ _ _ _ _ _ hy427) Tryd.func13 nm13 rfl rfl rfl (.cons e2 .nil) (fun w Z hA => (V1 a0 hA (V1 a2 hA V0))) rfl fun t428 => ?_
            refine dk (fun w H => ⟨bk a5 H, tbk a2 H, trivial⟩) ?_
            exact dW hW325 (by kernel_rfl) (t_go (J433 y326 hy326 y330 hy330 hc332 el333 hel333 y342 hy342 hc344 el345 hel345 y363 hy363 t364 y427 hy427 g386 g408 h309) ⟨rfl, rfl, rfl, rfl, rfl, rfl, rfl, rfl, rfl, rfl, rfl, rfl, rfl, rfl, rfl, rfl, trivial⟩ (.cons e1 (.cons e1 (.cons e0 (.cons e0 (.cons e0 (.cons e0 .nil)))))) (fun w Z hA => V1 a0 hA (V1 a1 hA (V1 a2 hA (V0)))))
          have J422 : ∀ (y326 : Int × Int) (hy326 : f_kauditmill_Case_Int (⟨z0.codes, x299⟩ : kauditmill_Case) 6 = some y326) (y330 : Int × Int) (hy330 : f_kauditmill_Case_Int (⟨z0.codes, y326.2⟩ : kauditmill_Case) 3 = some y330) (hc332 : 0 ≤ y330.1 ∧ y330.1 < 6) (el333 : ByteArray) (hel333 : at_ (t_names : List ByteArray) y330.1 = some el333) (y342 : Int × Int) (hy342 : f_kauditmill_Case_Int (⟨z0.codes, y330.2⟩ : kauditmill_Case) 3 = some y342) (hc344 : 0 ≤ y342.1 ∧ y342.1 < 6) (el345 : ByteArray) (hel345 : at_ (t_names : List ByteArray) y342.1 = some el345) (y363 : (List Int) × Int) (hy363 : f_kauditmill_Case_Bytes (⟨z0.codes, y342.2⟩ : kauditmill_Case) 30 = some y363) (t364 : (Option Addr × Nat × Nat)) (y384 : Int × Int) (hy384 : f_kauditmill_Case_Int (⟨z0.codes, y363.2⟩ : kauditmill_Case) 9 = some y384) (g404 : Nat), ((f_kauditlaw24_change (⟨z0.codes, y384.2⟩ : kauditmill_Case) y326.1 (⟨x301, x305, x306, x307⟩ : api_Disk) (⟨0, ([] : List api_DiskFile), false, 0⟩ : api_Disk) el333 el345 y363.1 y384.1).bind fun y401 => if (y401.2.1 == 0) = true then (f_kauditlaw24_made_l1 z0 k310 y401.2.2.2.2 (IntKind.wrap .i64 (x300 - 1)) y401.1.Room y401.1.Files y401.1.Off y401.1.Plan) else (f_kauditlaw24_made_l1 z0 k310 y401.2.2.2.2 (IntKind.wrap .i64 (x300 - 1)) x301 x305 x306 x307)) = some r → T 50 c [vw (kSlice 5 (kInt .u8)) z0.codes [.slice p1 m2 c3], vw (kSlice 34 k_api_DiskFile) x305 [.slice p302 m303 c304], g_names] [[blk g404 [.int .i64 0, .slice none 0 0, .bool false, .int .i64 0] 27], [blk g_ [.slice p1 m2 c3, .int .i64 y384.2] 41], [row 5 (kInt .u8) y363.1 (.slice t364.1 t364.2.1 t364.2.2)], [blk g6 [.int .i64 0, .slice none 0 0, .bool false, .int .i64 0] 27], [blk g11 [.int .i64 x301, .slice p302 m303 c304, .bool x306, .int .i64 x307] 27]] [(0, .pointer (some ⟨g_, 0, none⟩)), (1, .int .i64 x300), (4, .pointer (some ⟨g6, 0, none⟩)), (5, .pointer (some ⟨g11, 0, none⟩)), (9, .pointer (some ⟨g404, 0, none⟩)), (18, .pointer (some ⟨g_, 0, none⟩)), (19, .bool y317), (24, .pointer (some ⟨g_, 0, none⟩)), (26, .int .i64 y326.1), (27, .agg #[.int .i64 x301, .slice p302 m303 c304, .bool x306, .int .i64 x307]), (28, .agg #[.int .i64 0, .slice none 0 0, .bool false, .int .i64 0]), (32, .string el333), (36, .string el345), (38, .slice t364.1 t364.2.1 t364.2.2), (40, .int .i64 y384.1)] (W324 11 #[true, true, true, true, true, true, true, true, true, true, true, true, true, true, true, true, true, false, false, false, false, false, false, false, true, false, false, false, false]) := by
            intro y326 hy326 y330 hy330 hc332 el333 hel333 y342 hy342 hc344 el345 hel345 y363 hy363 t364 y384 hy384 g404 h309
            refine t_W hW325 ?_
            refine dm 17 [23] (by kernel_rfl) (dmc 17 rfl (by kernel_rfl) ?_ (dmc 23 rfl (by kernel_rfl) ?_ dmz))
            · refine t_sh e2 ?_
              obtain ⟨y423, hy423, h309⟩ := bs h309
              refine t_ca (C6 _ _ _ _ _ _ _ _ _ _ _ _ _ _ _ _ _ _ _ _ _ _ hy423) Tryd.func6 nm6 rfl rfl rfl (.cons e1 .nil) (fun w Z hA => (V1 a1 hA (V1 a2 hA (VN 34 (V1 a0 hA (V1 a3 hA V0)))))) rfl fun t424 => ?_
              refine dn (by kernel_rfl) ?_
              refine q_p 18 (panic_then (panic_block (panic_then (panic_then (panic_block (panic_then panic_body)))))) rfl (by kernel_rfl) W0 (r_mv rfl) rfl ?_
              refine q_p 19 (panic_then (panic_block (panic_then (panic_then (panic_block (panic_then panic_body)))))) rfl (by kernel_rfl) W0 (r_ex rfl rfl) rfl ?_
              refine q_p 20 (panic_then (panic_block (panic_then (panic_then (panic_block (panic_then panic_body)))))) rfl (by kernel_rfl) W0 (r_ex rfl rfl) rfl ?_
              refine q_p 21 (panic_then (panic_block (panic_then (panic_then (panic_block (panic_then panic_body)))))) rfl (by kernel_rfl) W0 (r_ex rfl rfl) rfl ?_
              refine q_p 22 (panic_then (panic_block (panic_then (panic_then (panic_block (panic_then panic_body)))))) rfl (by kernel_rfl) W0 (r_ex rfl rfl) rfl ?_
              exact dW hW325 (by kernel_rfl) (t_go (J431 y326 hy326 y330 hy330 hc332 el333 hel333 y342 hy342 hc344 el345 hel345 y363 hy363 y384 hy384 y423 hy423 t424 g404 h309) ⟨rfl, rfl, rfl, rfl, rfl, rfl, rfl, rfl, rfl, rfl, rfl, trivial⟩ (.cons e3 (.cons e0 (.cons e0 (.cons e0 (.cons e0 (.cons e0 .nil)))))) (fun w Z hA => V1 a1 hA (V1 a2 hA (V1 a3 hA (V0)))))
            · refine t_al (cs := [.int .i64 0, .slice none 0 0, .bool false, .int .i64 0]) ti27 rfl rfl fun g425 => ?_
              refine dk (fun w H => ⟨bk a5 H, tbk a2 H, trivial⟩) ?_
              exact dW hW325 (by kernel_rfl) (t_go (J433 y326 hy326 y330 hy330 hc332 el333 hel333 y342 hy342 hc344 el345 hel345 y363 hy363 t364 y384 hy384 g425 g404 h309) ⟨rfl, rfl, rfl, rfl, rfl, rfl, rfl, rfl, rfl, rfl, rfl, rfl, rfl, rfl, rfl, rfl, trivial⟩ (.cons e1 (.cons e0 (.cons e0 (.cons e0 (.cons e0 (.cons e0 .nil)))))) (fun w Z hA => V1 a0 hA (V1 a1 hA (V1 a2 hA (V0)))))
          have J418 : ∀ (y326 : Int × Int) (hy326 : f_kauditmill_Case_Int (⟨z0.codes, x299⟩ : kauditmill_Case) 6 = some y326) (y330 : Int × Int) (hy330 : f_kauditmill_Case_Int (⟨z0.codes, y326.2⟩ : kauditmill_Case) 3 = some y330) (hc332 : 0 ≤ y330.1 ∧ y330.1 < 6) (el333 : ByteArray) (hel333 : at_ (t_names : List ByteArray) y330.1 = some el333) (y342 : Int × Int) (hy342 : f_kauditmill_Case_Int (⟨z0.codes, y330.2⟩ : kauditmill_Case) 3 = some y342) (hc344 : 0 ≤ y342.1 ∧ y342.1 < 6) (el345 : ByteArray) (hel345 : at_ (t_names : List ByteArray) y342.1 = some el345) (y363 : (List Int) × Int) (hy363 : f_kauditmill_Case_Bytes (⟨z0.codes, y342.2⟩ : kauditmill_Case) 30 = some y363) (t364 : (Option Addr × Nat × Nat)) (y384 : Int × Int) (hy384 : f_kauditmill_Case_Int (⟨z0.codes, y363.2⟩ : kauditmill_Case) 9 = some y384) (g403 : Nat), ((f_kauditlaw24_change (⟨z0.codes, y384.2⟩ : kauditmill_Case) y326.1 (⟨x301, x305, x306, x307⟩ : api_Disk) (⟨0, ([] : List api_DiskFile), false, 0⟩ : api_Disk) el333 el345 y363.1 y384.1).bind fun y401 => if (y401.2.1 == 0) = true then (f_kauditlaw24_made_l1 z0 k310 y401.2.2.2.2 (IntKind.wrap .i64 (x300 - 1)) y401.1.Room y401.1.Files y401.1.Off y401.1.Plan) else (f_kauditlaw24_made_l1 z0 k310 y401.2.2.2.2 (IntKind.wrap .i64 (x300 - 1)) x301 x305 x306 x307)) = some r → T 50 c [vw (kSlice 5 (kInt .u8)) z0.codes [.slice p1 m2 c3], vw (kSlice 34 k_api_DiskFile) x305 [.slice p302 m303 c304], g_names] [[blk g403 [.int .i64 0, .slice none 0 0, .bool false, .int .i64 0] 27], [blk g_ [.slice p1 m2 c3, .int .i64 y384.2] 41], [row 5 (kInt .u8) y363.1 (.slice t364.1 t364.2.1 t364.2.2)], [blk g6 [.int .i64 0, .slice none 0 0, .bool false, .int .i64 0] 27], [blk g11 [.int .i64 x301, .slice p302 m303 c304, .bool x306, .int .i64 x307] 27]] [(0, .pointer (some ⟨g_, 0, none⟩)), (1, .int .i64 x300), (4, .pointer (some ⟨g6, 0, none⟩)), (5, .pointer (some ⟨g11, 0, none⟩)), (7, .pointer (some ⟨g403, 0, none⟩)), (18, .pointer (some ⟨g_, 0, none⟩)), (19, .bool y317), (24, .pointer (some ⟨g_, 0, none⟩)), (26, .int .i64 y326.1), (27, .agg #[.int .i64 x301, .slice p302 m303 c304, .bool x306, .int .i64 x307]), (28, .agg #[.int .i64 0, .slice none 0 0, .bool false, .int .i64 0]), (32, .string el333), (36, .string el345), (38, .slice t364.1 t364.2.1 t364.2.2), (40, .int .i64 y384.1)] (W324 11 #[true, true, true, true, true, true, true, true, true, true, true, true, true, true, true, true, true, false, false, false, false, false, false, true, false, false, false, false, false]) := by
            intro y326 hy326 y330 hy330 hc332 el333 hel333 y342 hy342 hc344 el345 hel345 y363 hy363 t364 y384 hy384 g403 h309
            refine t_W hW325 ?_
            refine dm 17 [24] (by kernel_rfl) (dmc 17 rfl (by kernel_rfl) ?_ (dmc 24 rfl (by kernel_rfl) ?_ dmz))
            · refine t_sh e2 ?_
              obtain ⟨y419, hy419, h309⟩ := bs h309
              refine t_ca (C6 _ _ _ _ _ _ _ _ _ _ _ _ _ _ _ _ _ _ _ _ _ _ hy419) Tryd.func6 nm6 rfl rfl rfl (.cons e1 .nil) (fun w Z hA => (V1 a1 hA (V1 a2 hA (VN 34 (V1 a0 hA (V1 a3 hA V0)))))) rfl fun t420 => ?_
              refine dn (by kernel_rfl) ?_
              refine q_p 18 (panic_then (panic_block (panic_then (panic_then (panic_block (panic_then panic_body)))))) rfl (by kernel_rfl) W0 (r_mv rfl) rfl ?_
              refine q_p 19 (panic_then (panic_block (panic_then (panic_then (panic_block (panic_then panic_body)))))) rfl (by kernel_rfl) W0 (r_ex rfl rfl) rfl ?_
              refine q_p 20 (panic_then (panic_block (panic_then (panic_then (panic_block (panic_then panic_body)))))) rfl (by kernel_rfl) W0 (r_ex rfl rfl) rfl ?_
              refine q_p 21 (panic_then (panic_block (panic_then (panic_then (panic_block (panic_then panic_body)))))) rfl (by kernel_rfl) W0 (r_ex rfl rfl) rfl ?_
              refine q_p 22 (panic_then (panic_block (panic_then (panic_then (panic_block (panic_then panic_body)))))) rfl (by kernel_rfl) W0 (r_ex rfl rfl) rfl ?_
              exact dW hW325 (by kernel_rfl) (t_go (J429 y326 hy326 y330 hy330 hc332 el333 hel333 y342 hy342 hc344 el345 hel345 y363 hy363 y384 hy384 y419 hy419 t420 g403 h309) ⟨rfl, rfl, rfl, rfl, rfl, rfl, rfl, rfl, rfl, rfl, rfl, trivial⟩ (.cons e3 (.cons e0 (.cons e0 (.cons e0 (.cons e0 (.cons e0 .nil)))))) (fun w Z hA => V1 a1 hA (V1 a2 hA (V1 a3 hA (V0)))))
            · refine t_al (cs := [.int .i64 0, .slice none 0 0, .bool false, .int .i64 0]) ti27 rfl rfl fun g421 => ?_
              refine dk (fun w H => ⟨bk a5 H, tbk a2 H, trivial⟩) ?_
              exact dW hW325 (by kernel_rfl) (t_go (J433 y326 hy326 y330 hy330 hc332 el333 hel333 y342 hy342 hc344 el345 hel345 y363 hy363 t364 y384 hy384 g403 g421 h309) ⟨rfl, rfl, rfl, rfl, rfl, rfl, rfl, rfl, rfl, rfl, rfl, rfl, rfl, rfl, rfl, rfl, trivial⟩ (.cons e0 (.cons e0 (.cons e0 (.cons e0 (.cons e0 (.cons e0 .nil)))))) (fun w Z hA => V1 a0 hA (V1 a1 hA (V1 a2 hA (V0)))))
          have J413 : ∀ (y326 : Int × Int) (hy326 : f_kauditmill_Case_Int (⟨z0.codes, x299⟩ : kauditmill_Case) 6 = some y326) (y330 : Int × Int) (hy330 : f_kauditmill_Case_Int (⟨z0.codes, y326.2⟩ : kauditmill_Case) 3 = some y330) (hc332 : 0 ≤ y330.1 ∧ y330.1 < 6) (el333 : ByteArray) (hel333 : at_ (t_names : List ByteArray) y330.1 = some el333) (y342 : Int × Int) (hy342 : f_kauditmill_Case_Int (⟨z0.codes, y330.2⟩ : kauditmill_Case) 3 = some y342) (hc344 : 0 ≤ y342.1 ∧ y342.1 < 6) (el345 : ByteArray) (hel345 : at_ (t_names : List ByteArray) y342.1 = some el345) (g365 : Nat) (g391 : Nat), ((f_kauditmill_Case_Bytes (⟨z0.codes, y342.2⟩ : kauditmill_Case) 30).bind fun y363 => (f_kauditmill_Case_Int (⟨z0.codes, y363.2⟩ : kauditmill_Case) 9).bind fun y384 => (f_kauditlaw24_change (⟨z0.codes, y384.2⟩ : kauditmill_Case) y326.1 (⟨x301, x305, x306, x307⟩ : api_Disk) (⟨0, ([] : List api_DiskFile), false, 0⟩ : api_Disk) el333 el345 y363.1 y384.1).bind fun y401 => if (y401.2.1 == 0) = true then (f_kauditlaw24_made_l1 z0 k310 y401.2.2.2.2 (IntKind.wrap .i64 (x300 - 1)) y401.1.Room y401.1.Files y401.1.Off y401.1.Plan) else (f_kauditlaw24_made_l1 z0 k310 y401.2.2.2.2 (IntKind.wrap .i64 (x300 - 1)) x301 x305 x306 x307)) = some r → T 50 c [vw (kSlice 5 (kInt .u8)) z0.codes [.slice p1 m2 c3], vw (kSlice 34 k_api_DiskFile) x305 [.slice p302 m303 c304], g_names] [[blk g391 [.int .i64 0, .slice none 0 0, .bool false, .int .i64 0] 27], [blk g365 [.int .i64 0, .slice none 0 0, .bool false, .int .i64 0] 27], [blk g_ [.slice p1 m2 c3, .int .i64 y342.2] 41], [blk g6 [.int .i64 0, .slice none 0 0, .bool false, .int .i64 0] 27], [blk g11 [.int .i64 x301, .slice p302 m303 c304, .bool x306, .int .i64 x307] 27]] [(0, .pointer (some ⟨g_, 0, none⟩)), (1, .int .i64 x300), (4, .pointer (some ⟨g6, 0, none⟩)), (5, .pointer (some ⟨g11, 0, none⟩)), (7, .pointer (some ⟨g365, 0, none⟩)), (9, .pointer (some ⟨g391, 0, none⟩)), (18, .pointer (some ⟨g_, 0, none⟩)), (19, .bool y317), (24, .pointer (some ⟨g_, 0, none⟩)), (26, .int .i64 y326.1), (27, .agg #[.int .i64 x301, .slice p302 m303 c304, .bool x306, .int .i64 x307]), (28, .agg #[.int .i64 0, .slice none 0 0, .bool false, .int .i64 0]), (32, .string el333), (36, .string el345), (37, .pointer (some ⟨g_, 0, none⟩)), (39, .pointer (some ⟨g_, 0, none⟩))] (W324 12 #[true, true, true, true, true, true, true, true, true, true, true, true, true, true, false, true, false, false, false, false, false, false, false, true, true, false, false, false, false]) := by
            intro y326 hy326 y330 hy330 hc332 el333 hel333 y342 hy342 hc344 el345 hel345 g365 g391 h309
            refine t_W hW325 ?_
            refine d1 14 rfl (by kernel_rfl) (by kernel_rfl) ?_
            obtain ⟨y414, hy414, h309⟩ := bs h309
            refine t_ca (C14 _ _ _ _ _ _ _ hy414) Tryd.func14 nm14 rfl rfl rfl (.cons e2 .nil) (fun w Z hA => (V1 a0 hA (V1 a2 hA V0))) rfl fun t415 => ?_
            refine dk (fun w H => ⟨bk a5 H, tbk a2 H, trivial⟩) ?_
            exact dW hW325 (by kernel_rfl) (t_go (J426 y326 hy326 y330 hy330 hc332 el333 hel333 y342 hy342 hc344 el345 hel345 y414 hy414 t415 g365 g391 h309) ⟨rfl, rfl, rfl, rfl, rfl, rfl, rfl, rfl, rfl, rfl, rfl, rfl, rfl, rfl, rfl, rfl, trivial⟩ (.cons e2 (.cons e2 (.cons e0 (.cons e0 (.cons e0 (.cons e0 .nil)))))) (fun w Z hA => V1 a0 hA (V1 a1 hA (V1 a2 hA (V0)))))
          have J409 : ∀ (y326 : Int × Int) (hy326 : f_kauditmill_Case_Int (⟨z0.codes, x299⟩ : kauditmill_Case) 6 = some y326) (y330 : Int × Int) (hy330 : f_kauditmill_Case_Int (⟨z0.codes, y326.2⟩ : kauditmill_Case) 3 = some y330) (hc332 : 0 ≤ y330.1 ∧ y330.1 < 6) (el333 : ByteArray) (hel333 : at_ (t_names : List ByteArray) y330.1 = some el333) (y342 : Int × Int) (hy342 : f_kauditmill_Case_Int (⟨z0.codes, y330.2⟩ : kauditmill_Case) 3 = some y342) (hc344 : 0 ≤ y342.1 ∧ y342.1 < 6) (el345 : ByteArray) (hel345 : at_ (t_names : List ByteArray) y342.1 = some el345) (y363 : (List Int) × Int) (hy363 : f_kauditmill_Case_Bytes (⟨z0.codes, y342.2⟩ : kauditmill_Case) 30 = some y363) (t364 : (Option Addr × Nat × Nat)) (g387 : Nat), ((f_kauditmill_Case_Int (⟨z0.codes, y363.2⟩ : kauditmill_Case) 9).bind fun y384 => (f_kauditlaw24_change (⟨z0.codes, y384.2⟩ : kauditmill_Case) y326.1 (⟨x301, x305, x306, x307⟩ : api_Disk) (⟨0, ([] : List api_DiskFile), false, 0⟩ : api_Disk) el333 el345 y363.1 y384.1).bind fun y401 => if (y401.2.1 == 0) = true then (f_kauditlaw24_made_l1 z0 k310 y401.2.2.2.2 (IntKind.wrap .i64 (x300 - 1)) y401.1.Room y401.1.Files y401.1.Off y401.1.Plan) else (f_kauditlaw24_made_l1 z0 k310 y401.2.2.2.2 (IntKind.wrap .i64 (x300 - 1)) x301 x305 x306 x307)) = some r → T 50 c [vw (kSlice 5 (kInt .u8)) z0.codes [.slice p1 m2 c3], vw (kSlice 34 k_api_DiskFile) x305 [.slice p302 m303 c304], g_names] [[blk g387 [.int .i64 0, .slice none 0 0, .bool false, .int .i64 0] 27], [blk g_ [.slice p1 m2 c3, .int .i64 y363.2] 41], [row 5 (kInt .u8) y363.1 (.slice t364.1 t364.2.1 t364.2.2)], [blk g6 [.int .i64 0, .slice none 0 0, .bool false, .int .i64 0] 27], [blk g11 [.int .i64 x301, .slice p302 m303 c304, .bool x306, .int .i64 x307] 27]] [(0, .pointer (some ⟨g_, 0, none⟩)), (1, .int .i64 x300), (4, .pointer (some ⟨g6, 0, none⟩)), (5, .pointer (some ⟨g11, 0, none⟩)), (9, .pointer (some ⟨g387, 0, none⟩)), (18, .pointer (some ⟨g_, 0, none⟩)), (19, .bool y317), (24, .pointer (some ⟨g_, 0, none⟩)), (26, .int .i64 y326.1), (27, .agg #[.int .i64 x301, .slice p302 m303 c304, .bool x306, .int .i64 x307]), (28, .agg #[.int .i64 0, .slice none 0 0, .bool false, .int .i64 0]), (32, .string el333), (36, .string el345), (38, .slice t364.1 t364.2.1 t364.2.2), (39, .pointer (some ⟨g_, 0, none⟩))] (W324 12 #[true, true, true, true, true, true, true, true, true, true, true, true, true, true, true, true, false, false, false, false, false, false, false, false, true, false, false, false, false]) := by
            intro y326 hy326 y330 hy330 hc332 el333 hel333 y342 hy342 hc344 el345 hel345 y363 hy363 t364 g387 h309
            refine t_W hW325 ?_
            refine dm 16 [23] (by kernel_rfl) (dmc 16 rfl (by kernel_rfl) ?_ (dmc 23 rfl (by kernel_rfl) ?_ dmz))
            · obtain ⟨y410, hy410, h309⟩ := bs h309
              refine t_ca (C13 _ _ _ _ _ _ _ hy410) Tryd.func13 nm13 rfl rfl rfl (.cons e1 .nil) (fun w Z hA => (V1 a0 hA (V1 a2 hA V0))) rfl fun t411 => ?_
              refine dk (fun w H => ⟨bk a4 H, tbk a2 H, trivial⟩) ?_
              exact dW hW325 (by kernel_rfl) (t_go (J422 y326 hy326 y330 hy330 hc332 el333 hel333 y342 hy342 hc344 el345 hel345 y363 hy363 t364 y410 hy410 g387 h309) ⟨rfl, rfl, rfl, rfl, rfl, rfl, rfl, rfl, rfl, rfl, rfl, rfl, rfl, rfl, rfl, trivial⟩ (.cons e1 (.cons e0 (.cons e0 (.cons e0 (.cons e0 .nil))))) (fun w Z hA => V1 a0 hA (V1 a1 hA (V1 a2 hA (V0)))))
            · refine t_al (cs := [.int .i64 0, .slice none 0 0, .bool false, .int .i64 0]) ti27 rfl rfl fun g412 => ?_
              refine dk (fun w H => ⟨bk a5 H, tbk a2 H, trivial⟩) ?_
              exact dW hW325 (by kernel_rfl) (t_go (J426 y326 hy326 y330 hy330 hc332 el333 hel333 y342 hy342 hc344 el345 hel345 y363 hy363 t364 g412 g387 h309) ⟨rfl, rfl, rfl, rfl, rfl, rfl, rfl, rfl, rfl, rfl, rfl, rfl, rfl, rfl, rfl, rfl, trivial⟩ (.cons e1 (.cons e0 (.cons e0 (.cons e0 (.cons e0 (.cons e0 .nil)))))) (fun w Z hA => V1 a0 hA (V1 a1 hA (V1 a2 hA (V0)))))
          have J405 : ∀ (y326 : Int × Int) (hy326 : f_kauditmill_Case_Int (⟨z0.codes, x299⟩ : kauditmill_Case) 6 = some y326) (y330 : Int × Int) (hy330 : f_kauditmill_Case_Int (⟨z0.codes, y326.2⟩ : kauditmill_Case) 3 = some y330) (hc332 : 0 ≤ y330.1 ∧ y330.1 < 6) (el333 : ByteArray) (hel333 : at_ (t_names : List ByteArray) y330.1 = some el333) (y342 : Int × Int) (hy342 : f_kauditmill_Case_Int (⟨z0.codes, y330.2⟩ : kauditmill_Case) 3 = some y342) (hc344 : 0 ≤ y342.1 ∧ y342.1 < 6) (el345 : ByteArray) (hel345 : at_ (t_names : List ByteArray) y342.1 = some el345) (y363 : (List Int) × Int) (hy363 : f_kauditmill_Case_Bytes (⟨z0.codes, y342.2⟩ : kauditmill_Case) 30 = some y363) (t364 : (Option Addr × Nat × Nat)) (g386 : Nat), ((f_kauditmill_Case_Int (⟨z0.codes, y363.2⟩ : kauditmill_Case) 9).bind fun y384 => (f_kauditlaw24_change (⟨z0.codes, y384.2⟩ : kauditmill_Case) y326.1 (⟨x301, x305, x306, x307⟩ : api_Disk) (⟨0, ([] : List api_DiskFile), false, 0⟩ : api_Disk) el333 el345 y363.1 y384.1).bind fun y401 => if (y401.2.1 == 0) = true then (f_kauditlaw24_made_l1 z0 k310 y401.2.2.2.2 (IntKind.wrap .i64 (x300 - 1)) y401.1.Room y401.1.Files y401.1.Off y401.1.Plan) else (f_kauditlaw24_made_l1 z0 k310 y401.2.2.2.2 (IntKind.wrap .i64 (x300 - 1)) x301 x305 x306 x307)) = some r → T 50 c [vw (kSlice 5 (kInt .u8)) z0.codes [.slice p1 m2 c3], vw (kSlice 34 k_api_DiskFile) x305 [.slice p302 m303 c304], g_names] [[blk g386 [.int .i64 0, .slice none 0 0, .bool false, .int .i64 0] 27], [blk g_ [.slice p1 m2 c3, .int .i64 y363.2] 41], [row 5 (kInt .u8) y363.1 (.slice t364.1 t364.2.1 t364.2.2)], [blk g6 [.int .i64 0, .slice none 0 0, .bool false, .int .i64 0] 27], [blk g11 [.int .i64 x301, .slice p302 m303 c304, .bool x306, .int .i64 x307] 27]] [(0, .pointer (some ⟨g_, 0, none⟩)), (1, .int .i64 x300), (4, .pointer (some ⟨g6, 0, none⟩)), (5, .pointer (some ⟨g11, 0, none⟩)), (7, .pointer (some ⟨g386, 0, none⟩)), (18, .pointer (some ⟨g_, 0, none⟩)), (19, .bool y317), (24, .pointer (some ⟨g_, 0, none⟩)), (26, .int .i64 y326.1), (27, .agg #[.int .i64 x301, .slice p302 m303 c304, .bool x306, .int .i64 x307]), (28, .agg #[.int .i64 0, .slice none 0 0, .bool false, .int .i64 0]), (32, .string el333), (36, .string el345), (38, .slice t364.1 t364.2.1 t364.2.2), (39, .pointer (some ⟨g_, 0, none⟩))] (W324 12 #[true, true, true, true, true, true, true, true, true, true, true, true, true, true, true, true, false, false, false, false, false, false, false, true, false, false, false, false, false]) := by
            intro y326 hy326 y330 hy330 hc332 el333 hel333 y342 hy342 hc344 el345 hel345 y363 hy363 t364 g386 h309
            refine t_W hW325 ?_
            refine dm 16 [24] (by kernel_rfl) (dmc 16 rfl (by kernel_rfl) ?_ (dmc 24 rfl (by kernel_rfl) ?_ dmz))
            · obtain ⟨y406, hy406, h309⟩ := bs h309
              refine t_ca (C13 _ _ _ _ _ _ _ hy406) Tryd.func13 nm13 rfl rfl rfl (.cons e1 .nil) (fun w Z hA => (V1 a0 hA (V1 a2 hA V0))) rfl fun t407 => ?_
              refine dk (fun w H => ⟨bk a4 H, tbk a2 H, trivial⟩) ?_
              exact dW hW325 (by kernel_rfl) (t_go (J418 y326 hy326 y330 hy330 hc332 el333 hel333 y342 hy342 hc344 el345 hel345 y363 hy363 t364 y406 hy406 g386 h309) ⟨rfl, rfl, rfl, rfl, rfl, rfl, rfl, rfl, rfl, rfl, rfl, rfl, rfl, rfl, rfl, trivial⟩ (.cons e1 (.cons e0 (.cons e0 (.cons e0 (.cons e0 .nil))))) (fun w Z hA => V1 a0 hA (V1 a1 hA (V1 a2 hA (V0)))))
            · refine t_al (cs := [.int .i64 0, .slice none 0 0, .bool false, .int .i64 0]) ti27 rfl rfl fun g408 => ?_
              refine dk (fun w H => ⟨bk a5 H, tbk a2 H, trivial⟩) ?_
              exact dW hW325 (by kernel_rfl) (t_go (J426 y326 hy326 y330 hy330 hc332 el333 hel333 y342 hy342 hc344 el345 hel345 y363 hy363 t364 g386 g408 h309) ⟨rfl, rfl, rfl, rfl, rfl, rfl, rfl, rfl, rfl, rfl, rfl, rfl, rfl, rfl, rfl, rfl, trivial⟩ (.cons e0 (.cons e0 (.cons e0 (.cons e0 (.cons e0 (.cons e0 .nil)))))) (fun w Z hA => V1 a0 hA (V1 a1 hA (V1 a2 hA (V0)))))
          have J396 : ∀ (y326 : Int × Int) (hy326 : f_kauditmill_Case_Int (⟨z0.codes, x299⟩ : kauditmill_Case) 6 = some y326) (y330 : Int × Int) (hy330 : f_kauditmill_Case_Int (⟨z0.codes, y326.2⟩ : kauditmill_Case) 3 = some y330) (hc332 : 0 ≤ y330.1 ∧ y330.1 < 6) (el333 : ByteArray) (hel333 : at_ (t_names : List ByteArray) y330.1 = some el333) (g346 : Nat) (g372 : Nat), ((f_kauditmill_Case_Int (⟨z0.codes, y330.2⟩ : kauditmill_Case) 3).bind fun y342 => ck (0 ≤ y342.1 ∧ y342.1 < 6) <| (at_ (t_names : List ByteArray) y342.1).bind fun el345 => (f_kauditmill_Case_Bytes (⟨z0.codes, y342.2⟩ : kauditmill_Case) 30).bind fun y363 => (f_kauditmill_Case_Int (⟨z0.codes, y363.2⟩ : kauditmill_Case) 9).bind fun y384 => (f_kauditlaw24_change (⟨z0.codes, y384.2⟩ : kauditmill_Case) y326.1 (⟨x301, x305, x306, x307⟩ : api_Disk) (⟨0, ([] : List api_DiskFile), false, 0⟩ : api_Disk) el333 el345 y363.1 y384.1).bind fun y401 => if (y401.2.1 == 0) = true then (f_kauditlaw24_made_l1 z0 k310 y401.2.2.2.2 (IntKind.wrap .i64 (x300 - 1)) y401.1.Room y401.1.Files y401.1.Off y401.1.Plan) else (f_kauditlaw24_made_l1 z0 k310 y401.2.2.2.2 (IntKind.wrap .i64 (x300 - 1)) x301 x305 x306 x307)) = some r → T 50 c [vw (kSlice 5 (kInt .u8)) z0.codes [.slice p1 m2 c3], vw (kSlice 34 k_api_DiskFile) x305 [.slice p302 m303 c304], g_names] [[blk g372 [.int .i64 0, .slice none 0 0, .bool false, .int .i64 0] 27], [blk g346 [.int .i64 0, .slice none 0 0, .bool false, .int .i64 0] 27], [blk g_ [.slice p1 m2 c3, .int .i64 y330.2] 41], [blk g6 [.int .i64 0, .slice none 0 0, .bool false, .int .i64 0] 27], [blk g11 [.int .i64 x301, .slice p302 m303 c304, .bool x306, .int .i64 x307] 27]] [(0, .pointer (some ⟨g_, 0, none⟩)), (1, .int .i64 x300), (4, .pointer (some ⟨g6, 0, none⟩)), (5, .pointer (some ⟨g11, 0, none⟩)), (7, .pointer (some ⟨g346, 0, none⟩)), (9, .pointer (some ⟨g372, 0, none⟩)), (18, .pointer (some ⟨g_, 0, none⟩)), (19, .bool y317), (24, .pointer (some ⟨g_, 0, none⟩)), (26, .int .i64 y326.1), (27, .agg #[.int .i64 x301, .slice p302 m303 c304, .bool x306, .int .i64 x307]), (28, .agg #[.int .i64 0, .slice none 0 0, .bool false, .int .i64 0]), (32, .string el333), (33, .pointer (some ⟨g_, 0, none⟩)), (37, .pointer (some ⟨g_, 0, none⟩)), (39, .pointer (some ⟨g_, 0, none⟩))] (W324 15 #[true, true, true, true, true, true, true, true, true, true, false, false, false, true, false, true, false, false, false, false, false, false, false, true, true, false, false, false, false]) := by
            intro y326 hy326 y330 hy330 hc332 el333 hel333 g346 g372 h309
            refine t_W hW325 ?_
            refine d1 10 rfl (by kernel_rfl) (by kernel_rfl) ?_
            obtain ⟨y397, hy397, h309⟩ := bs h309
            refine t_ca (C13 _ _ _ _ _ _ _ hy397) Tryd.func13 nm13 rfl rfl rfl (.cons e2 .nil) (fun w Z hA => (V1 a0 hA (V1 a2 hA V0))) rfl fun t398 => ?_
            refine dk (fun w H => ⟨bk a4 H, tbk a2 H, trivial⟩) ?_
            obtain ⟨hc399, h309⟩ := ck_out h309
            refine q_p 11 (panic_then (panic_block (panic_then (panic_then (panic_block (panic_then panic_body)))))) rfl (by kernel_rfl) W0 (r_ixA Tryd.underlying45 ti9 rfl rfl hc399) rfl ?_
            obtain ⟨el400, hel400, h309⟩ := bs h309
            refine q_s 12 (panic_then (panic_block (panic_then (panic_then (panic_block (panic_then panic_body)))))) rfl (by kernel_rfl) W0 (by kernel_rfl) (fun w H => ⟨bk a4 H, tbk a2 H, trivial⟩) (b_ldT (fun _ h => h.2.1) Tryd.underlying9 rfl rfl (at_map hel400)) rfl ?_
            exact dW hW325 (by kernel_rfl) (t_go (J413 y326 hy326 y330 hy330 hc332 el333 hel333 y397 hy397 hc399 el400 hel400 g346 g372 h309) ⟨rfl, rfl, rfl, rfl, rfl, rfl, rfl, rfl, rfl, rfl, rfl, rfl, rfl, rfl, rfl, rfl, trivial⟩ (.cons e1 (.cons e1 (.cons e0 (.cons e0 (.cons e0 .nil))))) (fun w Z hA => V1 a0 hA (V1 a1 hA (V1 a2 hA (V0)))))
          have J392 : ∀ (y326 : Int × Int) (hy326 : f_kauditmill_Case_Int (⟨z0.codes, x299⟩ : kauditmill_Case) 6 = some y326) (y330 : Int × Int) (hy330 : f_kauditmill_Case_Int (⟨z0.codes, y326.2⟩ : kauditmill_Case) 3 = some y330) (hc332 : 0 ≤ y330.1 ∧ y330.1 < 6) (el333 : ByteArray) (hel333 : at_ (t_names : List ByteArray) y330.1 = some el333) (y342 : Int × Int) (hy342 : f_kauditmill_Case_Int (⟨z0.codes, y330.2⟩ : kauditmill_Case) 3 = some y342) (hc344 : 0 ≤ y342.1 ∧ y342.1 < 6) (el345 : ByteArray) (hel345 : at_ (t_names : List ByteArray) y342.1 = some el345) (g366 : Nat), ((f_kauditmill_Case_Bytes (⟨z0.codes, y342.2⟩ : kauditmill_Case) 30).bind fun y363 => (f_kauditmill_Case_Int (⟨z0.codes, y363.2⟩ : kauditmill_Case) 9).bind fun y384 => (f_kauditlaw24_change (⟨z0.codes, y384.2⟩ : kauditmill_Case) y326.1 (⟨x301, x305, x306, x307⟩ : api_Disk) (⟨0, ([] : List api_DiskFile), false, 0⟩ : api_Disk) el333 el345 y363.1 y384.1).bind fun y401 => if (y401.2.1 == 0) = true then (f_kauditlaw24_made_l1 z0 k310 y401.2.2.2.2 (IntKind.wrap .i64 (x300 - 1)) y401.1.Room y401.1.Files y401.1.Off y401.1.Plan) else (f_kauditlaw24_made_l1 z0 k310 y401.2.2.2.2 (IntKind.wrap .i64 (x300 - 1)) x301 x305 x306 x307)) = some r → T 50 c [vw (kSlice 5 (kInt .u8)) z0.codes [.slice p1 m2 c3], vw (kSlice 34 k_api_DiskFile) x305 [.slice p302 m303 c304], g_names] [[blk g366 [.int .i64 0, .slice none 0 0, .bool false, .int .i64 0] 27], [blk g_ [.slice p1 m2 c3, .int .i64 y342.2] 41], [blk g6 [.int .i64 0, .slice none 0 0, .bool false, .int .i64 0] 27], [blk g11 [.int .i64 x301, .slice p302 m303 c304, .bool x306, .int .i64 x307] 27]] [(0, .pointer (some ⟨g_, 0, none⟩)), (1, .int .i64 x300), (4, .pointer (some ⟨g6, 0, none⟩)), (5, .pointer (some ⟨g11, 0, none⟩)), (9, .pointer (some ⟨g366, 0, none⟩)), (18, .pointer (some ⟨g_, 0, none⟩)), (19, .bool y317), (24, .pointer (some ⟨g_, 0, none⟩)), (26, .int .i64 y326.1), (27, .agg #[.int .i64 x301, .slice p302 m303 c304, .bool x306, .int .i64 x307]), (28, .agg #[.int .i64 0, .slice none 0 0, .bool false, .int .i64 0]), (32, .string el333), (36, .string el345), (37, .pointer (some ⟨g_, 0, none⟩)), (39, .pointer (some ⟨g_, 0, none⟩))] (W324 13 #[true, true, true, true, true, true, true, true, true, true, true, true, true, true, false, true, false, false, false, false, false, false, false, false, true, false, false, false, false]) := by
            intro y326 hy326 y330 hy330 hc332 el333 hel333 y342 hy342 hc344 el345 hel345 g366 h309
            refine t_W hW325 ?_
            refine dm 14 [23] (by kernel_rfl) (dmc 14 rfl (by kernel_rfl) ?_ (dmc 23 rfl (by kernel_rfl) ?_ dmz))
            · obtain ⟨y393, hy393, h309⟩ := bs h309
              refine t_ca (C14 _ _ _ _ _ _ _ hy393) Tryd.func14 nm14 rfl rfl rfl (.cons e1 .nil) (fun w Z hA => (V1 a0 hA (V1 a2 hA V0))) rfl fun t394 => ?_
              refine dk (fun w H => ⟨bk a4 H, tbk a2 H, trivial⟩) ?_
              exact dW hW325 (by kernel_rfl) (t_go (J409 y326 hy326 y330 hy330 hc332 el333 hel333 y342 hy342 hc344 el345 hel345 y393 hy393 t394 g366 h309) ⟨rfl, rfl, rfl, rfl, rfl, rfl, rfl, rfl, rfl, rfl, rfl, rfl, rfl, rfl, rfl, trivial⟩ (.cons e2 (.cons e0 (.cons e0 (.cons e0 (.cons e0 .nil))))) (fun w Z hA => V1 a0 hA (V1 a1 hA (V1 a2 hA (V0)))))
            · refine t_al (cs := [.int .i64 0, .slice none 0 0, .bool false, .int .i64 0]) ti27 rfl rfl fun g395 => ?_
              refine dk (fun w H => ⟨bk a4 H, tbk a2 H, trivial⟩) ?_
              exact dW hW325 (by kernel_rfl) (t_go (J413 y326 hy326 y330 hy330 hc332 el333 hel333 y342 hy342 hc344 el345 hel345 g395 g366 h309) ⟨rfl, rfl, rfl, rfl, rfl, rfl, rfl, rfl, rfl, rfl, rfl, rfl, rfl, rfl, rfl, rfl, trivial⟩ (.cons e1 (.cons e0 (.cons e0 (.cons e0 (.cons e0 .nil))))) (fun w Z hA => V1 a0 hA (V1 a1 hA (V1 a2 hA (V0)))))
          have J388 : ∀ (y326 : Int × Int) (hy326 : f_kauditmill_Case_Int (⟨z0.codes, x299⟩ : kauditmill_Case) 6 = some y326) (y330 : Int × Int) (hy330 : f_kauditmill_Case_Int (⟨z0.codes, y326.2⟩ : kauditmill_Case) 3 = some y330) (hc332 : 0 ≤ y330.1 ∧ y330.1 < 6) (el333 : ByteArray) (hel333 : at_ (t_names : List ByteArray) y330.1 = some el333) (y342 : Int × Int) (hy342 : f_kauditmill_Case_Int (⟨z0.codes, y330.2⟩ : kauditmill_Case) 3 = some y342) (hc344 : 0 ≤ y342.1 ∧ y342.1 < 6) (el345 : ByteArray) (hel345 : at_ (t_names : List ByteArray) y342.1 = some el345) (g365 : Nat), ((f_kauditmill_Case_Bytes (⟨z0.codes, y342.2⟩ : kauditmill_Case) 30).bind fun y363 => (f_kauditmill_Case_Int (⟨z0.codes, y363.2⟩ : kauditmill_Case) 9).bind fun y384 => (f_kauditlaw24_change (⟨z0.codes, y384.2⟩ : kauditmill_Case) y326.1 (⟨x301, x305, x306, x307⟩ : api_Disk) (⟨0, ([] : List api_DiskFile), false, 0⟩ : api_Disk) el333 el345 y363.1 y384.1).bind fun y401 => if (y401.2.1 == 0) = true then (f_kauditlaw24_made_l1 z0 k310 y401.2.2.2.2 (IntKind.wrap .i64 (x300 - 1)) y401.1.Room y401.1.Files y401.1.Off y401.1.Plan) else (f_kauditlaw24_made_l1 z0 k310 y401.2.2.2.2 (IntKind.wrap .i64 (x300 - 1)) x301 x305 x306 x307)) = some r → T 50 c [vw (kSlice 5 (kInt .u8)) z0.codes [.slice p1 m2 c3], vw (kSlice 34 k_api_DiskFile) x305 [.slice p302 m303 c304], g_names] [[blk g365 [.int .i64 0, .slice none 0 0, .bool false, .int .i64 0] 27], [blk g_ [.slice p1 m2 c3, .int .i64 y342.2] 41], [blk g6 [.int .i64 0, .slice none 0 0, .bool false, .int .i64 0] 27], [blk g11 [.int .i64 x301, .slice p302 m303 c304, .bool x306, .int .i64 x307] 27]] [(0, .pointer (some ⟨g_, 0, none⟩)), (1, .int .i64 x300), (4, .pointer (some ⟨g6, 0, none⟩)), (5, .pointer (some ⟨g11, 0, none⟩)), (7, .pointer (some ⟨g365, 0, none⟩)), (18, .pointer (some ⟨g_, 0, none⟩)), (19, .bool y317), (24, .pointer (some ⟨g_, 0, none⟩)), (26, .int .i64 y326.1), (27, .agg #[.int .i64 x301, .slice p302 m303 c304, .bool x306, .int .i64 x307]), (28, .agg #[.int .i64 0, .slice none 0 0, .bool false, .int .i64 0]), (32, .string el333), (36, .string el345), (37, .pointer (some ⟨g_, 0, none⟩)), (39, .pointer (some ⟨g_, 0, none⟩))] (W324 13 #[true, true, true, true, true, true, true, true, true, true, true, true, true, true, false, true, false, false, false, false, false, false, false, true, false, false, false, false, false]) := by
            intro y326 hy326 y330 hy330 hc332 el333 hel333 y342 hy342 hc344 el345 hel345 g365 h309
            refine t_W hW325 ?_
            refine dm 14 [24] (by kernel_rfl) (dmc 14 rfl (by kernel_rfl) ?_ (dmc 24 rfl (by kernel_rfl) ?_ dmz))
            · obtain ⟨y389, hy389, h309⟩ := bs h309
              refine t_ca (C14 _ _ _ _ _ _ _ hy389) Tryd.func14 nm14 rfl rfl rfl (.cons e1 .nil) (fun w Z hA => (V1 a0 hA (V1 a2 hA V0))) rfl fun t390 => ?_
              refine dk (fun w H => ⟨bk a4 H, tbk a2 H, trivial⟩) ?_
              exact dW hW325 (by kernel_rfl) (t_go (J405 y326 hy326 y330 hy330 hc332 el333 hel333 y342 hy342 hc344 el345 hel345 y389 hy389 t390 g365 h309) ⟨rfl, rfl, rfl, rfl, rfl, rfl, rfl, rfl, rfl, rfl, rfl, rfl, rfl, rfl, rfl, trivial⟩ (.cons e2 (.cons e0 (.cons e0 (.cons e0 (.cons e0 .nil))))) (fun w Z hA => V1 a0 hA (V1 a1 hA (V1 a2 hA (V0)))))
            · refine t_al (cs := [.int .i64 0, .slice none 0 0, .bool false, .int .i64 0]) ti27 rfl rfl fun g391 => ?_
              refine dk (fun w H => ⟨bk a4 H, tbk a2 H, trivial⟩) ?_
              exact dW hW325 (by kernel_rfl) (t_go (J413 y326 hy326 y330 hy330 hc332 el333 hel333 y342 hy342 hc344 el345 hel345 g365 g391 h309) ⟨rfl, rfl, rfl, rfl, rfl, rfl, rfl, rfl, rfl, rfl, rfl, rfl, rfl, rfl, rfl, rfl, trivial⟩ (.cons e0 (.cons e0 (.cons e0 (.cons e0 (.cons e0 .nil))))) (fun w Z hA => V1 a0 hA (V1 a1 hA (V1 a2 hA (V0)))))
          have J379 : ∀ (y326 : Int × Int) (hy326 : f_kauditmill_Case_Int (⟨z0.codes, x299⟩ : kauditmill_Case) 6 = some y326) (g334 : Nat) (g353 : Nat), ((f_kauditmill_Case_Int (⟨z0.codes, y326.2⟩ : kauditmill_Case) 3).bind fun y330 => ck (0 ≤ y330.1 ∧ y330.1 < 6) <| (at_ (t_names : List ByteArray) y330.1).bind fun el333 => (f_kauditmill_Case_Int (⟨z0.codes, y330.2⟩ : kauditmill_Case) 3).bind fun y342 => ck (0 ≤ y342.1 ∧ y342.1 < 6) <| (at_ (t_names : List ByteArray) y342.1).bind fun el345 => (f_kauditmill_Case_Bytes (⟨z0.codes, y342.2⟩ : kauditmill_Case) 30).bind fun y363 => (f_kauditmill_Case_Int (⟨z0.codes, y363.2⟩ : kauditmill_Case) 9).bind fun y384 => (f_kauditlaw24_change (⟨z0.codes, y384.2⟩ : kauditmill_Case) y326.1 (⟨x301, x305, x306, x307⟩ : api_Disk) (⟨0, ([] : List api_DiskFile), false, 0⟩ : api_Disk) el333 el345 y363.1 y384.1).bind fun y401 => if (y401.2.1 == 0) = true then (f_kauditlaw24_made_l1 z0 k310 y401.2.2.2.2 (IntKind.wrap .i64 (x300 - 1)) y401.1.Room y401.1.Files y401.1.Off y401.1.Plan) else (f_kauditlaw24_made_l1 z0 k310 y401.2.2.2.2 (IntKind.wrap .i64 (x300 - 1)) x301 x305 x306 x307)) = some r → T 50 c [vw (kSlice 5 (kInt .u8)) z0.codes [.slice p1 m2 c3], vw (kSlice 34 k_api_DiskFile) x305 [.slice p302 m303 c304], g_names] [[blk g353 [.int .i64 0, .slice none 0 0, .bool false, .int .i64 0] 27], [blk g334 [.int .i64 0, .slice none 0 0, .bool false, .int .i64 0] 27], [blk g_ [.slice p1 m2 c3, .int .i64 y326.2] 41], [blk g6 [.int .i64 0, .slice none 0 0, .bool false, .int .i64 0] 27], [blk g11 [.int .i64 x301, .slice p302 m303 c304, .bool x306, .int .i64 x307] 27]] [(0, .pointer (some ⟨g_, 0, none⟩)), (1, .int .i64 x300), (4, .pointer (some ⟨g6, 0, none⟩)), (5, .pointer (some ⟨g11, 0, none⟩)), (7, .pointer (some ⟨g334, 0, none⟩)), (9, .pointer (some ⟨g353, 0, none⟩)), (18, .pointer (some ⟨g_, 0, none⟩)), (19, .bool y317), (24, .pointer (some ⟨g_, 0, none⟩)), (26, .int .i64 y326.1), (27, .agg #[.int .i64 x301, .slice p302 m303 c304, .bool x306, .int .i64 x307]), (28, .agg #[.int .i64 0, .slice none 0 0, .bool false, .int .i64 0]), (29, .pointer (some ⟨g_, 0, none⟩)), (33, .pointer (some ⟨g_, 0, none⟩)), (37, .pointer (some ⟨g_, 0, none⟩)), (39, .pointer (some ⟨g_, 0, none⟩))] (W324 18 #[true, true, true, true, true, true, false, false, false, true, false, false, false, true, false, true, false, false, false, false, false, false, false, true, true, false, false, false, false]) := by
            intro y326 hy326 g334 g353 h309
            refine t_W hW325 ?_
            refine d1 6 rfl (by kernel_rfl) (by kernel_rfl) ?_
            obtain ⟨y380, hy380, h309⟩ := bs h309
            refine t_ca (C13 _ _ _ _ _ _ _ hy380) Tryd.func13 nm13 rfl rfl rfl (.cons e2 .nil) (fun w Z hA => (V1 a0 hA (V1 a2 hA V0))) rfl fun t381 => ?_
            refine dk (fun w H => ⟨bk a4 H, tbk a2 H, trivial⟩) ?_
            obtain ⟨hc382, h309⟩ := ck_out h309
            refine q_p 7 (panic_then (panic_block (panic_then (panic_then (panic_block (panic_then panic_body)))))) rfl (by kernel_rfl) W0 (r_ixA Tryd.underlying45 ti9 rfl rfl hc382) rfl ?_
            obtain ⟨el383, hel383, h309⟩ := bs h309
            refine q_s 8 (panic_then (panic_block (panic_then (panic_then (panic_block (panic_then panic_body)))))) rfl (by kernel_rfl) W0 (by kernel_rfl) (fun w H => ⟨bk a4 H, tbk a2 H, trivial⟩) (b_ldT (fun _ h => h.2.1) Tryd.underlying9 rfl rfl (at_map hel383)) rfl ?_
            exact dW hW325 (by kernel_rfl) (t_go (J396 y326 hy326 y380 hy380 hc382 el383 hel383 g334 g353 h309) ⟨rfl, rfl, rfl, rfl, rfl, rfl, rfl, rfl, rfl, rfl, rfl, rfl, rfl, rfl, rfl, rfl, trivial⟩ (.cons e1 (.cons e1 (.cons e0 (.cons e0 (.cons e0 .nil))))) (fun w Z hA => V1 a0 hA (V1 a1 hA (V1 a2 hA (V0)))))
          have J373 : ∀ (y326 : Int × Int) (hy326 : f_kauditmill_Case_Int (⟨z0.codes, x299⟩ : kauditmill_Case) 6 = some y326) (y330 : Int × Int) (hy330 : f_kauditmill_Case_Int (⟨z0.codes, y326.2⟩ : kauditmill_Case) 3 = some y330) (hc332 : 0 ≤ y330.1 ∧ y330.1 < 6) (el333 : ByteArray) (hel333 : at_ (t_names : List ByteArray) y330.1 = some el333) (g347 : Nat), ((f_kauditmill_Case_Int (⟨z0.codes, y330.2⟩ : kauditmill_Case) 3).bind fun y342 => ck (0 ≤ y342.1 ∧ y342.1 < 6) <| (at_ (t_names : List ByteArray) y342.1).bind fun el345 => (f_kauditmill_Case_Bytes (⟨z0.codes, y342.2⟩ : kauditmill_Case) 30).bind fun y363 => (f_kauditmill_Case_Int (⟨z0.codes, y363.2⟩ : kauditmill_Case) 9).bind fun y384 => (f_kauditlaw24_change (⟨z0.codes, y384.2⟩ : kauditmill_Case) y326.1 (⟨x301, x305, x306, x307⟩ : api_Disk) (⟨0, ([] : List api_DiskFile), false, 0⟩ : api_Disk) el333 el345 y363.1 y384.1).bind fun y401 => if (y401.2.1 == 0) = true then (f_kauditlaw24_made_l1 z0 k310 y401.2.2.2.2 (IntKind.wrap .i64 (x300 - 1)) y401.1.Room y401.1.Files y401.1.Off y401.1.Plan) else (f_kauditlaw24_made_l1 z0 k310 y401.2.2.2.2 (IntKind.wrap .i64 (x300 - 1)) x301 x305 x306 x307)) = some r → T 50 c [vw (kSlice 5 (kInt .u8)) z0.codes [.slice p1 m2 c3], vw (kSlice 34 k_api_DiskFile) x305 [.slice p302 m303 c304], g_names] [[blk g347 [.int .i64 0, .slice none 0 0, .bool false, .int .i64 0] 27], [blk g_ [.slice p1 m2 c3, .int .i64 y330.2] 41], [blk g6 [.int .i64 0, .slice none 0 0, .bool false, .int .i64 0] 27], [blk g11 [.int .i64 x301, .slice p302 m303 c304, .bool x306, .int .i64 x307] 27]] [(0, .pointer (some ⟨g_, 0, none⟩)), (1, .int .i64 x300), (4, .pointer (some ⟨g6, 0, none⟩)), (5, .pointer (some ⟨g11, 0, none⟩)), (9, .pointer (some ⟨g347, 0, none⟩)), (18, .pointer (some ⟨g_, 0, none⟩)), (19, .bool y317), (24, .pointer (some ⟨g_, 0, none⟩)), (26, .int .i64 y326.1), (27, .agg #[.int .i64 x301, .slice p302 m303 c304, .bool x306, .int .i64 x307]), (28, .agg #[.int .i64 0, .slice none 0 0, .bool false, .int .i64 0]), (32, .string el333), (33, .pointer (some ⟨g_, 0, none⟩)), (37, .pointer (some ⟨g_, 0, none⟩)), (39, .pointer (some ⟨g_, 0, none⟩))] (W324 16 #[true, true, true, true, true, true, true, true, true, true, false, false, false, true, false, true, false, false, false, false, false, false, false, false, true, false, false, false, false]) := by
            intro y326 hy326 y330 hy330 hc332 el333 hel333 g347 h309
            refine t_W hW325 ?_
            refine dm 10 [23] (by kernel_rfl) (dmc 10 rfl (by kernel_rfl) ?_ (dmc 23 rfl (by kernel_rfl) ?_ dmz))
            · obtain ⟨y374, hy374, h309⟩ := bs h309
              refine t_ca (C13 _ _ _ _ _ _ _ hy374) Tryd.func13 nm13 rfl rfl rfl (.cons e1 .nil) (fun w Z hA => (V1 a0 hA (V1 a2 hA V0))) rfl fun t375 => ?_
              refine dk (fun w H => ⟨bk a3 H, tbk a2 H, trivial⟩) ?_
              obtain ⟨hc376, h309⟩ := ck_out h309
              refine q_p 11 (panic_then (panic_block (panic_then (panic_then (panic_block (panic_then panic_body)))))) rfl (by kernel_rfl) W0 (r_ixA Tryd.underlying45 ti9 rfl rfl hc376) rfl ?_
              obtain ⟨el377, hel377, h309⟩ := bs h309
              refine q_s 12 (panic_then (panic_block (panic_then (panic_then (panic_block (panic_then panic_body)))))) rfl (by kernel_rfl) W0 (by kernel_rfl) (fun w H => ⟨bk a3 H, tbk a2 H, trivial⟩) (b_ldT (fun _ h => h.2.1) Tryd.underlying9 rfl rfl (at_map hel377)) rfl ?_
              exact dW hW325 (by kernel_rfl) (t_go (J392 y326 hy326 y330 hy330 hc332 el333 hel333 y374 hy374 hc376 el377 hel377 g347 h309) ⟨rfl, rfl, rfl, rfl, rfl, rfl, rfl, rfl, rfl, rfl, rfl, rfl, rfl, rfl, rfl, trivial⟩ (.cons e1 (.cons e0 (.cons e0 (.cons e0 .nil)))) (fun w Z hA => V1 a0 hA (V1 a1 hA (V1 a2 hA (V0)))))
            · refine t_al (cs := [.int .i64 0, .slice none 0 0, .bool false, .int .i64 0]) ti27 rfl rfl fun g378 => ?_
              refine dk (fun w H => ⟨bk a4 H, tbk a2 H, trivial⟩) ?_
              exact dW hW325 (by kernel_rfl) (t_go (J396 y326 hy326 y330 hy330 hc332 el333 hel333 g378 g347 h309) ⟨rfl, rfl, rfl, rfl, rfl, rfl, rfl, rfl, rfl, rfl, rfl, rfl, rfl, rfl, rfl, rfl, trivial⟩ (.cons e1 (.cons e0 (.cons e0 (.cons e0 (.cons e0 .nil))))) (fun w Z hA => V1 a0 hA (V1 a1 hA (V1 a2 hA (V0)))))
          have J367 : ∀ (y326 : Int × Int) (hy326 : f_kauditmill_Case_Int (⟨z0.codes, x299⟩ : kauditmill_Case) 6 = some y326) (y330 : Int × Int) (hy330 : f_kauditmill_Case_Int (⟨z0.codes, y326.2⟩ : kauditmill_Case) 3 = some y330) (hc332 : 0 ≤ y330.1 ∧ y330.1 < 6) (el333 : ByteArray) (hel333 : at_ (t_names : List ByteArray) y330.1 = some el333) (g346 : Nat), ((f_kauditmill_Case_Int (⟨z0.codes, y330.2⟩ : kauditmill_Case) 3).bind fun y342 => ck (0 ≤ y342.1 ∧ y342.1 < 6) <| (at_ (t_names : List ByteArray) y342.1).bind fun el345 => (f_kauditmill_Case_Bytes (⟨z0.codes, y342.2⟩ : kauditmill_Case) 30).bind fun y363 => (f_kauditmill_Case_Int (⟨z0.codes, y363.2⟩ : kauditmill_Case) 9).bind fun y384 => (f_kauditlaw24_change (⟨z0.codes, y384.2⟩ : kauditmill_Case) y326.1 (⟨x301, x305, x306, x307⟩ : api_Disk) (⟨0, ([] : List api_DiskFile), false, 0⟩ : api_Disk) el333 el345 y363.1 y384.1).bind fun y401 => if (y401.2.1 == 0) = true then (f_kauditlaw24_made_l1 z0 k310 y401.2.2.2.2 (IntKind.wrap .i64 (x300 - 1)) y401.1.Room y401.1.Files y401.1.Off y401.1.Plan) else (f_kauditlaw24_made_l1 z0 k310 y401.2.2.2.2 (IntKind.wrap .i64 (x300 - 1)) x301 x305 x306 x307)) = some r → T 50 c [vw (kSlice 5 (kInt .u8)) z0.codes [.slice p1 m2 c3], vw (kSlice 34 k_api_DiskFile) x305 [.slice p302 m303 c304], g_names] [[blk g346 [.int .i64 0, .slice none 0 0, .bool false, .int .i64 0] 27], [blk g_ [.slice p1 m2 c3, .int .i64 y330.2] 41], [blk g6 [.int .i64 0, .slice none 0 0, .bool false, .int .i64 0] 27], [blk g11 [.int .i64 x301, .slice p302 m303 c304, .bool x306, .int .i64 x307] 27]] [(0, .pointer (some ⟨g_, 0, none⟩)), (1, .int .i64 x300), (4, .pointer (some ⟨g6, 0, none⟩)), (5, .pointer (some ⟨g11, 0, none⟩)), (7, .pointer (some ⟨g346, 0, none⟩)), (18, .pointer (some ⟨g_, 0, none⟩)), (19, .bool y317), (24, .pointer (some ⟨g_, 0, none⟩)), (26, .int .i64 y326.1), (27, .agg #[.int .i64 x301, .slice p302 m303 c304, .bool x306, .int .i64 x307]), (28, .agg #[.int .i64 0, .slice none 0 0, .bool false, .int .i64 0]), (32, .string el333), (33, .pointer (some ⟨g_, 0, none⟩)), (37, .pointer (some ⟨g_, 0, none⟩)), (39, .pointer (some ⟨g_, 0, none⟩))] (W324 16 #[true, true, true, true, true, true, true, true, true, true, false, false, false, true, false, true, false, false, false, false, false, false, false, true, false, false, false, false, false]) := by
            intro y326 hy326 y330 hy330 hc332 el333 hel333 g346 h309
            refine t_W hW325 ?_
            refine dm 10 [24] (by kernel_rfl) (dmc 10 rfl (by kernel_rfl) ?_ (dmc 24 rfl (by kernel_rfl) ?_ dmz))
            · obtain ⟨y368, hy368, h309⟩ := bs h309
              refine t_ca (C13 _ _ _ _ _ _ _ hy368) Tryd.func13 nm13 rfl rfl rfl (.cons e1 .nil) (fun w Z hA => (V1 a0 hA (V1 a2 hA V0))) rfl fun t369 => ?_
              refine dk (fun w H => ⟨bk a3 H, tbk a2 H, trivial⟩) ?_
              obtain ⟨hc370, h309⟩ := ck_out h309
              refine q_p 11 (panic_then (panic_block (panic_then (panic_then (panic_block (panic_then panic_body)))))) rfl (by kernel_rfl) W0 (r_ixA Tryd.underlying45 ti9 rfl rfl hc370) rfl ?_
              obtain ⟨el371, hel371, h309⟩ := bs h309
              refine q_s 12 (panic_then (panic_block (panic_then (panic_then (panic_block (panic_then panic_body)))))) rfl (by kernel_rfl) W0 (by kernel_rfl) (fun w H => ⟨bk a3 H, tbk a2 H, trivial⟩) (b_ldT (fun _ h => h.2.1) Tryd.underlying9 rfl rfl (at_map hel371)) rfl ?_
              exact dW hW325 (by kernel_rfl) (t_go (J388 y326 hy326 y330 hy330 hc332 el333 hel333 y368 hy368 hc370 el371 hel371 g346 h309) ⟨rfl, rfl, rfl, rfl, rfl, rfl, rfl, rfl, rfl, rfl, rfl, rfl, rfl, rfl, rfl, trivial⟩ (.cons e1 (.cons e0 (.cons e0 (.cons e0 .nil)))) (fun w Z hA => V1 a0 hA (V1 a1 hA (V1 a2 hA (V0)))))
            · refine t_al (cs := [.int .i64 0, .slice none 0 0, .bool false, .int .i64 0]) ti27 rfl rfl fun g372 => ?_
              refine dk (fun w H => ⟨bk a4 H, tbk a2 H, trivial⟩) ?_
              exact dW hW325 (by kernel_rfl) (t_go (J396 y326 hy326 y330 hy330 hc332 el333 hel333 g346 g372 h309) ⟨rfl, rfl, rfl, rfl, rfl, rfl, rfl, rfl, rfl, rfl, rfl, rfl, rfl, rfl, rfl, rfl, trivial⟩ (.cons e0 (.cons e0 (.cons e0 (.cons e0 (.cons e0 .nil))))) (fun w Z hA => V1 a0 hA (V1 a1 hA (V1 a2 hA (V0)))))
          have J360 : ∀ (g328 : Nat) (g338 : Nat), ((f_kauditmill_Case_Int (⟨z0.codes, x299⟩ : kauditmill_Case) 6).bind fun y326 => (f_kauditmill_Case_Int (⟨z0.codes, y326.2⟩ : kauditmill_Case) 3).bind fun y330 => ck (0 ≤ y330.1 ∧ y330.1 < 6) <| (at_ (t_names : List ByteArray) y330.1).bind fun el333 => (f_kauditmill_Case_Int (⟨z0.codes, y330.2⟩ : kauditmill_Case) 3).bind fun y342 => ck (0 ≤ y342.1 ∧ y342.1 < 6) <| (at_ (t_names : List ByteArray) y342.1).bind fun el345 => (f_kauditmill_Case_Bytes (⟨z0.codes, y342.2⟩ : kauditmill_Case) 30).bind fun y363 => (f_kauditmill_Case_Int (⟨z0.codes, y363.2⟩ : kauditmill_Case) 9).bind fun y384 => (f_kauditlaw24_change (⟨z0.codes, y384.2⟩ : kauditmill_Case) y326.1 (⟨x301, x305, x306, x307⟩ : api_Disk) (⟨0, ([] : List api_DiskFile), false, 0⟩ : api_Disk) el333 el345 y363.1 y384.1).bind fun y401 => if (y401.2.1 == 0) = true then (f_kauditlaw24_made_l1 z0 k310 y401.2.2.2.2 (IntKind.wrap .i64 (x300 - 1)) y401.1.Room y401.1.Files y401.1.Off y401.1.Plan) else (f_kauditlaw24_made_l1 z0 k310 y401.2.2.2.2 (IntKind.wrap .i64 (x300 - 1)) x301 x305 x306 x307)) = some r → T 50 c [vw (kSlice 5 (kInt .u8)) z0.codes [.slice p1 m2 c3], vw (kSlice 34 k_api_DiskFile) x305 [.slice p302 m303 c304], g_names] [[blk g338 [.int .i64 0, .slice none 0 0, .bool false, .int .i64 0] 27], [blk g328 [.int .i64 0, .slice none 0 0, .bool false, .int .i64 0] 27], [blk g_ [.slice p1 m2 c3, .int .i64 x299] 41], [blk g6 [.int .i64 0, .slice none 0 0, .bool false, .int .i64 0] 27], [blk g11 [.int .i64 x301, .slice p302 m303 c304, .bool x306, .int .i64 x307] 27]] [(0, .pointer (some ⟨g_, 0, none⟩)), (1, .int .i64 x300), (4, .pointer (some ⟨g6, 0, none⟩)), (5, .pointer (some ⟨g11, 0, none⟩)), (7, .pointer (some ⟨g328, 0, none⟩)), (9, .pointer (some ⟨g338, 0, none⟩)), (18, .pointer (some ⟨g_, 0, none⟩)), (19, .bool y317), (24, .pointer (some ⟨g_, 0, none⟩)), (25, .pointer (some ⟨g_, 0, none⟩)), (27, .agg #[.int .i64 x301, .slice p302 m303 c304, .bool x306, .int .i64 x307]), (28, .agg #[.int .i64 0, .slice none 0 0, .bool false, .int .i64 0]), (29, .pointer (some ⟨g_, 0, none⟩)), (33, .pointer (some ⟨g_, 0, none⟩)), (37, .pointer (some ⟨g_, 0, none⟩)), (39, .pointer (some ⟨g_, 0, none⟩))] (W324 19 #[true, true, false, true, true, true, false, false, false, true, false, false, false, true, false, true, false, false, false, false, false, false, false, true, true, false, false, false, false]) := by
            intro g328 g338 h309
            refine t_W hW325 ?_
            refine d1 2 rfl (by kernel_rfl) (by kernel_rfl) ?_
            obtain ⟨y361, hy361, h309⟩ := bs h309
            refine t_ca (C13 _ _ _ _ _ _ _ hy361) Tryd.func13 nm13 rfl rfl rfl (.cons e2 .nil) (fun w Z hA => (V1 a0 hA (V1 a2 hA V0))) rfl fun t362 => ?_
            refine dk (fun w H => ⟨bk a4 H, tbk a2 H, trivial⟩) ?_
            exact dW hW325 (by kernel_rfl) (t_go (J379 y361 hy361 g328 g338 h309) ⟨rfl, rfl, rfl, rfl, rfl, rfl, rfl, rfl, rfl, rfl, rfl, rfl, rfl, rfl, rfl, rfl, trivial⟩ (.cons e1 (.cons e1 (.cons e0 (.cons e0 (.cons e0 .nil))))) (fun w Z hA => V1 a0 hA (V1 a1 hA (V1 a2 hA (V0)))))
          have J354 : ∀ (y326 : Int × Int) (hy326 : f_kauditmill_Case_Int (⟨z0.codes, x299⟩ : kauditmill_Case) 6 = some y326) (g335 : Nat), ((f_kauditmill_Case_Int (⟨z0.codes, y326.2⟩ : kauditmill_Case) 3).bind fun y330 => ck (0 ≤ y330.1 ∧ y330.1 < 6) <| (at_ (t_names : List ByteArray) y330.1).bind fun el333 => (f_kauditmill_Case_Int (⟨z0.codes, y330.2⟩ : kauditmill_Case) 3).bind fun y342 => ck (0 ≤ y342.1 ∧ y342.1 < 6) <| (at_ (t_names : List ByteArray) y342.1).bind fun el345 => (f_kauditmill_Case_Bytes (⟨z0.codes, y342.2⟩ : kauditmill_Case) 30).bind fun y363 => (f_kauditmill_Case_Int (⟨z0.codes, y363.2⟩ : kauditmill_Case) 9).bind fun y384 => (f_kauditlaw24_change (⟨z0.codes, y384.2⟩ : kauditmill_Case) y326.1 (⟨x301, x305, x306, x307⟩ : api_Disk) (⟨0, ([] : List api_DiskFile), false, 0⟩ : api_Disk) el333 el345 y363.1 y384.1).bind fun y401 => if (y401.2.1 == 0) = true then (f_kauditlaw24_made_l1 z0 k310 y401.2.2.2.2 (IntKind.wrap .i64 (x300 - 1)) y401.1.Room y401.1.Files y401.1.Off y401.1.Plan) else (f_kauditlaw24_made_l1 z0 k310 y401.2.2.2.2 (IntKind.wrap .i64 (x300 - 1)) x301 x305 x306 x307)) = some r → T 50 c [vw (kSlice 5 (kInt .u8)) z0.codes [.slice p1 m2 c3], vw (kSlice 34 k_api_DiskFile) x305 [.slice p302 m303 c304], g_names] [[blk g335 [.int .i64 0, .slice none 0 0, .bool false, .int .i64 0] 27], [blk g_ [.slice p1 m2 c3, .int .i64 y326.2] 41], [blk g6 [.int .i64 0, .slice none 0 0, .bool false, .int .i64 0] 27], [blk g11 [.int .i64 x301, .slice p302 m303 c304, .bool x306, .int .i64 x307] 27]] [(0, .pointer (some ⟨g_, 0, none⟩)), (1, .int .i64 x300), (4, .pointer (some ⟨g6, 0, none⟩)), (5, .pointer (some ⟨g11, 0, none⟩)), (9, .pointer (some ⟨g335, 0, none⟩)), (18, .pointer (some ⟨g_, 0, none⟩)), (19, .bool y317), (24, .pointer (some ⟨g_, 0, none⟩)), (26, .int .i64 y326.1), (27, .agg #[.int .i64 x301, .slice p302 m303 c304, .bool x306, .int .i64 x307]), (28, .agg #[.int .i64 0, .slice none 0 0, .bool false, .int .i64 0]), (29, .pointer (some ⟨g_, 0, none⟩)), (33, .pointer (some ⟨g_, 0, none⟩)), (37, .pointer (some ⟨g_, 0, none⟩)), (39, .pointer (some ⟨g_, 0, none⟩))] (W324 19 #[true, true, true, true, true, true, false, false, false, true, false, false, false, true, false, true, false, false, false, false, false, false, false, false, true, false, false, false, false]) := by
            intro y326 hy326 g335 h309
            refine t_W hW325 ?_
            refine dm 6 [23] (by kernel_rfl) (dmc 6 rfl (by kernel_rfl) ?_ (dmc 23 rfl (by kernel_rfl) ?_ dmz))
            · obtain ⟨y355, hy355, h309⟩ := bs h309
              refine t_ca (C13 _ _ _ _ _ _ _ hy355) Tryd.func13 nm13 rfl rfl rfl (.cons e1 .nil) (fun w Z hA => (V1 a0 hA (V1 a2 hA V0))) rfl fun t356 => ?_
              refine dk (fun w H => ⟨bk a3 H, tbk a2 H, trivial⟩) ?_
              obtain ⟨hc357, h309⟩ := ck_out h309
              refine q_p 7 (panic_then (panic_block (panic_then (panic_then (panic_block (panic_then panic_body)))))) rfl (by kernel_rfl) W0 (r_ixA Tryd.underlying45 ti9 rfl rfl hc357) rfl ?_
              obtain ⟨el358, hel358, h309⟩ := bs h309
              refine q_s 8 (panic_then (panic_block (panic_then (panic_then (panic_block (panic_then panic_body)))))) rfl (by kernel_rfl) W0 (by kernel_rfl) (fun w H => ⟨bk a3 H, tbk a2 H, trivial⟩) (b_ldT (fun _ h => h.2.1) Tryd.underlying9 rfl rfl (at_map hel358)) rfl ?_
              exact dW hW325 (by kernel_rfl) (t_go (J373 y326 hy326 y355 hy355 hc357 el358 hel358 g335 h309) ⟨rfl, rfl, rfl, rfl, rfl, rfl, rfl, rfl, rfl, rfl, rfl, rfl, rfl, rfl, rfl, trivial⟩ (.cons e1 (.cons e0 (.cons e0 (.cons e0 .nil)))) (fun w Z hA => V1 a0 hA (V1 a1 hA (V1 a2 hA (V0)))))
            · refine t_al (cs := [.int .i64 0, .slice none 0 0, .bool false, .int .i64 0]) ti27 rfl rfl fun g359 => ?_
              refine dk (fun w H => ⟨bk a4 H, tbk a2 H, trivial⟩) ?_
              exact dW hW325 (by kernel_rfl) (t_go (J379 y326 hy326 g359 g335 h309) ⟨rfl, rfl, rfl, rfl, rfl, rfl, rfl, rfl, rfl, rfl, rfl, rfl, rfl, rfl, rfl, rfl, trivial⟩ (.cons e1 (.cons e0 (.cons e0 (.cons e0 (.cons e0 .nil))))) (fun w Z hA => V1 a0 hA (V1 a1 hA (V1 a2 hA (V0)))))
          have J348 : ∀ (y326 : Int × Int) (hy326 : f_kauditmill_Case_Int (⟨z0.codes, x299⟩ : kauditmill_Case) 6 = some y326) (g334 : Nat), ((f_kauditmill_Case_Int (⟨z0.codes, y326.2⟩ : kauditmill_Case) 3).bind fun y330 => ck (0 ≤ y330.1 ∧ y330.1 < 6) <| (at_ (t_names : List ByteArray) y330.1).bind fun el333 => (f_kauditmill_Case_Int (⟨z0.codes, y330.2⟩ : kauditmill_Case) 3).bind fun y342 => ck (0 ≤ y342.1 ∧ y342.1 < 6) <| (at_ (t_names : List ByteArray) y342.1).bind fun el345 => (f_kauditmill_Case_Bytes (⟨z0.codes, y342.2⟩ : kauditmill_Case) 30).bind fun y363 => (f_kauditmill_Case_Int (⟨z0.codes, y363.2⟩ : kauditmill_Case) 9).bind fun y384 => (f_kauditlaw24_change (⟨z0.codes, y384.2⟩ : kauditmill_Case) y326.1 (⟨x301, x305, x306, x307⟩ : api_Disk) (⟨0, ([] : List api_DiskFile), false, 0⟩ : api_Disk) el333 el345 y363.1 y384.1).bind fun y401 => if (y401.2.1 == 0) = true then (f_kauditlaw24_made_l1 z0 k310 y401.2.2.2.2 (IntKind.wrap .i64 (x300 - 1)) y401.1.Room y401.1.Files y401.1.Off y401.1.Plan) else (f_kauditlaw24_made_l1 z0 k310 y401.2.2.2.2 (IntKind.wrap .i64 (x300 - 1)) x301 x305 x306 x307)) = some r → T 50 c [vw (kSlice 5 (kInt .u8)) z0.codes [.slice p1 m2 c3], vw (kSlice 34 k_api_DiskFile) x305 [.slice p302 m303 c304], g_names] [[blk g334 [.int .i64 0, .slice none 0 0, .bool false, .int .i64 0] 27], [blk g_ [.slice p1 m2 c3, .int .i64 y326.2] 41], [blk g6 [.int .i64 0, .slice none 0 0, .bool false, .int .i64 0] 27], [blk g11 [.int .i64 x301, .slice p302 m303 c304, .bool x306, .int .i64 x307] 27]] [(0, .pointer (some ⟨g_, 0, none⟩)), (1, .int .i64 x300), (4, .pointer (some ⟨g6, 0, none⟩)), (5, .pointer (some ⟨g11, 0, none⟩)), (7, .pointer (some ⟨g334, 0, none⟩)), (18, .pointer (some ⟨g_, 0, none⟩)), (19, .bool y317), (24, .pointer (some ⟨g_, 0, none⟩)), (26, .int .i64 y326.1), (27, .agg #[.int .i64 x301, .slice p302 m303 c304, .bool x306, .int .i64 x307]), (28, .agg #[.int .i64 0, .slice none 0 0, .bool false, .int .i64 0]), (29, .pointer (some ⟨g_, 0, none⟩)), (33, .pointer (some ⟨g_, 0, none⟩)), (37, .pointer (some ⟨g_, 0, none⟩)), (39, .pointer (some ⟨g_, 0, none⟩))] (W324 19 #[true, true, true, true, true, true, false, false, false, true, false, false, false, true, false, true, false, false, false, false, false, false, false, true, false, false, false, false, false]) := by
            intro y326 hy326 g334 h309
            refine t_W hW325 ?_
            refine dm 6 [24] (by kernel_rfl) (dmc 6 rfl (by kernel_rfl) ?_ (dmc 24 rfl (by kernel_rfl) ?_ dmz))
            · obtain ⟨y349, hy349, h309⟩ := bs h309
              refine t_ca (C13 _ _ _ _ _ _ _ hy349) Tryd.func13 nm13 rfl rfl rfl (.cons e1 .nil) (fun w Z hA => (V1 a0 hA (V1 a2 hA V0))) rfl fun t350 => ?_
              refine dk (fun w H => ⟨bk a3 H, tbk a2 H, trivial⟩) ?_
              obtain ⟨hc351, h309⟩ := ck_out h309
              refine q_p 7 (panic_then (panic_block (panic_then (panic_then (panic_block (panic_then panic_body)))))) rfl (by kernel_rfl) W0 (r_ixA Tryd.underlying45 ti9 rfl rfl hc351) rfl ?_
              obtain ⟨el352, hel352, h309⟩ := bs h309
              refine q_s 8 (panic_then (panic_block (panic_then (panic_then (panic_block (panic_then panic_body)))))) rfl (by kernel_rfl) W0 (by kernel_rfl) (fun w H => ⟨bk a3 H, tbk a2 H, trivial⟩) (b_ldT (fun _ h => h.2.1) Tryd.underlying9 rfl rfl (at_map hel352)) rfl ?_
              exact dW hW325 (by kernel_rfl) (t_go (J367 y326 hy326 y349 hy349 hc351 el352 hel352 g334 h309) ⟨rfl, rfl, rfl, rfl, rfl, rfl, rfl, rfl, rfl, rfl, rfl, rfl, rfl, rfl, rfl, trivial⟩ (.cons e1 (.cons e0 (.cons e0 (.cons e0 .nil)))) (fun w Z hA => V1 a0 hA (V1 a1 hA (V1 a2 hA (V0)))))
            · refine t_al (cs := [.int .i64 0, .slice none 0 0, .bool false, .int .i64 0]) ti27 rfl rfl fun g353 => ?_
              refine dk (fun w H => ⟨bk a4 H, tbk a2 H, trivial⟩) ?_
              exact dW hW325 (by kernel_rfl) (t_go (J379 y326 hy326 g334 g353 h309) ⟨rfl, rfl, rfl, rfl, rfl, rfl, rfl, rfl, rfl, rfl, rfl, rfl, rfl, rfl, rfl, rfl, trivial⟩ (.cons e0 (.cons e0 (.cons e0 (.cons e0 (.cons e0 .nil))))) (fun w Z hA => V1 a0 hA (V1 a1 hA (V1 a2 hA (V0)))))
          refine q_p 0 (panic_then (panic_block (panic_then (panic_then (panic_block (panic_then panic_body)))))) rfl (by kernel_rfl) W0 (r_mv rfl) rfl ?_
          refine q_p 1 (panic_then (panic_block (panic_then (panic_then (panic_block (panic_then panic_body)))))) rfl (by kernel_rfl) W0 (r_mv rfl) rfl ?_
          refine q_s 3 (panic_then (panic_block (panic_then (panic_then (panic_block (panic_then panic_body)))))) rfl (by kernel_rfl) W0 (by kernel_rfl) (fun w H => ⟨bk a2 H, tbk a2 H, trivial⟩) (b_ldN (fun _ h => h.1) Tryd.underlying27 rfl ti27 rfl (.t (.s (.s (.s (.s .z)))))) rfl ?_
          refine q_p 4 (panic_then (panic_block (panic_then (panic_then (panic_block (panic_then panic_body)))))) rfl (by kernel_rfl) W0 (r_bu (ps := []) (cs := [.int .i64 0, .slice none 0 0, .bool false, .int .i64 0]) rfl (by kernel_rfl)) rfl ?_
          refine q_p 5 (panic_then (panic_block (panic_then (panic_then (panic_block (panic_then panic_body)))))) rfl (by kernel_rfl) W0 (r_mv rfl) rfl ?_
          refine q_p 9 (panic_then (panic_block (panic_then (panic_then (panic_block (panic_then panic_body)))))) rfl (by kernel_rfl) W0 (r_mv rfl) rfl ?_
          refine q_p 13 (panic_then (panic_block (panic_then (panic_then (panic_block (panic_then panic_body)))))) rfl (by kernel_rfl) W0 (r_mv rfl) rfl ?_
          refine q_p 15 (panic_then (panic_block (panic_then (panic_then (panic_block (panic_then panic_body)))))) rfl (by kernel_rfl) W0 (r_mv rfl) rfl ?_
          refine dm 2 [23, 24] (by kernel_rfl) (dmc 2 rfl (by kernel_rfl) ?_ (dmc 23 rfl (by kernel_rfl) ?_ (dmc 24 rfl (by kernel_rfl) ?_ dmz)))
          · obtain ⟨y326, hy326, h309⟩ := bs h309
            refine t_ca (C13 _ _ _ _ _ _ _ hy326) Tryd.func13 nm13 rfl rfl rfl (.cons e0 .nil) (fun w Z hA => (V1 a0 hA (V1 a2 hA V0))) rfl fun t327 => ?_
            refine dk (fun w H => ⟨bk a2 H, tbk a2 H, trivial⟩) ?_
            refine dm 6 [23, 24] (by kernel_rfl) (dmc 6 rfl (by kernel_rfl) ?_ (dmc 23 rfl (by kernel_rfl) ?_ (dmc 24 rfl (by kernel_rfl) ?_ dmz)))
            · obtain ⟨y330, hy330, h309⟩ := bs h309
              refine t_ca (C13 _ _ _ _ _ _ _ hy330) Tryd.func13 nm13 rfl rfl rfl (.cons e0 .nil) (fun w Z hA => (V1 a0 hA (V1 a2 hA V0))) rfl fun t331 => ?_
              refine dk (fun w H => ⟨bk a2 H, tbk a2 H, trivial⟩) ?_
              obtain ⟨hc332, h309⟩ := ck_out h309
              refine q_p 7 (panic_then (panic_block (panic_then (panic_then (panic_block (panic_then panic_body)))))) rfl (by kernel_rfl) W0 (r_ixA Tryd.underlying45 ti9 rfl rfl hc332) rfl ?_
              obtain ⟨el333, hel333, h309⟩ := bs h309
              refine q_s 8 (panic_then (panic_block (panic_then (panic_then (panic_block (panic_then panic_body)))))) rfl (by kernel_rfl) W0 (by kernel_rfl) (fun w H => ⟨bk a2 H, tbk a2 H, trivial⟩) (b_ldT (fun _ h => h.2.1) Tryd.underlying9 rfl rfl (at_map hel333)) rfl ?_
              refine dm 10 [23, 24] (by kernel_rfl) (dmc 10 rfl (by kernel_rfl) ?_ (dmc 23 rfl (by kernel_rfl) ?_ (dmc 24 rfl (by kernel_rfl) ?_ dmz)))
              · obtain ⟨y342, hy342, h309⟩ := bs h309
                refine t_ca (C13 _ _ _ _ _ _ _ hy342) Tryd.func13 nm13 rfl rfl rfl (.cons e0 .nil) (fun w Z hA => (V1 a0 hA (V1 a2 hA V0))) rfl fun t343 => ?_
                refine dk (fun w H => ⟨bk a2 H, tbk a2 H, trivial⟩) ?_
                obtain ⟨hc344, h309⟩ := ck_out h309
                refine q_p 11 (panic_then (panic_block (panic_then (panic_then (panic_block (panic_then panic_body)))))) rfl (by kernel_rfl) W0 (r_ixA Tryd.underlying45 ti9 rfl rfl hc344) rfl ?_
                obtain ⟨el345, hel345, h309⟩ := bs h309
                refine q_s 12 (panic_then (panic_block (panic_then (panic_then (panic_block (panic_then panic_body)))))) rfl (by kernel_rfl) W0 (by kernel_rfl) (fun w H => ⟨bk a2 H, tbk a2 H, trivial⟩) (b_ldT (fun _ h => h.2.1) Tryd.underlying9 rfl rfl (at_map hel345)) rfl ?_
                refine dm 14 [23, 24] (by kernel_rfl) (dmc 14 rfl (by kernel_rfl) ?_ (dmc 23 rfl (by kernel_rfl) ?_ (dmc 24 rfl (by kernel_rfl) ?_ dmz)))
                · obtain ⟨y363, hy363, h309⟩ := bs h309
                  refine t_ca (C14 _ _ _ _ _ _ _ hy363) Tryd.func14 nm14 rfl rfl rfl (.cons e0 .nil) (fun w Z hA => (V1 a0 hA (V1 a2 hA V0))) rfl fun t364 => ?_
                  refine dk (fun w H => ⟨bk a3 H, tbk a2 H, trivial⟩) ?_
                  refine dm 16 [23, 24] (by kernel_rfl) (dmc 16 rfl (by kernel_rfl) ?_ (dmc 23 rfl (by kernel_rfl) ?_ (dmc 24 rfl (by kernel_rfl) ?_ dmz)))
                  · obtain ⟨y384, hy384, h309⟩ := bs h309
                    refine t_ca (C13 _ _ _ _ _ _ _ hy384) Tryd.func13 nm13 rfl rfl rfl (.cons e0 .nil) (fun w Z hA => (V1 a0 hA (V1 a2 hA V0))) rfl fun t385 => ?_
                    refine dk (fun w H => ⟨bk a3 H, tbk a2 H, trivial⟩) ?_
                    refine dm 17 [23, 24] (by kernel_rfl) (dmc 17 rfl (by kernel_rfl) ?_ (dmc 23 rfl (by kernel_rfl) ?_ (dmc 24 rfl (by kernel_rfl) ?_ dmz)))
                    · refine t_sh e1 ?_
                      obtain ⟨y401, hy401, h309⟩ := bs h309
                      refine t_ca (C6 _ _ _ _ _ _ _ _ _ _ _ _ _ _ _ _ _ _ _ _ _ _ hy401) Tryd.func6 nm6 rfl rfl rfl (.cons e0 .nil) (fun w Z hA => (V1 a1 hA (V1 a2 hA (VN 34 (V1 a0 hA (V1 a3 hA V0)))))) rfl fun t402 => ?_
                      refine dn (by kernel_rfl) ?_
                      refine q_p 18 (panic_then (panic_block (panic_then (panic_then (panic_block (panic_then panic_body)))))) rfl (by kernel_rfl) W0 (r_mv rfl) rfl ?_
                      refine q_p 19 (panic_then (panic_block (panic_then (panic_then (panic_block (panic_then panic_body)))))) rfl (by kernel_rfl) W0 (r_ex rfl rfl) rfl ?_
                      refine q_p 20 (panic_then (panic_block (panic_then (panic_then (panic_block (panic_then panic_body)))))) rfl (by kernel_rfl) W0 (r_ex rfl rfl) rfl ?_
                      refine q_p 21 (panic_then (panic_block (panic_then (panic_then (panic_block (panic_then panic_body)))))) rfl (by kernel_rfl) W0 (r_ex rfl rfl) rfl ?_
                      refine q_p 22 (panic_then (panic_block (panic_then (panic_then (panic_block (panic_then panic_body)))))) rfl (by kernel_rfl) W0 (r_ex rfl rfl) rfl ?_
                      refine dm 23 [24] (by kernel_rfl) (dmc 23 rfl (by kernel_rfl) ?_ (dmc 24 rfl (by kernel_rfl) ?_ dmz))
                      · refine t_al (cs := [.int .i64 0, .slice none 0 0, .bool false, .int .i64 0]) ti27 rfl rfl fun g416 => ?_
                        refine dk (fun w H => ⟨bk a5 H, tbk a3 H, trivial⟩) ?_
                        exact dW hW325 (by kernel_rfl) (t_go (J429 y326 hy326 y330 hy330 hc332 el333 hel333 y342 hy342 hc344 el345 hel345 y363 hy363 y384 hy384 y401 hy401 t402 g416 h309) ⟨rfl, rfl, rfl, rfl, rfl, rfl, rfl, rfl, rfl, rfl, rfl, trivial⟩ (.cons e0 (.cons e0 (.cons e0 (.cons e0 (.cons e0 (.cons e0 .nil)))))) (fun w Z hA => V1 a1 hA (V1 a2 hA (V1 a3 hA (V0)))))
                      · refine t_al (cs := [.int .i64 0, .slice none 0 0, .bool false, .int .i64 0]) ti27 rfl rfl fun g417 => ?_
                        refine dk (fun w H => ⟨bk a5 H, tbk a3 H, trivial⟩) ?_
                        exact dW hW325 (by kernel_rfl) (t_go (J431 y326 hy326 y330 hy330 hc332 el333 hel333 y342 hy342 hc344 el345 hel345 y363 hy363 y384 hy384 y401 hy401 t402 g417 h309) ⟨rfl, rfl, rfl, rfl, rfl, rfl, rfl, rfl, rfl, rfl, rfl, trivial⟩ (.cons e0 (.cons e0 (.cons e0 (.cons e0 (.cons e0 (.cons e0 .nil)))))) (fun w Z hA => V1 a1 hA (V1 a2 hA (V1 a3 hA (V0)))))
                    · refine t_al (cs := [.int .i64 0, .slice none 0 0, .bool false, .int .i64 0]) ti27 rfl rfl fun g403 => ?_
                      refine dk (fun w H => ⟨bk a4 H, tbk a2 H, trivial⟩) ?_
                      exact dW hW325 (by kernel_rfl) (t_go (J418 y326 hy326 y330 hy330 hc332 el333 hel333 y342 hy342 hc344 el345 hel345 y363 hy363 t364 y384 hy384 g403 h309) ⟨rfl, rfl, rfl, rfl, rfl, rfl, rfl, rfl, rfl, rfl, rfl, rfl, rfl, rfl, rfl, trivial⟩ (.cons e0 (.cons e0 (.cons e0 (.cons e0 (.cons e0 .nil))))) (fun w Z hA => V1 a0 hA (V1 a1 hA (V1 a2 hA (V0)))))
                    · refine t_al (cs := [.int .i64 0, .slice none 0 0, .bool false, .int .i64 0]) ti27 rfl rfl fun g404 => ?_
                      refine dk (fun w H => ⟨bk a4 H, tbk a2 H, trivial⟩) ?_
                      exact dW hW325 (by kernel_rfl) (t_go (J422 y326 hy326 y330 hy330 hc332 el333 hel333 y342 hy342 hc344 el345 hel345 y363 hy363 t364 y384 hy384 g404 h309) ⟨rfl, rfl, rfl, rfl, rfl, rfl, rfl, rfl, rfl, rfl, rfl, rfl, rfl, rfl, rfl, trivial⟩ (.cons e0 (.cons e0 (.cons e0 (.cons e0 (.cons e0 .nil))))) (fun w Z hA => V1 a0 hA (V1 a1 hA (V1 a2 hA (V0)))))
                  · refine t_al (cs := [.int .i64 0, .slice none 0 0, .bool false, .int .i64 0]) ti27 rfl rfl fun g386 => ?_
                    refine dk (fun w H => ⟨bk a4 H, tbk a2 H, trivial⟩) ?_
                    exact dW hW325 (by kernel_rfl) (t_go (J405 y326 hy326 y330 hy330 hc332 el333 hel333 y342 hy342 hc344 el345 hel345 y363 hy363 t364 g386 h309) ⟨rfl, rfl, rfl, rfl, rfl, rfl, rfl, rfl, rfl, rfl, rfl, rfl, rfl, rfl, rfl, trivial⟩ (.cons e0 (.cons e0 (.cons e0 (.cons e0 (.cons e0 .nil))))) (fun w Z hA => V1 a0 hA (V1 a1 hA (V1 a2 hA (V0)))))
                  · refine t_al (cs := [.int .i64 0, .slice none 0 0, .bool false, .int .i64 0]) ti27 rfl rfl fun g387 => ?_
                    refine dk (fun w H => ⟨bk a4 H, tbk a2 H, trivial⟩) ?_
                    exact dW hW325 (by kernel_rfl) (t_go (J409 y326 hy326 y330 hy330 hc332 el333 hel333 y342 hy342 hc344 el345 hel345 y363 hy363 t364 g387 h309) ⟨rfl, rfl, rfl, rfl, rfl, rfl, rfl, rfl, rfl, rfl, rfl, rfl, rfl, rfl, rfl, trivial⟩ (.cons e0 (.cons e0 (.cons e0 (.cons e0 (.cons e0 .nil))))) (fun w Z hA => V1 a0 hA (V1 a1 hA (V1 a2 hA (V0)))))
                · refine t_al (cs := [.int .i64 0, .slice none 0 0, .bool false, .int .i64 0]) ti27 rfl rfl fun g365 => ?_
                  refine dk (fun w H => ⟨bk a3 H, tbk a2 H, trivial⟩) ?_
                  exact dW hW325 (by kernel_rfl) (t_go (J388 y326 hy326 y330 hy330 hc332 el333 hel333 y342 hy342 hc344 el345 hel345 g365 h309) ⟨rfl, rfl, rfl, rfl, rfl, rfl, rfl, rfl, rfl, rfl, rfl, rfl, rfl, rfl, rfl, trivial⟩ (.cons e0 (.cons e0 (.cons e0 (.cons e0 .nil)))) (fun w Z hA => V1 a0 hA (V1 a1 hA (V1 a2 hA (V0)))))
                · refine t_al (cs := [.int .i64 0, .slice none 0 0, .bool false, .int .i64 0]) ti27 rfl rfl fun g366 => ?_
                  refine dk (fun w H => ⟨bk a3 H, tbk a2 H, trivial⟩) ?_
                  exact dW hW325 (by kernel_rfl) (t_go (J392 y326 hy326 y330 hy330 hc332 el333 hel333 y342 hy342 hc344 el345 hel345 g366 h309) ⟨rfl, rfl, rfl, rfl, rfl, rfl, rfl, rfl, rfl, rfl, rfl, rfl, rfl, rfl, rfl, trivial⟩ (.cons e0 (.cons e0 (.cons e0 (.cons e0 .nil)))) (fun w Z hA => V1 a0 hA (V1 a1 hA (V1 a2 hA (V0)))))
              · refine t_al (cs := [.int .i64 0, .slice none 0 0, .bool false, .int .i64 0]) ti27 rfl rfl fun g346 => ?_
                refine dk (fun w H => ⟨bk a3 H, tbk a2 H, trivial⟩) ?_
                exact dW hW325 (by kernel_rfl) (t_go (J367 y326 hy326 y330 hy330 hc332 el333 hel333 g346 h309) ⟨rfl, rfl, rfl, rfl, rfl, rfl, rfl, rfl, rfl, rfl, rfl, rfl, rfl, rfl, rfl, trivial⟩ (.cons e0 (.cons e0 (.cons e0 (.cons e0 .nil)))) (fun w Z hA => V1 a0 hA (V1 a1 hA (V1 a2 hA (V0)))))
              · refine t_al (cs := [.int .i64 0, .slice none 0 0, .bool false, .int .i64 0]) ti27 rfl rfl fun g347 => ?_
                refine dk (fun w H => ⟨bk a3 H, tbk a2 H, trivial⟩) ?_
                exact dW hW325 (by kernel_rfl) (t_go (J373 y326 hy326 y330 hy330 hc332 el333 hel333 g347 h309) ⟨rfl, rfl, rfl, rfl, rfl, rfl, rfl, rfl, rfl, rfl, rfl, rfl, rfl, rfl, rfl, trivial⟩ (.cons e0 (.cons e0 (.cons e0 (.cons e0 .nil)))) (fun w Z hA => V1 a0 hA (V1 a1 hA (V1 a2 hA (V0)))))
            · refine t_al (cs := [.int .i64 0, .slice none 0 0, .bool false, .int .i64 0]) ti27 rfl rfl fun g334 => ?_
              refine dk (fun w H => ⟨bk a3 H, tbk a2 H, trivial⟩) ?_
              exact dW hW325 (by kernel_rfl) (t_go (J348 y326 hy326 g334 h309) ⟨rfl, rfl, rfl, rfl, rfl, rfl, rfl, rfl, rfl, rfl, rfl, rfl, rfl, rfl, rfl, trivial⟩ (.cons e0 (.cons e0 (.cons e0 (.cons e0 .nil)))) (fun w Z hA => V1 a0 hA (V1 a1 hA (V1 a2 hA (V0)))))
            · refine t_al (cs := [.int .i64 0, .slice none 0 0, .bool false, .int .i64 0]) ti27 rfl rfl fun g335 => ?_
              refine dk (fun w H => ⟨bk a3 H, tbk a2 H, trivial⟩) ?_
              exact dW hW325 (by kernel_rfl) (t_go (J354 y326 hy326 g335 h309) ⟨rfl, rfl, rfl, rfl, rfl, rfl, rfl, rfl, rfl, rfl, rfl, rfl, rfl, rfl, rfl, trivial⟩ (.cons e0 (.cons e0 (.cons e0 (.cons e0 .nil)))) (fun w Z hA => V1 a0 hA (V1 a1 hA (V1 a2 hA (V0)))))
          · refine t_al (cs := [.int .i64 0, .slice none 0 0, .bool false, .int .i64 0]) ti27 rfl rfl fun g328 => ?_
            refine dk (fun w H => ⟨bk a3 H, tbk a2 H, trivial⟩) ?_
            refine dm 2 [24] (by kernel_rfl) (dmc 2 rfl (by kernel_rfl) ?_ (dmc 24 rfl (by kernel_rfl) ?_ dmz))
            · obtain ⟨y336, hy336, h309⟩ := bs h309
              refine t_ca (C13 _ _ _ _ _ _ _ hy336) Tryd.func13 nm13 rfl rfl rfl (.cons e1 .nil) (fun w Z hA => (V1 a0 hA (V1 a2 hA V0))) rfl fun t337 => ?_
              refine dk (fun w H => ⟨bk a3 H, tbk a2 H, trivial⟩) ?_
              exact dW hW325 (by kernel_rfl) (t_go (J348 y336 hy336 g328 h309) ⟨rfl, rfl, rfl, rfl, rfl, rfl, rfl, rfl, rfl, rfl, rfl, rfl, rfl, rfl, rfl, trivial⟩ (.cons e1 (.cons e0 (.cons e0 (.cons e0 .nil)))) (fun w Z hA => V1 a0 hA (V1 a1 hA (V1 a2 hA (V0)))))
            · refine t_al (cs := [.int .i64 0, .slice none 0 0, .bool false, .int .i64 0]) ti27 rfl rfl fun g338 => ?_
              refine dk (fun w H => ⟨bk a4 H, tbk a2 H, trivial⟩) ?_
              exact dW hW325 (by kernel_rfl) (t_go (J360 g328 g338 h309) ⟨rfl, rfl, rfl, rfl, rfl, rfl, rfl, rfl, rfl, rfl, rfl, rfl, rfl, rfl, rfl, rfl, trivial⟩ (.cons e0 (.cons e0 (.cons e0 (.cons e0 (.cons e0 .nil))))) (fun w Z hA => V1 a0 hA (V1 a1 hA (V1 a2 hA (V0)))))
          · refine t_al (cs := [.int .i64 0, .slice none 0 0, .bool false, .int .i64 0]) ti27 rfl rfl fun g329 => ?_
            refine dk (fun w H => ⟨bk a3 H, tbk a2 H, trivial⟩) ?_
            refine dm 2 [23] (by kernel_rfl) (dmc 2 rfl (by kernel_rfl) ?_ (dmc 23 rfl (by kernel_rfl) ?_ dmz))
            · obtain ⟨y339, hy339, h309⟩ := bs h309
              refine t_ca (C13 _ _ _ _ _ _ _ hy339) Tryd.func13 nm13 rfl rfl rfl (.cons e1 .nil) (fun w Z hA => (V1 a0 hA (V1 a2 hA V0))) rfl fun t340 => ?_
              refine dk (fun w H => ⟨bk a3 H, tbk a2 H, trivial⟩) ?_
              exact dW hW325 (by kernel_rfl) (t_go (J354 y339 hy339 g329 h309) ⟨rfl, rfl, rfl, rfl, rfl, rfl, rfl, rfl, rfl, rfl, rfl, rfl, rfl, rfl, rfl, trivial⟩ (.cons e1 (.cons e0 (.cons e0 (.cons e0 .nil)))) (fun w Z hA => V1 a0 hA (V1 a1 hA (V1 a2 hA (V0)))))
            · refine t_al (cs := [.int .i64 0, .slice none 0 0, .bool false, .int .i64 0]) ti27 rfl rfl fun g341 => ?_
              refine dk (fun w H => ⟨bk a4 H, tbk a2 H, trivial⟩) ?_
              exact dW hW325 (by kernel_rfl) (t_go (J360 g341 g329 h309) ⟨rfl, rfl, rfl, rfl, rfl, rfl, rfl, rfl, rfl, rfl, rfl, rfl, rfl, rfl, rfl, rfl, trivial⟩ (.cons e1 (.cons e0 (.cons e0 (.cons e0 (.cons e0 .nil))))) (fun w Z hA => V1 a0 hA (V1 a1 hA (V1 a2 hA (V0)))))
        · replace h309 := itF hb319 h309
          refine t_F rfl hb319 ?_
          refine t_exit ?_
          refine te (te (bx ?_))
          refine t_then hK13 ?_
          refine t_seq fun K440 hK441 => ?_
          refine t_region ?_
          refine c_s (r_ldA a2 Tryd.underlying27 rfl ti27 rfl rfl) rfl ?_
          refine nx (t_st u1 ti27 rfl rfl rfl rfl rfl (.t (.s (.s (.s (.s .z))))) ?_)
          refine t_nil ?_
          refine t_then hK441 ?_
          refine t_ret ?_
          exact ret1 rfl (v_N rfl a1 Tryd.underlying27 rfl ti27 rfl) (t_leave (hQ _ (Option.some.inj h309)) (p302, m303, c304) rfl (fun w Z hA => (V1 a1 hA V0)) (.cons e0 .nil))
      · replace h309 := itF hb316 h309
        refine nx (pass rfl rfl hb316 rfl ?_)
        refine nx (pass rfl rfl hb316 rfl ?_)
        refine c_p (r_pF rfl hb316 rfl) rfl ?_
        refine t_nil ?_
        refine t_then hK315 ?_
        refine t_F rfl rfl ?_
        refine t_exit ?_
        refine te (te (bx ?_))
        refine t_then hK13 ?_
        refine t_seq fun K442 hK443 => ?_
        refine t_region ?_
        refine c_s (r_ldA a2 Tryd.underlying27 rfl ti27 rfl rfl) rfl ?_
        refine nx (t_st u1 ti27 rfl rfl rfl rfl rfl (.t (.s (.s (.s (.s .z))))) ?_)
        refine t_nil ?_
        refine t_then hK443 ?_
        refine t_ret ?_
        exact ret1 rfl (v_N rfl a1 Tryd.underlying27 rfl ti27 rfl) (t_leave (hQ _ (Option.some.inj h309)) (p302, m303, c304) rfl (fun w Z hA => (V1 a1 hA V0)) (.cons e0 .nil))
  exact t_go (LP308 (((z1 : Int) - (0)).toNat + 1) z0.at_ z1 y9.1.Room t10.1 t10.2.1 t10.2.2 y9.1.Files y9.1.Off y9.1.Plan h) ⟨rfl, rfl, rfl, rfl, trivial⟩ (.cons e2 (.cons e1 (.cons e0 .nil))) (fun w Z hA => V1 a1 hA (V1 a0 hA (V1 a2 hA (V0))))
end Go.Proofs.YtkjeedijloobgaaDoor.Gx

/- Function 7, kaudit/kauditlaw24.begun: what it answers as a plain function, and that the Go code comes to exactly that (where the plain function gives an answer). -/
set_option linter.unusedVariables false
set_option linter.unusedSimpArgs false
namespace Go.Proofs.YtkjeedijloobgaaDoor.Gx
open Go.Gx Go.RowKit
/-! ### kaudit/kauditlaw24.begun: function 7 -/
def f_kauditlaw24_begun : Option (Bool) := (f_disk_New 10).bind fun y5 => (f_disk_Create y5.1 (⟨#[97]⟩ : ByteArray)).bind fun y10 => (f_disk_Append y10.1 (⟨#[97]⟩ : ByteArray) [97, 98]).bind fun y15 => (f_disk_Sync y15.1 (⟨#[97]⟩ : ByteArray)).bind fun y19 => (f_disk_Append y19.1 (⟨#[97]⟩ : ByteArray) [99, 100]).bind fun y24 => (f_disk_Crash y24.1 [1]).bind fun y29 => (f_disk_Read y29 (⟨#[97]⟩ : ByteArray)).bind fun y31 => if (y5.2 == 0) = true then (if (y10.2 == 0) = true then (if (y15.2 == 0) = true then (if (y19.2 == 0) = true then (if (y24.2 == 0) = true then (if y31.2 = true then (some ((bytesS y31.1).toList == (⟨#[97, 98, 99]⟩ : ByteArray).toList)) else (some false)) else (some false)) else (some false)) else (some false)) else (some false)) else (some false)
set_option maxHeartbeats 4000000 in
set_option maxRecDepth 100000 in
theorem C7 (r : Bool) (h : f_kauditlaw24_begun = some r) : FunG Tryd.prog 7 #[] [g_names] [] (fun (_ : Unit) => .bool r) (fun _ => []) (fun _ => []) := by
  unfold f_kauditlaw24_begun at h
  refine t_begin (args := []) Tryd.func7 rfl Tryd.ntmps7 rfl fun c R hR => ?_
  have hQ : ∀ X, X = r → ∀ w2 (_ : Unit), PostG c.w0 w2 c.M c.Y [] [] → R (.returned (.bool X)) w2 := fun X e => by subst e; exact hR
  refine t_seq fun K1 hK2 => ?_
  refine t_region ?_
  refine c_p (r_as rfl) rfl ?_
  refine t_nil ?_
  refine t_then hK2 ?_
  refine t_seq fun K3 hK4 => ?_
  refine t_region ?_
  obtain ⟨y5, hy5, h⟩ := bs h
  refine nx (t_ca (C11 _ _ hy5) Tryd.func11 nm11 rfl rfl rfl .nil (fun w Z hA => (V1 a0 hA V0)) rfl fun t6 => ?_)
  refine c_p (r_mv rfl) rfl ?_
  refine c_p (r_ex rfl rfl) rfl ?_
  refine c_p (r_ex rfl rfl) rfl ?_
  refine nx (t_al (cs := [.int .i64 0, .slice none 0 0, .bool false, .int .i64 0]) ti27 rfl rfl fun g7 => ?_)
  refine nx (t_st u0 ti27 rfl rfl rfl rfl rfl (.t (.s (.s (.s (.s .z))))) ?_)
  refine c_p (r_as rfl) rfl ?_
  refine t_nil ?_
  refine t_then hK4 ?_
  refine t_seq fun K8 hK9 => ?_
  refine t_region ?_
  refine c_s (r_ldA a0 Tryd.underlying27 rfl ti27 rfl rfl) rfl ?_
  obtain ⟨y10, hy10, h⟩ := bs h
  refine nx (t_cf (C15 _ _ _ _ _ _ hy10) (fun _ => (flat_cons (indK_slice 34 k_api_DiskFile_indK) flat_nil)) Tryd.func15 nm15 rfl rfl rfl .nil (fun w Z S hA hL => (FL a1 hL (F1 a0 hA F0))) rfl fun t11 => ?_)
  refine c_p (r_mv rfl) rfl ?_
  refine c_p (r_ex rfl rfl) rfl ?_
  refine c_p (r_ex rfl rfl) rfl ?_
  refine nx (t_st u1 ti27 rfl rfl rfl rfl rfl (.t (.s (.s (.s (.s .z))))) ?_)
  refine c_p (r_as rfl) rfl ?_
  refine t_nil ?_
  refine t_then hK9 ?_
  refine t_seq fun K12 hK13 => ?_
  refine t_region ?_
  refine c_s (r_ldA a1 Tryd.underlying27 rfl ti27 rfl rfl) rfl ?_
  refine nx (t_bs (ps := [(0, .int .u8 97), (1, .int .u8 98)]) (cs := [.int .u8 97, .int .u8 98]) Tryd.underlying22 ti5 rfl rfl (by kernel_rfl) rfl fun g14 => ?_)
  refine nx (t_cvb (xs := [97, 98]) (m := 2) (k := 2) (cs := [.int .u8 97, .int .u8 98]) e0 rfl Tryd.underlying22 Tryd.underlying5 rfl rfl (by decide) (by decide) rfl ?_)
  obtain ⟨y15, hy15, h⟩ := bs h
  refine nx (t_cf (C17 _ _ _ _ _ _ _ _ _ _ hy15) (fun _ => (flat_cons (indK_slice 34 k_api_DiskFile_indK) flat_nil)) Tryd.func17 nm17 rfl rfl rfl .nil (fun w Z S hA hL => (FL a0 hL (F1 a0 hA (F1 a1 hA F0)))) rfl fun t16 => ?_)
  refine c_p (r_mv rfl) rfl ?_
  refine c_p (r_ex rfl rfl) rfl ?_
  refine c_p (r_ex rfl rfl) rfl ?_
  refine nx (t_st u2 ti27 rfl rfl rfl rfl rfl (.t (.s (.s (.s (.s .z))))) ?_)
  refine c_p (r_as rfl) rfl ?_
  refine t_nil ?_
  refine t_then hK13 ?_
  refine t_seq fun K17 hK18 => ?_
  refine t_region ?_
  refine c_s (r_ldA a2 Tryd.underlying27 rfl ti27 rfl rfl) rfl ?_
  obtain ⟨y19, hy19, h⟩ := bs h
  refine nx (t_cf (C19 _ _ _ _ _ _ hy19) (fun _ => (flat_cons (indK_slice 34 k_api_DiskFile_indK) flat_nil)) Tryd.func19 nm19 rfl rfl rfl .nil (fun w Z S hA hL => (FL a0 hL (F1 a1 hA F0))) rfl fun t20 => ?_)
  refine c_p (r_mv rfl) rfl ?_
  refine c_p (r_ex rfl rfl) rfl ?_
  refine c_p (r_ex rfl rfl) rfl ?_
  refine nx (t_st u3 ti27 rfl rfl rfl rfl rfl (.t (.s (.s (.s (.s .z))))) ?_)
  refine c_p (r_as rfl) rfl ?_
  refine t_nil ?_
  refine t_then hK18 ?_
  refine t_seq fun K21 hK22 => ?_
  refine t_region ?_
  refine c_s (r_ldA a3 Tryd.underlying27 rfl ti27 rfl rfl) rfl ?_
  refine nx (t_bs (ps := [(0, .int .u8 99), (1, .int .u8 100)]) (cs := [.int .u8 99, .int .u8 100]) Tryd.underlying22 ti5 rfl rfl (by kernel_rfl) rfl fun g23 => ?_)
  refine nx (t_cvb (xs := [99, 100]) (m := 2) (k := 2) (cs := [.int .u8 99, .int .u8 100]) e0 rfl Tryd.underlying22 Tryd.underlying5 rfl rfl (by decide) (by decide) rfl ?_)
  obtain ⟨y24, hy24, h⟩ := bs h
  refine nx (t_cf (C17 _ _ _ _ _ _ _ _ _ _ hy24) (fun _ => (flat_cons (indK_slice 34 k_api_DiskFile_indK) flat_nil)) Tryd.func17 nm17 rfl rfl rfl .nil (fun w Z S hA hL => (FL a0 hL (F1 a0 hA (F1 a2 hA F0)))) rfl fun t25 => ?_)
  refine c_p (r_mv rfl) rfl ?_
  refine c_p (r_ex rfl rfl) rfl ?_
  refine c_p (r_ex rfl rfl) rfl ?_
  refine nx (t_st u4 ti27 rfl rfl rfl rfl rfl (.t (.s (.s (.s (.s .z))))) ?_)
  refine c_p (r_as rfl) rfl ?_
  refine t_nil ?_
  refine t_then hK22 ?_
  refine t_seq fun K26 hK27 => ?_
  refine t_region ?_
  refine c_s (r_ldA a4 Tryd.underlying27 rfl ti27 rfl rfl) rfl ?_
  refine nx (t_bs (ps := [(0, .int .i64 1)]) (cs := [.int .i64 1]) Tryd.underlying52 ti3 rfl rfl (by kernel_rfl) rfl fun g28 => ?_)
  refine t_tr (Kd := (kInt .i64)) (xs := [1]) (.cons e0 .nil) rfl (fun w Z S hA hN => flat_EO (S := Nil) (flatK_int .i64) (er1 (c1 := [.int .i64 1]) rfl er0)) ?_
  obtain ⟨y29, hy29, h⟩ := bs h
  refine nx (t_cf (C30 _ _ _ _ _ _ _ _ _ hy29) (fun _ => (flat_cons (indK_slice 34 k_api_DiskFile_indK) flat_nil)) Tryd.func30 nm30 rfl rfl rfl .nil (fun w Z S hA hL => (FL a1 hL (FL a0 hL (F1 a2 hA F0)))) rfl fun t30 => ?_)
  obtain ⟨y31, hy31, h⟩ := bs h
  refine nx (t_cf (C8 _ _ _ _ _ _ hy31) (fun _ => (flat_cons (indK_slice 5 (indK_int .u8)) flat_nil)) Tryd.func8 nm8 rfl rfl rfl .nil (fun w Z S hA hL => (FL a0 hL (F1 a2 hA F0))) rfl fun t32 => ?_)
  refine c_p (r_mv rfl) rfl ?_
  refine c_p (r_ex rfl rfl) rfl ?_
  refine c_p (r_ex rfl rfl) rfl ?_
  refine c_p (r_as rfl) rfl ?_
  refine c_p (r_as rfl) rfl ?_
  refine t_nil ?_
  refine t_then hK27 ?_
  refine t_seq fun K33 hK34 => ?_
  refine t_region ?_
  refine c_p (r_mv rfl) rfl ?_
  refine c_p (r_i rfl rfl rfl) rfl ?_
  refine c_p (r_mv rfl) rfl ?_
  rcases Bool.eq_false_or_eq_true (y5.2 == 0) with hb35 | hb35
  · replace h := itT hb35 h
    refine nx (gd rfl rfl hb35 (sp (r_mv rfl) rfl ?_))
    refine nx (gd rfl rfl hb35 (sp (r_i rfl rfl rfl) rfl ?_))
    refine c_p (r_pT rfl hb35 rfl) rfl ?_
    refine c_p (r_mv rfl) rfl ?_
    rcases Bool.eq_false_or_eq_true (y10.2 == 0) with hb36 | hb36
    · replace h := itT hb36 h
      refine nx (gd rfl rfl hb36 (sp (r_mv rfl) rfl ?_))
      refine nx (gd rfl rfl hb36 (sp (r_i rfl rfl rfl) rfl ?_))
      refine c_p (r_pT rfl hb36 rfl) rfl ?_
      refine c_p (r_mv rfl) rfl ?_
      rcases Bool.eq_false_or_eq_true (y15.2 == 0) with hb37 | hb37
      · replace h := itT hb37 h
        refine nx (gd rfl rfl hb37 (sp (r_mv rfl) rfl ?_))
        refine nx (gd rfl rfl hb37 (sp (r_i rfl rfl rfl) rfl ?_))
        refine c_p (r_pT rfl hb37 rfl) rfl ?_
        refine c_p (r_mv rfl) rfl ?_
        rcases Bool.eq_false_or_eq_true (y19.2 == 0) with hb38 | hb38
        · replace h := itT hb38 h
          refine nx (gd rfl rfl hb38 (sp (r_mv rfl) rfl ?_))
          refine nx (gd rfl rfl hb38 (sp (r_i rfl rfl rfl) rfl ?_))
          refine c_p (r_pT rfl hb38 rfl) rfl ?_
          refine c_p (r_mv rfl) rfl ?_
          rcases Bool.eq_false_or_eq_true (y24.2 == 0) with hb39 | hb39
          · replace h := itT hb39 h
            refine nx (gd rfl rfl hb39 (sp (r_mv rfl) rfl ?_))
            refine c_p (r_pT rfl hb39 rfl) rfl ?_
            refine c_p (r_mv rfl) rfl ?_
            rcases Bool.eq_false_or_eq_true y31.2 with hb40 | hb40
            · replace h := itT hb40 h
              refine nx (gd rfl rfl hb40 (sp (r_mv rfl) rfl ?_))
              refine nx (gd rfl rfl hb40 (ss (r_cbsL a0 Tryd.underlying22 Tryd.underlying5 Tryd.underlying9 rfl) rfl ?_))
              refine nx (gd rfl rfl hb40 (sp (r_s rfl rfl rfl) rfl ?_))
              refine c_p (r_pT rfl hb40 rfl) rfl ?_
              refine c_p (r_as rfl) rfl ?_
              refine t_nil ?_
              refine t_then hK34 ?_
              refine t_ret ?_
              exact ret1 rfl (v_t rfl) (t_leave (hQ _ (Option.some.inj h)) () rfl (fun w Z hA => V0) .nil)
            · replace h := itF hb40 h
              refine nx (pass rfl rfl hb40 rfl ?_)
              refine nx (pass rfl rfl hb40 rfl ?_)
              refine nx (pass rfl rfl hb40 rfl ?_)
              refine c_p (r_pF rfl hb40 rfl) rfl ?_
              refine c_p (r_as rfl) rfl ?_
              refine t_nil ?_
              refine t_then hK34 ?_
              refine t_ret ?_
              exact ret1 rfl (v_t rfl) (t_leave (hQ _ (Option.some.inj h)) () rfl (fun w Z hA => V0) .nil)
          · replace h := itF hb39 h
            refine nx (pass rfl rfl hb39 rfl ?_)
            refine c_p (r_pF rfl hb39 rfl) rfl ?_
            refine c_p (r_mv rfl) rfl ?_
            refine nx (pass rfl rfl rfl rfl ?_)
            refine nx (pass rfl rfl rfl rfl ?_)
            refine nx (pass rfl rfl rfl rfl ?_)
            refine c_p (r_pF rfl rfl rfl) rfl ?_
            refine c_p (r_as rfl) rfl ?_
            refine t_nil ?_
            refine t_then hK34 ?_
            refine t_ret ?_
            exact ret1 rfl (v_t rfl) (t_leave (hQ _ (Option.some.inj h)) () rfl (fun w Z hA => V0) .nil)
        · replace h := itF hb38 h
          refine nx (pass rfl rfl hb38 rfl ?_)
          refine nx (pass rfl rfl hb38 rfl ?_)
          refine c_p (r_pF rfl hb38 rfl) rfl ?_
          refine c_p (r_mv rfl) rfl ?_
          refine nx (pass rfl rfl rfl rfl ?_)
          refine c_p (r_pF rfl rfl rfl) rfl ?_
          refine c_p (r_mv rfl) rfl ?_
          refine nx (pass rfl rfl rfl rfl ?_)
          refine nx (pass rfl rfl rfl rfl ?_)
          refine nx (pass rfl rfl rfl rfl ?_)
          refine c_p (r_pF rfl rfl rfl) rfl ?_
          refine c_p (r_as rfl) rfl ?_
          refine t_nil ?_
          refine t_then hK34 ?_
          refine t_ret ?_
          exact ret1 rfl (v_t rfl) (t_leave (hQ _ (Option.some.inj h)) () rfl (fun w Z hA => V0) .nil)
      · replace h := itF hb37 h
        refine nx (pass rfl rfl hb37 rfl ?_)
        refine nx (pass rfl rfl hb37 rfl ?_)
        refine c_p (r_pF rfl hb37 rfl) rfl ?_
        refine c_p (r_mv rfl) rfl ?_
        refine nx (pass rfl rfl rfl rfl ?_)
        refine nx (pass rfl rfl rfl rfl ?_)
        refine c_p (r_pF rfl rfl rfl) rfl ?_
        refine c_p (r_mv rfl) rfl ?_
        refine nx (pass rfl rfl rfl rfl ?_)
        refine c_p (r_pF rfl rfl rfl) rfl ?_
        refine c_p (r_mv rfl) rfl ?_
        refine nx (pass rfl rfl rfl rfl ?_)
        refine nx (pass rfl rfl rfl rfl ?_)
        refine nx (pass rfl rfl rfl rfl ?_)
        refine c_p (r_pF rfl rfl rfl) rfl ?_
        refine c_p (r_as rfl) rfl ?_
        refine t_nil ?_
        refine t_then hK34 ?_
        refine t_ret ?_
        exact ret1 rfl (v_t rfl) (t_leave (hQ _ (Option.some.inj h)) () rfl (fun w Z hA => V0) .nil)
    · replace h := itF hb36 h
      refine nx (pass rfl rfl hb36 rfl ?_)
      refine nx (pass rfl rfl hb36 rfl ?_)
      refine c_p (r_pF rfl hb36 rfl) rfl ?_
      refine c_p (r_mv rfl) rfl ?_
      refine nx (pass rfl rfl rfl rfl ?_)
      refine nx (pass rfl rfl rfl rfl ?_)
      refine c_p (r_pF rfl rfl rfl) rfl ?_
      refine c_p (r_mv rfl) rfl ?_
      refine nx (pass rfl rfl rfl rfl ?_)
      refine nx (pass rfl rfl rfl rfl ?_)
      refine c_p (r_pF rfl rfl rfl) rfl ?_
      refine c_p (r_mv rfl) rfl ?_
      refine nx (pass rfl rfl rfl rfl ?_)
      refine c_p (r_pF rfl rfl rfl) rfl ?_
      refine c_p (r_mv rfl) rfl ?_
      refine nx (pass rfl rfl rfl rfl ?_)
      refine nx (pass rfl rfl rfl rfl ?_)
      refine nx (pass rfl rfl rfl rfl ?_)
      refine c_p (r_pF rfl rfl rfl) rfl ?_
      refine c_p (r_as rfl) rfl ?_
      refine t_nil ?_
      refine t_then hK34 ?_
      refine t_ret ?_
      exact ret1 rfl (v_t rfl) (t_leave (hQ _ (Option.some.inj h)) () rfl (fun w Z hA => V0) .nil)
  · replace h := itF hb35 h
    refine nx (pass rfl rfl hb35 rfl ?_)
    refine nx (pass rfl rfl hb35 rfl ?_)
    refine c_p (r_pF rfl hb35 rfl) rfl ?_
    refine c_p (r_mv rfl) rfl ?_
    refine nx (pass rfl rfl rfl rfl ?_)
    refine nx (pass rfl rfl rfl rfl ?_)
    refine c_p (r_pF rfl rfl rfl) rfl ?_
    refine c_p (r_mv rfl) rfl ?_
    refine nx (pass rfl rfl rfl rfl ?_)
    refine nx (pass rfl rfl rfl rfl ?_)
    refine c_p (r_pF rfl rfl rfl) rfl ?_
    refine c_p (r_mv rfl) rfl ?_
    refine nx (pass rfl rfl rfl rfl ?_)
    refine nx (pass rfl rfl rfl rfl ?_)
    refine c_p (r_pF rfl rfl rfl) rfl ?_
    refine c_p (r_mv rfl) rfl ?_
    refine nx (pass rfl rfl rfl rfl ?_)
    refine c_p (r_pF rfl rfl rfl) rfl ?_
    refine c_p (r_mv rfl) rfl ?_
    refine nx (pass rfl rfl rfl rfl ?_)
    refine nx (pass rfl rfl rfl rfl ?_)
    refine nx (pass rfl rfl rfl rfl ?_)
    refine c_p (r_pF rfl rfl rfl) rfl ?_
    refine c_p (r_as rfl) rfl ?_
    refine t_nil ?_
    refine t_then hK34 ?_
    refine t_ret ?_
    exact ret1 rfl (v_t rfl) (t_leave (hQ _ (Option.some.inj h)) () rfl (fun w Z hA => V0) .nil)
end Go.Proofs.YtkjeedijloobgaaDoor.Gx

/- Function 9, kaudit/kauditref24.SameBytes: what it answers as a plain function, and that the Go code comes to exactly that (where the plain function gives an answer). -/
set_option linter.unusedVariables false
set_option linter.unusedSimpArgs false
namespace Go.Proofs.YtkjeedijloobgaaDoor.Gx
open Go.Gx Go.RowKit
/-! ### kaudit/kauditref24.SameBytes: function 9 -/
def f_kauditref24_SameBytes (z0 : (List Int)) (z1 : (List Int)) : Option (Bool) := some ((bytesS z0).toList == (bytesS z1).toList)
set_option maxHeartbeats 4000000 in
set_option maxRecDepth 100000 in
theorem C9 (z0 : (List Int)) (z1 : (List Int)) (p1 : Option Addr) (m2 : Nat) (c3 : Nat) (p4 : Option Addr) (m5 : Nat) (c6 : Nat) (r : Bool) (h : f_kauditref24_SameBytes z0 z1 = some r) : FunG Tryd.prog 9 #[.slice p1 m2 c3, .slice p4 m5 c6] [vw (kSlice 5 (kInt .u8)) z0 [.slice p1 m2 c3], vw (kSlice 5 (kInt .u8)) z1 [.slice p4 m5 c6], g_names] [] (fun (_ : Unit) => .bool r) (fun _ => []) (fun _ => []) := by
  unfold f_kauditref24_SameBytes at h
  refine t_begin (args := [.slice p1 m2 c3, .slice p4 m5 c6]) Tryd.func9 rfl Tryd.ntmps9 rfl fun c R hR => ?_
  have hQ : ∀ X, X = r → ∀ w2 (_ : Unit), PostG c.w0 w2 c.M c.Y [] [] → R (.returned (.bool X)) w2 := fun X e => by subst e; exact hR
  refine t_seq fun K7 hK8 => ?_
  refine t_region ?_
  refine c_p (r_as rfl) rfl ?_
  refine t_nil ?_
  refine t_then hK8 ?_
  refine t_seq fun K9 hK10 => ?_
  refine t_region ?_
  refine c_p (r_mv rfl) rfl ?_
  refine c_s (r_cbsA a0 Tryd.underlying22 Tryd.underlying5 Tryd.underlying9 rfl) rfl ?_
  refine c_p (r_mv rfl) rfl ?_
  refine c_s (r_cbsA a1 Tryd.underlying22 Tryd.underlying5 Tryd.underlying9 rfl) rfl ?_
  refine c_p (r_s rfl rfl rfl) rfl ?_
  refine c_p (r_as rfl) rfl ?_
  refine t_nil ?_
  refine t_then hK10 ?_
  refine t_ret ?_
  exact ret1 rfl (v_t rfl) (t_leave (hQ _ (Option.some.inj h)) () rfl (fun w Z hA => V0) .nil)
end Go.Proofs.YtkjeedijloobgaaDoor.Gx

/- Function 3, kaudit/kauditlaw24.DiskOthers: what it answers as a plain function, and that the Go code comes to exactly that (where the plain function gives an answer). -/
set_option linter.unusedVariables false
set_option linter.unusedSimpArgs false
namespace Go.Proofs.YtkjeedijloobgaaDoor.Gx
open Go.Gx Go.RowKit
/-! ### kaudit/kauditlaw24.DiskOthers: function 3 -/
def f_kauditlaw24_DiskOthers_j3 (z1 : Int) (z2 : (List Int)) (x192 : Int) (el209 : api_DiskFile) (y214 : (List Int) × Bool) (rec_f_kauditlaw24_DiskOthers_l1 : Int → Option (Bool)) : Option (Bool) := if (el209.Name.toList == (⟨#[97]⟩ : ByteArray).toList) = true then (if (((z1 : Int).tmod 6) == 1) = true then (ck (fits (([] : List Int).length + el209.Data.length) 1 = true) <| ck (fits ((([] : List Int) ++ el209.Data).length + (cut z2 0 (min (z2.length : Int) (50 : Int))).length) 1 = true) <| (f_kauditref24_SameBytes y214.1 ((([] : List Int) ++ el209.Data) ++ (cut z2 0 (min (z2.length : Int) (50 : Int))))).bind fun y250 => if y250 = true then (rec_f_kauditlaw24_DiskOthers_l1 (IntKind.wrap .i64 (x192 + 1))) else (some false)) else (rec_f_kauditlaw24_DiskOthers_l1 (IntKind.wrap .i64 (x192 + 1)))) else (rec_f_kauditlaw24_DiskOthers_l1 (IntKind.wrap .i64 (x192 + 1)))
def f_kauditlaw24_DiskOthers_j4 (y55 : api_Disk × Int × api_Disk × Int × Int) : Option (Bool) := (f_disk_Valid y55.1).bind fun y259 => if y259 = true then ((f_kauditlaw24_begun).bind fun y262 => some y262) else (some false)
def f_kauditlaw24_DiskOthers_l1 (z1 : Int) (z2 : (List Int)) (y46 : api_Disk × Int) (y55 : api_Disk × Int × api_Disk × Int × Int) : Nat → Int → Option (Bool)
  | 0, _ => none
  | k195 + 1, x192 => if (decide (x192 < (y46.1.Files.length : Int))) = true then ((at_ y46.1.Files x192).bind fun el209 => (f_disk_Read y55.1 el209.Name).bind fun y214 => if (el209.Name.toList == (⟨#[97]⟩ : ByteArray).toList) = true then (f_kauditlaw24_DiskOthers_j3 z1 z2 x192 el209 y214 (f_kauditlaw24_DiskOthers_l1 z1 z2 y46 y55 k195)) else (if (el209.Name.toList == (⟨#[98, 46, 122]⟩ : ByteArray).toList) = true then (if (((z1 : Int).tmod 6) != 4) = true then (if y214.2 = true then ((f_kauditref24_SameBytes y214.1 el209.Data).bind fun y225 => if y225 = true then (f_kauditlaw24_DiskOthers_j3 z1 z2 x192 el209 y214 (f_kauditlaw24_DiskOthers_l1 z1 z2 y46 y55 k195)) else (some false)) else (some false)) else (f_kauditlaw24_DiskOthers_j3 z1 z2 x192 el209 y214 (f_kauditlaw24_DiskOthers_l1 z1 z2 y46 y55 k195))) else (if y214.2 = true then ((f_kauditref24_SameBytes y214.1 el209.Data).bind fun y227 => if y227 = true then (f_kauditlaw24_DiskOthers_j3 z1 z2 x192 el209 y214 (f_kauditlaw24_DiskOthers_l1 z1 z2 y46 y55 k195)) else (some false)) else (some false)))) else (f_kauditlaw24_DiskOthers_j4 y55)
def f_kauditlaw24_DiskOthers_j2 (z1 : Int) (z2 : (List Int)) (x41 : List Int) : Option (Bool) := (f_kauditlaw24_made (⟨x41, 0⟩ : kauditmill_Case) 16).bind fun y46 => ck (cutOk z2 0 (min (z2.length : Int) (50 : Int))) <| (f_kauditlaw24_change (⟨x41, y46.2⟩ : kauditmill_Case) (((IntKind.wrap .i64 z1) : Int).tmod 6) y46.1 (⟨0, ([] : List api_DiskFile), false, 0⟩ : api_Disk) (⟨#[97]⟩ : ByteArray) (⟨#[98, 46, 122]⟩ : ByteArray) (cut z2 0 (min (z2.length : Int) (50 : Int))) 1).bind fun y55 => if (y55.2.1 != 0) = true then ((f_kauditlaw24_begun).bind fun y66 => some y66) else (f_kauditlaw24_DiskOthers_l1 z1 z2 y46 y55 ((((y46.1.Files.length : Int) : Int) - (0)).toNat + 1) 0)
def f_kauditlaw24_DiskOthers_j1 (z1 : Int) (z2 : (List Int)) (x34 : List Int) : Option (Bool) := f_kauditlaw24_DiskOthers_j2 z1 z2 x34
def f_kauditlaw24_DiskOthers (z0 : (List Int)) (z1 : Int) (z2 : (List Int)) : Option (Bool) := if (decide ((z0.length : Int) > 300)) = true then (ck (cutOk z0 0 300) <| f_kauditlaw24_DiskOthers_j1 z1 z2 (cut z0 0 300)) else (f_kauditlaw24_DiskOthers_j1 z1 z2 z0)
set_option maxHeartbeats 4000000 in
set_option maxRecDepth 100000 in
theorem C3 (z0 : (List Int)) (z1 : Int) (z2 : (List Int)) (p1 : Option Addr) (m2 : Nat) (c3 : Nat) (p4 : Option Addr) (m5 : Nat) (c6 : Nat) (r : Bool) (h : f_kauditlaw24_DiskOthers z0 z1 z2 = some r) : FunG Tryd.prog 3 #[.slice p1 m2 c3, .int .u8 z1, .slice p4 m5 c6] [vw (kSlice 5 (kInt .u8)) z0 [.slice p1 m2 c3], vw (kSlice 5 (kInt .u8)) z2 [.slice p4 m5 c6], g_names] [] (fun (_ : Unit) => .bool r) (fun _ => []) (fun _ => []) := by
  unfold f_kauditlaw24_DiskOthers at h
  refine t_begin (args := [.slice p1 m2 c3, .int .u8 z1, .slice p4 m5 c6]) Tryd.func3 rfl Tryd.ntmps3 rfl fun c R hR => ?_
  have hQ : ∀ X, X = r → ∀ w2 (_ : Unit), PostG c.w0 w2 c.M c.Y [] [] → R (.returned (.bool X)) w2 := fun X e => by subst e; exact hR
  refine t_seq fun K7 hK8 => ?_
  refine t_region ?_
  refine c_p (r_as rfl) rfl ?_
  refine t_nil ?_
  refine t_then hK8 ?_
  refine t_seq fun K9 hK10 => ?_
  have J42 : ∀ (g37 : Nat) (p38 : Option Addr) (m39 : Nat) (c40 : Nat) (x41 : List Int), f_kauditlaw24_DiskOthers_j2 z1 z2 x41 = some r → T 105 c [vw (kSlice 5 (kInt .u8)) z2 [.slice p4 m5 c6], vw (kSlice 5 (kInt .u8)) x41 [.slice p38 m39 c40], g_names] [[blk g37 [.slice p38 m39 c40, .int .i64 0] 41]] [(1, .int .u8 z1), (2, .slice p4 m5 c6), (7, .pointer (some ⟨g37, 0, none⟩))] K9 := by
    intro g37 p38 m39 c40 x41 h43
    unfold f_kauditlaw24_DiskOthers_j2 at h43
    refine ti hK10 ?_
    refine t_seq fun K44 hK45 => ?_
    refine t_region ?_
    refine c_p (r_mv rfl) rfl ?_
    obtain ⟨y46, hy46, h43⟩ := bs h43
    refine nx (t_ca (C5 _ _ _ _ _ _ _ hy46) Tryd.func5 nm5 rfl rfl rfl (.cons e0 .nil) (fun w Z hA => (V1 a1 hA (V1 a2 hA V0))) rfl fun t47 => ?_)
    refine nx (t_al (cs := [.int .i64 0, .slice none 0 0, .bool false, .int .i64 0]) ti27 rfl rfl fun g48 => ?_)
    refine nx (t_st u0 ti27 rfl rfl rfl rfl rfl (.t (.s (.s (.s (.s .z))))) ?_)
    refine t_nil ?_
    refine t_then hK45 ?_
    refine t_seq fun K49 hK50 => ?_
    refine t_region ?_
    refine c_p (r_mv rfl) rfl ?_
    refine c_p (r_mv rfl) rfl ?_
    refine c_s (r_lnA a1 Tryd.underlying22 rfl) rfl ?_
    refine c_p (r_min rfl rfl) rfl ?_
    obtain ⟨hc51, h43⟩ := ck_out h43
    refine nx (t_cutA (i := 0) (j := (min (z2.length : Int) (50 : Int))) a1 Tryd.underlying22 ti5 rfl (.inl ⟨rfl, rfl⟩) (.inr ⟨_, _, rfl, rfl⟩) hc51 rfl fun t52 => ?_)
    refine c_p (r_as rfl) rfl ?_
    refine t_nil ?_
    refine t_then hK50 ?_
    refine t_seq fun K53 hK54 => ?_
    refine t_region ?_
    refine c_p (r_mv rfl) rfl ?_
    refine c_p (r_mv rfl) rfl ?_
    refine c_p (r_ci Tryd.underlying5 Tryd.underlying3 rfl) rfl ?_
    refine c_p (r_rem rfl rfl (by decide)) rfl ?_
    refine c_s (r_ldA a0 Tryd.underlying27 rfl ti27 rfl rfl) rfl ?_
    refine c_p (r_bu (ps := []) (cs := [.int .i64 0, .slice none 0 0, .bool false, .int .i64 0]) rfl (by kernel_rfl)) rfl ?_
    refine c_p (r_mv rfl) rfl ?_
    obtain ⟨y55, hy55, h43⟩ := bs h43
    refine nx (t_ca (C6 _ _ _ _ _ _ _ _ _ _ _ _ _ _ _ _ _ _ _ _ _ _ hy55) Tryd.func6 nm6 rfl rfl rfl (.cons e1 .nil) (fun w Z hA => (V1 a3 hA (V1 a1 hA (VN 34 (V1 a0 hA (V1 a4 hA V0)))))) rfl fun t56 => ?_)
    refine c_p (r_mv rfl) rfl ?_
    refine c_p (r_ex rfl rfl) rfl ?_
    refine c_p (r_ex rfl rfl) rfl ?_
    refine c_p (r_ex rfl rfl) rfl ?_
    refine c_p (r_ex rfl rfl) rfl ?_
    refine nx (t_al (cs := [.int .i64 0, .slice none 0 0, .bool false, .int .i64 0]) ti27 rfl rfl fun g57 => ?_)
    refine nx (t_al (cs := [.int .i64 0, .slice none 0 0, .bool false, .int .i64 0]) ti27 rfl rfl fun g58 => ?_)
    refine nx (t_st u1 ti27 rfl rfl rfl rfl rfl (.t (.s (.s (.s (.s .z))))) ?_)
    refine c_p (r_as rfl) rfl ?_
    refine nx (t_st u0 ti27 rfl rfl rfl rfl rfl (.t (.s (.s (.s (.s .z))))) ?_)
    refine c_p (r_as rfl) rfl ?_
    refine t_nil ?_
    refine t_then hK54 ?_
    refine t_seq fun K59 hK60 => ?_
    refine t_seq fun K61 hK62 => ?_
    refine t_region ?_
    refine c_p (r_mv rfl) rfl ?_
    refine c_p (r_i rfl rfl rfl) rfl ?_
    refine t_nil ?_
    refine t_then hK62 ?_
    rcases Bool.eq_false_or_eq_true (y55.2.1 != 0) with hb63 | hb63
    · replace h43 := itT hb63 h43
      refine t_T rfl hb63 ?_
      refine t_seq fun K64 hK65 => ?_
      refine t_region ?_
      obtain ⟨y66, hy66, h43⟩ := bs h43
      refine nx (t_ca (C7 _ hy66) Tryd.func7 nm7 rfl rfl rfl .nil (fun w Z hA => (V1 a4 hA V0)) rfl fun t67 => ?_)
      refine c_p (r_as rfl) rfl ?_
      refine t_nil ?_
      refine t_then hK65 ?_
      refine t_ret ?_
      exact tr (ret1 rfl (v_t rfl) (t_leave (hQ _ (Option.some.inj h43)) () rfl (fun w Z hA => V0) .nil))
    · replace h43 := itF hb63 h43
      refine t_F rfl hb63 ?_
      refine t_skip ?_
      refine t_then hK60 ?_
      refine t_seq fun K68 hK69 => ?_
      have J255 : f_kauditlaw24_DiskOthers_j4 y55 = some r → T 105 c [g_names] [[row 34 (kShare k_api_DiskFile) y55.1.Files (.slice t56.1.1 t56.1.2.1 t56.1.2.2)], [blk g57 [.int .i64 y55.1.Room, .slice t56.1.1 t56.1.2.1 t56.1.2.2, .bool y55.1.Off, .int .i64 y55.1.Plan] 27]] [(9, .pointer (some ⟨g57, 0, none⟩))] K68 := by
        intro h256
        unfold f_kauditlaw24_DiskOthers_j4 at h256
        refine ti hK69 ?_
        refine t_seq fun K257 hK258 => ?_
        refine t_region ?_
        refine c_s (r_ldA a1 Tryd.underlying27 rfl ti27 rfl rfl) rfl ?_
        obtain ⟨y259, hy259, h256⟩ := bs h256
        refine nx (t_cf (C10 _ _ _ _ _ hy259) (fun _ => flat_nil) Tryd.func10 nm10 rfl rfl rfl .nil (fun w Z S hA hL => (FLs a0 hL (F1 a0 hA F0))) rfl fun t260 => ?_)
        refine c_p (r_mv rfl) rfl ?_
        rcases Bool.eq_false_or_eq_true y259 with hb261 | hb261
        · replace h256 := itT hb261 h256
          obtain ⟨y262, hy262, h256⟩ := bs h256
          refine nx (gd rfl rfl hb261 (t_ca (C7 _ hy262) Tryd.func7 nm7 rfl rfl rfl .nil (fun w Z hA => (V1 a0 hA V0)) rfl fun t263 => ?_))
          refine c_p (r_pT rfl hb261 rfl) rfl ?_
          refine c_p (r_as rfl) rfl ?_
          refine t_nil ?_
          refine t_then hK258 ?_
          refine t_ret ?_
          exact ret1 rfl (v_t rfl) (t_leave (hQ _ (Option.some.inj h256)) () rfl (fun w Z hA => V0) .nil)
        · replace h256 := itF hb261 h256
          refine nx (pass rfl rfl hb261 rfl ?_)
          refine c_p (r_pF rfl hb261 rfl) rfl ?_
          refine c_p (r_as rfl) rfl ?_
          refine t_nil ?_
          refine t_then hK258 ?_
          refine t_ret ?_
          exact ret1 rfl (v_t rfl) (t_leave (hQ _ (Option.some.inj h256)) () rfl (fun w Z hA => V0) .nil)
      refine t_seq fun K70 hK71 => ?_
      refine t_region ?_
      refine c_p (r_fa (off' := 1) Tryd.underlying27 rfl ti25 rfl rfl) rfl ?_
      refine c_s (r_ld a5 Tryd.underlying25 rfl rfl rfl) rfl ?_
      refine c_s (r_lnA a1 Tryd.underlying25 rfl) rfl ?_
      refine c_p (r_mv rfl) rfl ?_
      refine t_nil ?_
      refine t_then hK71 ?_
      refine t_block ?_
      refine t_lp fun k190 hk191 => ?_
      have LP193 : ∀ (k195 : Nat) (x192 : Int), f_kauditlaw24_DiskOthers_l1 z1 z2 y46 y55 k195 x192 = some r → T 105 c [vw (kSlice 5 (kInt .u8)) (cut z2 0 (min (z2.length : Int) (50 : Int))) [.slice t52.1 t52.2.1 t52.2.2], vw (kSlice 34 k_api_DiskFile) y46.1.Files [.slice t47.1 t47.2.1 t47.2.2], g_names] [[row 34 (kShare k_api_DiskFile) y55.1.Files (.slice t56.1.1 t56.1.2.1 t56.1.2.2)], [blk g57 [.int .i64 y55.1.Room, .slice t56.1.1 t56.1.2.1 t56.1.2.2, .bool y55.1.Off, .int .i64 y55.1.Plan] 27]] [(1, .int .u8 z1), (2, .slice t52.1 t52.2.1 t52.2.2), (9, .pointer (some ⟨g57, 0, none⟩)), (43, .slice t47.1 t47.2.1 t47.2.2), (44, .int .i64 (y46.1.Files.length : Int)), (45, .int .i64 x192)] k190 := by
        intro k195
        induction k195 with
        | zero => intro x192 h194; rewrite [f_kauditlaw24_DiskOthers_l1] at h194; cases h194
        | succ k195 ih196 =>
          intro x192 h194
          rewrite [f_kauditlaw24_DiskOthers_l1] at h194
          refine ti hk191 ?_
          refine t_seq fun K197 hK198 => ?_
          refine t_region ?_
          refine c_p (r_i rfl rfl rfl) rfl ?_
          refine t_nil ?_
          refine t_then hK198 ?_
          refine t_seq fun K199 hK200 => ?_
          rcases Bool.eq_false_or_eq_true (decide (x192 < (y46.1.Files.length : Int))) with hb201 | hb201
          · replace h194 := itT hb201 h194
            refine t_T rfl hb201 ?_
            refine t_skip ?_
            refine t_then hK200 ?_
            refine t_seq fun K202 hK203 => ?_
            refine t_block ?_
            refine t_seq fun K204 hK205 => ?_
            refine t_region ?_
            obtain ⟨el209, hel209, h194⟩ := bs h194
            refine t_q a1 hel209 fun q206 hq207 hm208 => ?_
            refine c_p (r_idx hq207 hm208 hel209 Tryd.underlying25 ti34 rfl rfl) rfl ?_
            refine t_op k_api_DiskFile_opens a1 hel209 fun t210 => ?_
            refine c_s (r_eA a1 hq207 Tryd.underlying34 rfl ti34 rfl rfl) rfl ?_
            refine nx (t_al (cs := [.string (⟨#[]⟩ : ByteArray), .slice none 0 0, .int .i64 0]) ti34 rfl rfl fun g211 => ?_)
            refine nx (t_st u0 ti34 rfl rfl rfl rfl rfl (.t (.s (.s (.s .z)))) ?_)
            refine t_nil ?_
            refine t_then hK205 ?_
            refine t_seq fun K212 hK213 => ?_
            refine t_region ?_
            refine c_s (r_ldA a2 Tryd.underlying27 rfl ti27 rfl rfl) rfl ?_
            refine c_p (r_fa (off' := 0) Tryd.underlying34 rfl ti9 rfl rfl) rfl ?_
            refine c_s (r_ld a0 Tryd.underlying9 rfl rfl rfl) rfl ?_
            obtain ⟨y214, hy214, h194⟩ := bs h194
            refine nx (t_cf (C8 _ _ _ _ _ _ hy214) (fun _ => (flat_cons (indK_slice 5 (indK_int .u8)) flat_nil)) Tryd.func8 nm8 rfl rfl rfl .nil (fun w Z S hA hL => (FLs a1 hL (F1 a4 hA F0))) rfl fun t215 => ?_)
            refine c_p (r_mv rfl) rfl ?_
            refine c_p (r_ex rfl rfl) rfl ?_
            refine c_p (r_ex rfl rfl) rfl ?_
            refine c_p (r_as rfl) rfl ?_
            refine c_p (r_as rfl) rfl ?_
            refine t_nil ?_
            refine t_then hK213 ?_
            refine t_seq fun K216 hK217 => ?_
            have J239 : f_kauditlaw24_DiskOthers_j3 z1 z2 x192 el209 y214 (f_kauditlaw24_DiskOthers_l1 z1 z2 y46 y55 k195) = some r → T 105 c [vw (kSlice 5 (kInt .u8)) (cut z2 0 (min (z2.length : Int) (50 : Int))) [.slice t52.1 t52.2.1 t52.2.2], vw (kSlice 5 (kInt .u8)) el209.Data [.slice t210.1 t210.2.1 t210.2.2], vw (kSlice 34 k_api_DiskFile) y46.1.Files [.slice t47.1 t47.2.1 t47.2.2], g_names] [[row 34 (kShare k_api_DiskFile) y55.1.Files (.slice t56.1.1 t56.1.2.1 t56.1.2.2)], [blk g57 [.int .i64 y55.1.Room, .slice t56.1.1 t56.1.2.1 t56.1.2.2, .bool y55.1.Off, .int .i64 y55.1.Plan] 27], [blk g211 [.string el209.Name, .slice t210.1 t210.2.1 t210.2.2, .int .i64 el209.Safe] 34], [row 5 (kInt .u8) y214.1 (.slice t215.1 t215.2.1 t215.2.2)]] [(1, .int .u8 z1), (2, .slice t52.1 t52.2.1 t52.2.2), (9, .pointer (some ⟨g57, 0, none⟩)), (14, .pointer (some ⟨g211, 0, none⟩)), (15, .slice t215.1 t215.2.1 t215.2.2), (43, .slice t47.1 t47.2.1 t47.2.2), (44, .int .i64 (y46.1.Files.length : Int)), (45, .int .i64 x192)] K216 := by
              intro h240
              unfold f_kauditlaw24_DiskOthers_j3 at h240
              refine ti hK217 ?_
              refine t_seq fun K241 hK242 => ?_
              refine t_region ?_
              refine c_p (r_fa (off' := 0) Tryd.underlying34 rfl ti9 rfl rfl) rfl ?_
              refine c_s (r_ld a2 Tryd.underlying9 rfl rfl rfl) rfl ?_
              refine c_p (r_s rfl rfl rfl) rfl ?_
              refine c_p (r_mv rfl) rfl ?_
              rcases Bool.eq_false_or_eq_true (el209.Name.toList == (⟨#[97]⟩ : ByteArray).toList) with hb243 | hb243
              · replace h240 := itT hb243 h240
                refine nx (gd rfl rfl hb243 (sp (r_mv rfl) rfl ?_))
                refine nx (gd rfl rfl hb243 (sp (r_rem rfl rfl (by decide)) rfl ?_))
                refine nx (gd rfl rfl hb243 (sp (r_i rfl rfl rfl) rfl ?_))
                refine c_p (r_pT rfl hb243 rfl) rfl ?_
                refine c_p (r_mv rfl) rfl ?_
                rcases Bool.eq_false_or_eq_true (((z1 : Int).tmod 6) == 1) with hb244 | hb244
                · replace h240 := itT hb244 h240
                  refine nx (gd rfl rfl hb244 (sp (r_mv rfl) rfl ?_))
                  refine nx (gd rfl rfl hb244 (t_bs (ps := []) (cs := []) Tryd.underlying22 ti5 rfl rfl (by kernel_rfl) rfl fun g245 => ?_))
                  refine nx (gd rfl rfl hb244 (sp (r_fa (off' := 1) Tryd.underlying34 rfl ti22 rfl rfl) rfl ?_))
                  refine nx (gd rfl rfl hb244 (ss (r_ld a3 Tryd.underlying22 rfl rfl rfl) rfl ?_))
                  refine t_tr (Kd := (kInt .u8)) (xs := ([] : List Int)) (.cons e0 .nil) rfl (fun w Z S hA hN => flat_EO (S := Nil) (flatK_int .u8) er0) ?_
                  obtain ⟨hc246, h240⟩ := ck_out h240
                  refine nx (gd rfl rfl hb244 (t_app (Kd := (kInt .u8)) (xs := ([] : List Int)) (ys := el209.Data) (.cons e0 .nil) rfl rfl Tryd.underlying22 Tryd.underlying22 ti5 rfl rfl hc246 (srcA (flatK_int .u8) a1) rfl fun t247 => ?_))
                  refine nx (gd rfl rfl hb244 (sp (r_mv rfl) rfl ?_))
                  obtain ⟨hc248, h240⟩ := ck_out h240
                  refine nx (gd rfl rfl hb244 (t_app (Kd := (kInt .u8)) (xs := (([] : List Int) ++ el209.Data)) (ys := (cut z2 0 (min (z2.length : Int) (50 : Int)))) (.cons e0 .nil) rfl rfl Tryd.underlying22 Tryd.underlying22 ti5 rfl rfl hc248 (srcA (flatK_int .u8) a0) rfl fun t249 => ?_))
                  obtain ⟨y250, hy250, h240⟩ := bs h240
                  refine nx (gd rfl rfl hb244 (t_cf (C9 _ _ _ _ _ _ _ _ _ hy250) (fun _ => flat_nil) Tryd.func9 nm9 rfl rfl rfl .nil (fun w Z S hA hL => (FL a4 hL (FL a0 hL (F1 a3 hA F0)))) rfl fun t251 => ?_))
                  refine nx (gd rfl rfl hb244 (sp (r_not rfl) rfl ?_))
                  refine c_p (r_pT rfl hb244 rfl) rfl ?_
                  refine t_nil ?_
                  refine t_then hK242 ?_
                  rcases Bool.eq_false_or_eq_true y250 with hb252 | hb252
                  · replace h240 := itT hb252 h240
                    refine t_F rfl (congrArg Bool.not hb252) ?_
                    refine t_skip ?_
                    refine t_blockN ?_
                    refine t_then hK203 ?_
                    refine t_region ?_
                    refine c_p (r_i rfl rfl rfl) rfl ?_
                    refine c_p (r_mv rfl) rfl ?_
                    refine t_nil ?_
                    exact t_norm (t_go (ih196 (IntKind.wrap .i64 (x192 + 1)) h240) ⟨rfl, rfl, rfl, rfl, rfl, rfl, trivial⟩ (.cons e1 (.cons e1 .nil)) (fun w Z hA => V1 a0 hA (V1 a2 hA (V1 a3 hA (V0)))))
                  · replace h240 := itF hb252 h240
                    refine t_T rfl (congrArg Bool.not hb252) ?_
                    refine t_seq fun K253 hK254 => ?_
                    refine t_region ?_
                    refine c_p (r_as rfl) rfl ?_
                    refine t_nil ?_
                    refine t_then hK254 ?_
                    refine t_ret ?_
                    exact br (tr (tr (br (tr (ret1 rfl (v_t rfl) (t_leave (hQ _ (Option.some.inj h240)) () rfl (fun w Z hA => V0) .nil))))))
                · replace h240 := itF hb244 h240
                  refine nx (pass rfl rfl hb244 rfl ?_)
                  refine nx (pass rfl rfl hb244 rfl ?_)
                  refine nx (pass rfl rfl hb244 rfl ?_)
                  refine nx (pass rfl rfl hb244 rfl ?_)
                  refine nx (pass rfl rfl hb244 rfl ?_)
                  refine nx (pass rfl rfl hb244 rfl ?_)
                  refine nx (pass rfl rfl hb244 rfl ?_)
                  refine nx (pass rfl rfl hb244 rfl ?_)
                  refine nx (pass rfl rfl hb244 rfl ?_)
                  refine c_p (r_pF rfl hb244 rfl) rfl ?_
                  refine t_nil ?_
                  refine t_then hK242 ?_
                  refine t_F rfl rfl ?_
                  refine t_skip ?_
                  refine t_blockN ?_
                  refine t_then hK203 ?_
                  refine t_region ?_
                  refine c_p (r_i rfl rfl rfl) rfl ?_
                  refine c_p (r_mv rfl) rfl ?_
                  refine t_nil ?_
                  exact t_norm (t_go (ih196 (IntKind.wrap .i64 (x192 + 1)) h240) ⟨rfl, rfl, rfl, rfl, rfl, rfl, trivial⟩ (.cons e0 (.cons e0 .nil)) (fun w Z hA => V1 a0 hA (V1 a2 hA (V1 a3 hA (V0)))))
              · replace h240 := itF hb243 h240
                refine nx (pass rfl rfl hb243 rfl ?_)
                refine nx (pass rfl rfl hb243 rfl ?_)
                refine nx (pass rfl rfl hb243 rfl ?_)
                refine c_p (r_pF rfl hb243 rfl) rfl ?_
                refine c_p (r_mv rfl) rfl ?_
                refine nx (pass rfl rfl rfl rfl ?_)
                refine nx (pass rfl rfl rfl rfl ?_)
                refine nx (pass rfl rfl rfl rfl ?_)
                refine nx (pass rfl rfl rfl rfl ?_)
                refine nx (pass rfl rfl rfl rfl ?_)
                refine nx (pass rfl rfl rfl rfl ?_)
                refine nx (pass rfl rfl rfl rfl ?_)
                refine nx (pass rfl rfl rfl rfl ?_)
                refine nx (pass rfl rfl rfl rfl ?_)
                refine c_p (r_pF rfl rfl rfl) rfl ?_
                refine t_nil ?_
                refine t_then hK242 ?_
                refine t_F rfl rfl ?_
                refine t_skip ?_
                refine t_blockN ?_
                refine t_then hK203 ?_
                refine t_region ?_
                refine c_p (r_i rfl rfl rfl) rfl ?_
                refine c_p (r_mv rfl) rfl ?_
                refine t_nil ?_
                exact t_norm (t_go (ih196 (IntKind.wrap .i64 (x192 + 1)) h240) ⟨rfl, rfl, rfl, rfl, rfl, rfl, trivial⟩ (.cons e0 (.cons e0 .nil)) (fun w Z hA => V1 a0 hA (V1 a2 hA (V1 a3 hA (V0)))))
            refine t_seq fun K218 hK219 => ?_
            refine t_region ?_
            refine c_p (r_fa (off' := 0) Tryd.underlying34 rfl ti9 rfl rfl) rfl ?_
            refine c_s (r_ld a1 Tryd.underlying9 rfl rfl rfl) rfl ?_
            refine c_p (r_s rfl rfl rfl) rfl ?_
            refine c_p (r_mv rfl) rfl ?_
            rcases Bool.eq_false_or_eq_true (el209.Name.toList == (⟨#[97]⟩ : ByteArray).toList) with hb220 | hb220
            · replace h194 := itT hb220 h194
              refine nx (pass rfl rfl (congrArg Bool.not hb220) rfl ?_)
              refine nx (pass rfl rfl (congrArg Bool.not hb220) rfl ?_)
              refine nx (pass rfl rfl (congrArg Bool.not hb220) rfl ?_)
              refine nx (pass rfl rfl (congrArg Bool.not hb220) rfl ?_)
              refine nx (passU rfl rfl rfl ?_)
              refine nx (passU rfl rfl rfl ?_)
              refine nx (passU rfl rfl rfl ?_)
              refine nx (pass rfl rfl (congrArg Bool.not hb220) rfl ?_)
              refine c_p (r_pF rfl (congrArg Bool.not hb220) rfl) rfl ?_
              refine c_p (r_mv rfl) rfl ?_
              refine nx (pass rfl rfl rfl rfl ?_)
              refine nx (pass rfl rfl rfl rfl ?_)
              refine nx (pass rfl rfl rfl rfl ?_)
              refine nx (passU rfl rfl rfl ?_)
              refine nx (passU rfl rfl rfl ?_)
              refine nx (passU rfl rfl rfl ?_)
              refine nx (passU rfl rfl rfl ?_)
              refine nx (passU rfl rfl rfl ?_)
              refine nx (pass rfl rfl rfl rfl ?_)
              refine c_p (r_pF rfl rfl rfl) rfl ?_
              refine t_nil ?_
              refine t_then hK219 ?_
              refine t_F rfl rfl ?_
              refine t_skip ?_
              exact t_norm (t_go (J239 h194) ⟨rfl, rfl, rfl, rfl, rfl, rfl, rfl, rfl, trivial⟩ (.cons e2 (.cons e2 (.cons e1 (.cons e0 .nil)))) (fun w Z hA => V1 a2 hA (V1 a0 hA (V1 a3 hA (V1 a4 hA (V0))))))
            · replace h194 := itF hb220 h194
              refine nx (gd rfl rfl (congrArg Bool.not hb220) (sp (r_fa (off' := 0) Tryd.underlying34 rfl ti9 rfl rfl) rfl ?_))
              refine nx (gd rfl rfl (congrArg Bool.not hb220) (ss (r_ld a1 Tryd.underlying9 rfl rfl rfl) rfl ?_))
              refine nx (gd rfl rfl (congrArg Bool.not hb220) (sp (r_s rfl rfl rfl) rfl ?_))
              refine nx (gd rfl rfl (congrArg Bool.not hb220) (sp (r_mv rfl) rfl ?_))
              rcases Bool.eq_false_or_eq_true (el209.Name.toList == (⟨#[98, 46, 122]⟩ : ByteArray).toList) with hb221 | hb221
              · replace h194 := itT hb221 h194
                refine nx (gd rfl rfl (congrArg Bool.not hb221) (sp (r_mv rfl) rfl ?_))
                refine nx (gd rfl rfl (congrArg Bool.not hb221) (sp (r_rem rfl rfl (by decide)) rfl ?_))
                refine nx (gd rfl rfl (congrArg Bool.not hb221) (sp (r_i rfl rfl rfl) rfl ?_))
                refine nx (gd rfl rfl (congrArg Bool.not hb220) (sp (r_pF rfl (congrArg Bool.not hb221) rfl) rfl ?_))
                refine c_p (r_pT rfl (congrArg Bool.not hb220) rfl) rfl ?_
                refine c_p (r_mv rfl) rfl ?_
                rcases Bool.eq_false_or_eq_true (((z1 : Int).tmod 6) != 4) with hb222 | hb222
                · replace h194 := itT hb222 h194
                  refine nx (gd rfl rfl hb222 (sp (r_mv rfl) rfl ?_))
                  refine nx (gd rfl rfl hb222 (sp (r_not rfl) rfl ?_))
                  refine nx (gd rfl rfl hb222 (sp (r_mv rfl) rfl ?_))
                  rcases Bool.eq_false_or_eq_true y214.2 with hb223 | hb223
                  · replace h194 := itT hb223 h194
                    refine nx (gd rfl rfl (congrArg Bool.not hb223) (sp (r_mv rfl) rfl ?_))
                    refine nx (gd rfl rfl (congrArg Bool.not hb223) (sp (r_fa (off' := 1) Tryd.underlying34 rfl ti22 rfl rfl) rfl ?_))
                    refine nx (gd rfl rfl (congrArg Bool.not hb223) (ss (r_ld a1 Tryd.underlying22 rfl rfl rfl) rfl ?_))
                    obtain ⟨y225, hy225, h194⟩ := bs h194
                    refine nx (gd rfl rfl (congrArg Bool.not hb223) (t_cf (C9 _ _ _ _ _ _ _ _ _ hy225) (fun _ => flat_nil) Tryd.func9 nm9 rfl rfl rfl .nil (fun w Z S hA hL => (FL a0 hL (F1 a0 hA (F1 a4 hA F0)))) rfl fun t226 => ?_))
                    refine nx (gd rfl rfl (congrArg Bool.not hb223) (sp (r_not rfl) rfl ?_))
                    refine nx (gd rfl rfl hb222 (sp (r_pF rfl (congrArg Bool.not hb223) rfl) rfl ?_))
                    refine c_p (r_pT rfl hb222 rfl) rfl ?_
                    refine t_nil ?_
                    refine t_then hK219 ?_
                    rcases Bool.eq_false_or_eq_true y225 with hb229 | hb229
                    · replace h194 := itT hb229 h194
                      refine t_F rfl (congrArg Bool.not hb229) ?_
                      refine t_skip ?_
                      exact t_norm (t_go (J239 h194) ⟨rfl, rfl, rfl, rfl, rfl, rfl, rfl, rfl, trivial⟩ (.cons e2 (.cons e2 (.cons e1 (.cons e0 .nil)))) (fun w Z hA => V1 a2 hA (V1 a0 hA (V1 a3 hA (V1 a4 hA (V0))))))
                    · replace h194 := itF hb229 h194
                      refine t_T rfl (congrArg Bool.not hb229) ?_
                      refine t_seq fun K230 hK231 => ?_
                      refine t_region ?_
                      refine c_p (r_as rfl) rfl ?_
                      refine t_nil ?_
                      refine t_then hK231 ?_
                      refine t_ret ?_
                      exact tr (br (tr (tr (br (tr (ret1 rfl (v_t rfl) (t_leave (hQ _ (Option.some.inj h194)) () rfl (fun w Z hA => V0) .nil)))))))
                  · replace h194 := itF hb223 h194
                    refine nx (pass rfl rfl (congrArg Bool.not hb223) rfl ?_)
                    refine nx (pass rfl rfl (congrArg Bool.not hb223) rfl ?_)
                    refine nx (pass rfl rfl (congrArg Bool.not hb223) rfl ?_)
                    refine nx (pass rfl rfl (congrArg Bool.not hb223) rfl ?_)
                    refine nx (pass rfl rfl (congrArg Bool.not hb223) rfl ?_)
                    refine nx (gd rfl rfl hb222 (sp (r_pT rfl (congrArg Bool.not hb223) rfl) rfl ?_))
                    refine c_p (r_pT rfl hb222 rfl) rfl ?_
                    refine t_nil ?_
                    refine t_then hK219 ?_
                    refine t_T rfl rfl ?_
                    refine t_seq fun K235 hK236 => ?_
                    refine t_region ?_
                    refine c_p (r_as rfl) rfl ?_
                    refine t_nil ?_
                    refine t_then hK236 ?_
                    refine t_ret ?_
                    exact tr (br (tr (tr (br (tr (ret1 rfl (v_t rfl) (t_leave (hQ _ (Option.some.inj h194)) () rfl (fun w Z hA => V0) .nil)))))))
                · replace h194 := itF hb222 h194
                  refine nx (pass rfl rfl hb222 rfl ?_)
                  refine nx (pass rfl rfl hb222 rfl ?_)
                  refine nx (pass rfl rfl hb222 rfl ?_)
                  refine nx (passU rfl rfl rfl ?_)
                  refine nx (passU rfl rfl rfl ?_)
                  refine nx (passU rfl rfl rfl ?_)
                  refine nx (passU rfl rfl rfl ?_)
                  refine nx (passU rfl rfl rfl ?_)
                  refine nx (pass rfl rfl hb222 rfl ?_)
                  refine c_p (r_pF rfl hb222 rfl) rfl ?_
                  refine t_nil ?_
                  refine t_then hK219 ?_
                  refine t_F rfl rfl ?_
                  refine t_skip ?_
                  exact t_norm (t_go (J239 h194) ⟨rfl, rfl, rfl, rfl, rfl, rfl, rfl, rfl, trivial⟩ (.cons e2 (.cons e2 (.cons e1 (.cons e0 .nil)))) (fun w Z hA => V1 a2 hA (V1 a0 hA (V1 a3 hA (V1 a4 hA (V0))))))
              · replace h194 := itF hb221 h194
                refine nx (pass rfl rfl (congrArg Bool.not hb221) rfl ?_)
                refine nx (pass rfl rfl (congrArg Bool.not hb221) rfl ?_)
                refine nx (pass rfl rfl (congrArg Bool.not hb221) rfl ?_)
                refine nx (gd rfl rfl (congrArg Bool.not hb220) (sp (r_pT rfl (congrArg Bool.not hb221) rfl) rfl ?_))
                refine c_p (r_pT rfl (congrArg Bool.not hb220) rfl) rfl ?_
                refine c_p (r_mv rfl) rfl ?_
                refine nx (gd rfl rfl rfl (sp (r_mv rfl) rfl ?_))
                refine nx (gd rfl rfl rfl (sp (r_not rfl) rfl ?_))
                refine nx (gd rfl rfl rfl (sp (r_mv rfl) rfl ?_))
                rcases Bool.eq_false_or_eq_true y214.2 with hb224 | hb224
                · replace h194 := itT hb224 h194
                  refine nx (gd rfl rfl (congrArg Bool.not hb224) (sp (r_mv rfl) rfl ?_))
                  refine nx (gd rfl rfl (congrArg Bool.not hb224) (sp (r_fa (off' := 1) Tryd.underlying34 rfl ti22 rfl rfl) rfl ?_))
                  refine nx (gd rfl rfl (congrArg Bool.not hb224) (ss (r_ld a1 Tryd.underlying22 rfl rfl rfl) rfl ?_))
                  obtain ⟨y227, hy227, h194⟩ := bs h194
                  refine nx (gd rfl rfl (congrArg Bool.not hb224) (t_cf (C9 _ _ _ _ _ _ _ _ _ hy227) (fun _ => flat_nil) Tryd.func9 nm9 rfl rfl rfl .nil (fun w Z S hA hL => (FL a0 hL (F1 a0 hA (F1 a4 hA F0)))) rfl fun t228 => ?_))
                  refine nx (gd rfl rfl (congrArg Bool.not hb224) (sp (r_not rfl) rfl ?_))
                  refine nx (gd rfl rfl rfl (sp (r_pF rfl (congrArg Bool.not hb224) rfl) rfl ?_))
                  refine c_p (r_pT rfl rfl rfl) rfl ?_
                  refine t_nil ?_
                  refine t_then hK219 ?_
                  rcases Bool.eq_false_or_eq_true y227 with hb232 | hb232
                  · replace h194 := itT hb232 h194
                    refine t_F rfl (congrArg Bool.not hb232) ?_
                    refine t_skip ?_
                    exact t_norm (t_go (J239 h194) ⟨rfl, rfl, rfl, rfl, rfl, rfl, rfl, rfl, trivial⟩ (.cons e2 (.cons e2 (.cons e1 (.cons e0 .nil)))) (fun w Z hA => V1 a2 hA (V1 a0 hA (V1 a3 hA (V1 a4 hA (V0))))))
                  · replace h194 := itF hb232 h194
                    refine t_T rfl (congrArg Bool.not hb232) ?_
                    refine t_seq fun K233 hK234 => ?_
                    refine t_region ?_
                    refine c_p (r_as rfl) rfl ?_
                    refine t_nil ?_
                    refine t_then hK234 ?_
                    refine t_ret ?_
                    exact tr (br (tr (tr (br (tr (ret1 rfl (v_t rfl) (t_leave (hQ _ (Option.some.inj h194)) () rfl (fun w Z hA => V0) .nil)))))))
                · replace h194 := itF hb224 h194
                  refine nx (pass rfl rfl (congrArg Bool.not hb224) rfl ?_)
                  refine nx (pass rfl rfl (congrArg Bool.not hb224) rfl ?_)
                  refine nx (pass rfl rfl (congrArg Bool.not hb224) rfl ?_)
                  refine nx (pass rfl rfl (congrArg Bool.not hb224) rfl ?_)
                  refine nx (pass rfl rfl (congrArg Bool.not hb224) rfl ?_)
                  refine nx (gd rfl rfl rfl (sp (r_pT rfl (congrArg Bool.not hb224) rfl) rfl ?_))
                  refine c_p (r_pT rfl rfl rfl) rfl ?_
                  refine t_nil ?_
                  refine t_then hK219 ?_
                  refine t_T rfl rfl ?_
                  refine t_seq fun K237 hK238 => ?_
                  refine t_region ?_
                  refine c_p (r_as rfl) rfl ?_
                  refine t_nil ?_
                  refine t_then hK238 ?_
                  refine t_ret ?_
                  exact tr (br (tr (tr (br (tr (ret1 rfl (v_t rfl) (t_leave (hQ _ (Option.some.inj h194)) () rfl (fun w Z hA => V0) .nil)))))))
          · replace h194 := itF hb201 h194
            refine t_F rfl hb201 ?_
            refine t_exit ?_
            refine te (te (bx ?_))
            exact t_norm (t_go (J255 h194) ⟨rfl, trivial⟩ (.cons e0 (.cons e0 .nil)) (fun w Z hA => V1 a2 hA (V0)))
      exact t_go (LP193 ((((y46.1.Files.length : Int) : Int) - (0)).toNat + 1) 0 h43) ⟨rfl, rfl, rfl, rfl, rfl, rfl, trivial⟩ (.cons e3 (.cons e1 .nil)) (fun w Z hA => V1 a0 hA (V1 a1 hA (V1 a4 hA (V0))))
  refine t_region ?_
  refine c_p (r_mv rfl) rfl ?_
  refine nx (t_in (args := [.slice p1 m2 c3, .int .i64 300]) (cap := []) (all := [.slice p1 m2 c3, .int .i64 300]) rfl rfl Tryd.func4 nm4 rfl rfl rfl Tryd.ntmps4 rfl fun R11 k12 hk13 hR14 => ?_)
  have J35 : ∀ (g30 : Nat) (p31 : Option Addr) (m32 : Nat) (c33 : Nat) (x34 : List Int), f_kauditlaw24_DiskOthers_j1 z1 z2 x34 = some r → T 105 c [vw (kSlice 5 (kInt .u8)) z2 [.slice p4 m5 c6], vw (kSlice 5 (kInt .u8)) x34 [.slice p31 m32 c33], g_names] [[blk g30 [.slice p31 m32 c33, .int .i64 0] 41]] [(1, .int .u8 z1), (2, .slice p4 m5 c6), (18, .pointer (some ⟨g30, 0, none⟩))] k12 := by
    intro g30 p31 m32 c33 x34 h36
    unfold f_kauditlaw24_DiskOthers_j1 at h36
    refine ti hk13 ?_
    refine c_p (r_as rfl) rfl ?_
    refine t_nil ?_
    exact t_norm (t_go (J42 g30 p31 m32 c33 x34 h36) ⟨rfl, rfl, rfl, trivial⟩ (.cons e0 .nil) (fun w Z hA => V1 a0 hA (V1 a1 hA (V1 a2 hA (V0)))))
  refine t_seq fun K15 hK16 => ?_
  refine t_region ?_
  refine c_p (r_as rfl) rfl ?_
  refine t_nil ?_
  refine t_then hK16 ?_
  refine t_seq fun K17 hK18 => ?_
  refine t_seq fun K19 hK20 => ?_
  refine t_region ?_
  refine c_p (r_mv rfl) rfl ?_
  refine c_s (r_lnA a0 Tryd.underlying22 rfl) rfl ?_
  refine c_p (r_mv rfl) rfl ?_
  refine c_p (r_i rfl rfl rfl) rfl ?_
  refine t_nil ?_
  refine t_then hK20 ?_
  rcases Bool.eq_false_or_eq_true (decide ((z0.length : Int) > 300)) with hb21 | hb21
  · replace h := itT hb21 h
    refine t_T rfl hb21 ?_
    refine t_region ?_
    refine c_p (r_mv rfl) rfl ?_
    refine c_p (r_mv rfl) rfl ?_
    obtain ⟨hc22, h⟩ := ck_out h
    refine nx (t_cutA (i := 0) (j := 300) a0 Tryd.underlying22 ti5 rfl (.inl ⟨rfl, rfl⟩) (.inr ⟨_, _, rfl, rfl⟩) hc22 rfl fun t23 => ?_)
    refine c_p (r_as rfl) rfl ?_
    refine t_nil ?_
    refine t_then hK18 ?_
    refine t_seq fun K24 hK25 => ?_
    refine t_region ?_
    refine c_p (r_mv rfl) rfl ?_
    refine c_p (r_bu (ps := [(0, .slice t23.1 t23.2.1 t23.2.2)]) (cs := [.slice t23.1 t23.2.1 t23.2.2, .int .i64 0]) rfl (by kernel_rfl)) rfl ?_
    refine nx (t_bx (cs := [.slice t23.1 t23.2.1 t23.2.2, .int .i64 0]) rfl rfl rfl fun g26 => ?_)
    refine c_p (r_as rfl) rfl ?_
    refine t_nil ?_
    refine t_then hK25 ?_
    refine t_ret ?_
    refine ret1 rfl (v_t rfl) (t_bk hR14 ?_)
    exact t_go (J35 g26 t23.1 t23.2.1 t23.2.2 (cut z0 0 300) h) ⟨rfl, rfl, rfl, trivial⟩ (.cons e0 .nil) (fun w Z hA => V1 a2 hA (V1 a0 hA (V1 a3 hA (V0))))
  · replace h := itF hb21 h
    refine t_F rfl hb21 ?_
    refine t_skip ?_
    refine t_then hK18 ?_
    refine t_seq fun K27 hK28 => ?_
    refine t_region ?_
    refine c_p (r_mv rfl) rfl ?_
    refine c_p (r_bu (ps := [(0, .slice p1 m2 c3)]) (cs := [.slice p1 m2 c3, .int .i64 0]) rfl (by kernel_rfl)) rfl ?_
    refine nx (t_bx (cs := [.slice p1 m2 c3, .int .i64 0]) rfl rfl rfl fun g29 => ?_)
    refine c_p (r_as rfl) rfl ?_
    refine t_nil ?_
    refine t_then hK28 ?_
    refine t_ret ?_
    refine ret1 rfl (v_t rfl) (t_bk hR14 ?_)
    exact t_go (J35 g29 p1 m2 c3 z0 h) ⟨rfl, rfl, rfl, trivial⟩ (.cons e0 .nil) (fun w Z hA => V1 a1 hA (V1 a0 hA (V1 a2 hA (V0))))
end Go.Proofs.YtkjeedijloobgaaDoor.Gx

/- DiskOthers, as a plain law: a change leaves all files alone but those that it names, and appended bytes come after the others. -/
set_option linter.unusedVariables false
set_option maxRecDepth 100000
namespace Go.Proofs.YtkjeedijloobgaaDoor.Gx
open Go.Gx Go.RowKit
def nA : ByteArray := ⟨#[97]⟩
def nB : ByteArray := ⟨#[98, 46, 122]⟩
def nL : ByteArray := ⟨#[108, 111, 103, 45, 48, 48, 48, 49]⟩
theorem nmA : Nm nA := by unfold Nm; kernel_rfl
theorem nmB : Nm nB := by unfold Nm; kernel_rfl
theorem nmL : Nm nL := by unfold Nm; kernel_rfl
def Three (s : ByteArray) : Prop := s = nA ∨ s = nB ∨ s = nL
theorem Three.nm {s : ByteArray} (h : Three s) : Nm s := by rcases h with rfl | rfl | rfl <;> first | exact nmA | exact nmB | exact nmL
theorem three_ref {s : ByteArray} (h : Three s) : f_kauditref24_name s = some true := by rcases h with rfl | rfl | rfl <;> kernel_rfl
theorem ref_begin {s t : ByteArray} (hs : Three s) (ht : Three t) : f_kauditref24_begin E0 s t = some (E0, 0) := by
  unfold f_kauditref24_begin
  exact bind_of (show f_kauditref24_Valid E0 = some true from rfl) (ite_t rfl (ite_f rfl (bind_of (three_ref hs) (ite_t rfl (bind_of (three_ref ht) (ite_t rfl rfl))))))
theorem ref_find (s : ByteArray) : f_kauditref24_find E0 s = some (-1) := rfl
theorem ref_copy : f_kauditref24_Copy E0 = some E0 := rfl
theorem ref_power : f_kauditref24_power E0 = some (E0, false) := rfl
theorem ref_Create {s : ByteArray} (hs : Three s) : ∃ y, f_kauditref24_Create E0 s = some y := by
  unfold f_kauditref24_Create
  exact ⟨_, bind_of (ref_begin hs hs) (ite_f rfl (bind_of (ref_find s) (ite_f rfl (ite_f rfl (bind_of ref_copy (bind_of ref_power (ite_f rfl (bind_of (show f_kauditref24_with [] ⟨s, [], 0⟩ = some [⟨s, [], 0⟩] from rfl) rfl))))))))⟩
theorem ref_Append {s : ByteArray} (hs : Three s) (b : List Int) : ∃ y, f_kauditref24_Append E0 s b = some y := by
  unfold f_kauditref24_Append
  exact ⟨_, bind_of (ref_begin hs hs) (ite_f rfl (bind_of (ref_find s) (ite_t rfl rfl)))⟩
theorem ref_Sync {s : ByteArray} (hs : Three s) : ∃ y, f_kauditref24_Sync E0 s = some y := by
  unfold f_kauditref24_Sync
  exact ⟨_, bind_of (ref_begin hs hs) (ite_f rfl (bind_of (ref_find s) (ite_t rfl rfl)))⟩
theorem ref_Truncate {s : ByteArray} (hs : Three s) (n : Int) : ∃ y, f_kauditref24_Truncate E0 s n = some y := by
  unfold f_kauditref24_Truncate
  exact ⟨_, bind_of (ref_begin hs hs) (ite_f rfl (bind_of (ref_find s) (ite_t rfl rfl)))⟩
theorem ref_Rename {s t : ByteArray} (hs : Three s) (ht : Three t) : ∃ y, f_kauditref24_Rename E0 s t = some y := by
  unfold f_kauditref24_Rename
  exact ⟨_, bind_of (ref_begin hs ht) (ite_f rfl (bind_of (ref_find s) (ite_t rfl rfl)))⟩
theorem ref_Remove {s : ByteArray} (hs : Three s) : ∃ y, f_kauditref24_Remove E0 s = some y := by
  unfold f_kauditref24_Remove
  exact ⟨_, bind_of (ref_begin hs hs) (ite_f rfl (bind_of (ref_find s) (ite_t rfl rfl)))⟩
/-- What a change leaves. -/
structure Left (d x : api_Disk) (k : Int) (nm to : ByteArray) (b : List Int) : Prop where
  inv : Inv x
  room : x.Room = d.Room
  rest : ∀ f ∈ d.Files, f.Name ≠ nm → (k = 4 → f.Name ≠ to) → f ∈ x.Files
  app : k = 1 → ∀ f ∈ d.Files, f.Name = nm → (⟨f.Name, f.Data ++ b, f.Safe⟩ : api_DiskFile) ∈ x.Files
theorem j1_eq (a b : api_Disk) (e f z : Int) : f_kauditlaw24_change_j1 a.Room a.Files a.Off a.Plan b.Room b.Files b.Off b.Plan e f z = some (a, e, b, f, z) := rfl
theorem change_ok {d : api_Disk} (I : Inv d) {cs : List Int} {a k n : Int} (hk0 : 0 ≤ k) (hk : k < 6) {nm to : ByteArray} (hn : Three nm) (ht : Three to) {b : List Int} (hb : b.length < 1000000) :
    ∃ x e y f, f_kauditlaw24_change ⟨cs, a⟩ k d E0 nm to b n = some (x, e, y, f, a) ∧ (e = 0 → Left d x k nm to b) := by
  unfold f_kauditlaw24_change
  have hk' : k = 0 ∨ k = 1 ∨ k = 2 ∨ k = 3 ∨ k = 4 ∨ k = 5 := by omega
  rcases hk' with rfl | rfl | rfl | rfl | rfl | rfl
  · obtain ⟨y, hy⟩ := ref_Create hn
    refine ⟨_, _, _, _, ite_t rfl (bind_of (Create_ok I hn.nm) (bind_of hy (j1_eq _ _ _ _ _))), ?_⟩
    split
    · intro h; cases h
    · rename_i hh
      split
      · intro h; cases h
      · rename_i h24
        refine fun _ => ⟨Create_inv I hn.nm (by omega), rfl, fun f hf hne _ => ?_, by omega⟩
        exact (plc_mem I.sorted f).2 (.inr ⟨hf, hne⟩)
  · obtain ⟨y, hy⟩ := ref_Append hn b
    refine ⟨_, _, _, _, ite_f rfl (ite_t rfl (bind_of (Append_ok I hn.nm hb) (bind_of hy (j1_eq _ _ _ _ _)))), ?_⟩
    cases hh : hasN d nm with
    | false =>
      have : ∀ f ∈ d.Files, f.Name ≠ nm := fun f hf e => by rw [hasN_t hf e] at hh; cases hh
      rw [found_none this]; intro h; cases h
    | true =>
      obtain ⟨f, hf, e⟩ := hasN_get hh
      rw [found_some I.sorted hf e]
      split
      · intro h; cases h
      · rename_i hr
        exact fun _ => ⟨Append_inv I hf e (by omega), rfl, fun f' hf' hne _ => mem_upd hf' hne, fun _ f' hf' e' => mem_upd' (g := fun f => ⟨f.Name, f.Data ++ b, f.Safe⟩) hf' e'⟩
  · obtain ⟨y, hy⟩ := ref_Sync hn
    refine ⟨_, _, _, _, ite_f rfl (ite_f rfl (ite_t rfl (bind_of (Sync_ok I hn.nm) (bind_of hy (j1_eq _ _ _ _ _))))), ?_⟩
    cases hh : hasN d nm with
    | false =>
      have : ∀ f ∈ d.Files, f.Name ≠ nm := fun f hf e => by rw [hasN_t hf e] at hh; cases hh
      rw [found_none this]; intro h; cases h
    | true =>
      obtain ⟨f, hf, e⟩ := hasN_get hh
      rw [found_some I.sorted hf e]
      exact fun _ => ⟨Sync_inv I hf e, rfl, fun f' hf' hne _ => mem_upd hf' hne, by omega⟩
  · obtain ⟨y, hy⟩ := ref_Truncate hn n
    refine ⟨_, _, _, _, ite_f rfl (ite_f rfl (ite_f rfl (ite_t rfl (bind_of (Truncate_ok I hn.nm n) (bind_of hy (j1_eq _ _ _ _ _)))))), ?_⟩
    cases hh : hasN d nm with
    | false =>
      have : ∀ f ∈ d.Files, f.Name ≠ nm := fun f hf e => by rw [hasN_t hf e] at hh; cases hh
      rw [found_none this]; intro h; cases h
    | true =>
      obtain ⟨f, hf, e⟩ := hasN_get hh
      rw [found_some I.sorted hf e]
      split
      · intro h; cases h
      · rename_i hr
        exact fun _ => ⟨Truncate_inv I hf e (by omega) (by omega), rfl, fun f' hf' hne _ => mem_upd hf' hne, by omega⟩
  · obtain ⟨y, hy⟩ := ref_Rename hn ht
    refine ⟨_, _, _, _, ite_f rfl (ite_f rfl (ite_f rfl (ite_f rfl (ite_t rfl (bind_of (Rename_ok I hn.nm ht.nm) (bind_of hy (j1_eq _ _ _ _ _))))))), ?_⟩
    cases hh : hasN d nm with
    | false =>
      have : ∀ f ∈ d.Files, f.Name ≠ nm := fun f hf e => by rw [hasN_t hf e] at hh; cases hh
      rw [found_none this]; intro h; cases h
    | true =>
      obtain ⟨f, hf, e⟩ := hasN_get hh
      rw [found_some I.sorted hf e]
      subst e
      refine fun _ => ⟨Rename_inv I hf ht.nm, rfl, fun f' hf' hne hto => ?_, by omega⟩
      exact (plc_mem (del_sorted I.sorted _) f').2 (.inr ⟨mem_del hf' hne, hto rfl⟩)
  · obtain ⟨y, hy⟩ := ref_Remove hn
    refine ⟨_, _, _, _, ite_f rfl (ite_f rfl (ite_f rfl (ite_f rfl (ite_f rfl (ite_t rfl (bind_of (Remove_ok I hn.nm) (bind_of hy (j1_eq _ _ _ _ _)))))))), ?_⟩
    cases hh : hasN d nm with
    | false =>
      have : ∀ f ∈ d.Files, f.Name ≠ nm := fun f hf e => by rw [hasN_t hf e] at hh; cases hh
      rw [found_none this]; intro h; cases h
    | true =>
      obtain ⟨f, hf, e⟩ := hasN_get hh
      rw [found_some I.sorted hf e]
      exact fun _ => ⟨I.del nm, rfl, fun f' hf' hne _ => mem_del hf' hne, by omega⟩
theorem pick3 {i : Int} (h0 : 0 ≤ i) (h : i < 3) : ∃ s, at_ t_names i = some s ∧ Three s := by
  have : i = 0 ∨ i = 1 ∨ i = 2 := by omega
  rcases this with rfl | rfl | rfl
  · exact ⟨nA, rfl, .inl rfl⟩
  · exact ⟨nL, rfl, .inr (.inr rfl)⟩
  · exact ⟨nB, rfl, .inr (.inl rfl)⟩
theorem made_loop {cs : List Int} (at0 : Int) : ∀ (k n : Nat) (a : Int) (d : api_Disk), n < k → n < 1000 → COk cs a → Inv d →
    ∃ x a', f_kauditlaw24_made_l1 ⟨cs, at0⟩ k a n d.Room d.Files d.Off d.Plan = some (x, a') ∧ Inv x ∧ COk cs a' := by
  intro k
  induction k with
  | zero => intro n a d h; omega
  | succ k ih =>
    intro n a d hn hn2 C I
    rw [f_kauditlaw24_made_l1]
    cases n with
    | zero => exact ⟨d, a, ite_f (dec_f (by omega)) rfl, I, C⟩
    | succ n =>
      by_cases hl : a < cs.length
      · obtain ⟨k1, a1, h1, k10, k11, _, C1, _⟩ := Int_ok (n := 6) C (by omega)
        obtain ⟨i2, a2, h2, i20, i21, _, C2, _⟩ := Int_ok (n := 3) C1 (by omega)
        obtain ⟨i3, a3, h3, i30, i31, _, C3, _⟩ := Int_ok (n := 3) C2 (by omega)
        obtain ⟨b, a4, h4, lb, C4, _⟩ := Bytes_ok C3 30 (by omega) (by omega)
        obtain ⟨m, a5, h5, _, _, _, C5, _⟩ := Int_ok (n := 9) C4 (by omega)
        have k11 := k11 (by omega); have i21 := i21 (by omega); have i31 := i31 (by omega)
        obtain ⟨s, hs, ts⟩ := pick3 i20 i21
        obtain ⟨t, ht, tt⟩ := pick3 i30 i31
        obtain ⟨x, e, y, f, hc, hL⟩ := change_ok I (cs := cs) (a := a5) (n := m) k10 k11 ts tt (b := b) (by omega)
        have hd : (⟨d.Room, d.Files, d.Off, d.Plan⟩ : api_Disk) = d := rfl
        have key : ∀ dd : api_Disk, Inv dd → ∃ x a', f_kauditlaw24_made_l1 ⟨cs, at0⟩ k a5 (IntKind.wrap .i64 (((n + 1 : Nat) : Int) - 1)) dd.Room dd.Files dd.Off dd.Plan = some (x, a') ∧ Inv x ∧ COk cs a' := fun dd ID => by
          rw [wrap_dn (by omega)]; exact ih n a5 dd (by omega) (by omega) C5 ID
        by_cases he : e = 0
        · obtain ⟨x', a', hx, hI, hC⟩ := key x (hL he).inv
          refine ⟨x', a', ite_t (dec_t (by omega)) (bind_of rfl (ite_t (dec_t hl) (bind_of h1 (bind_of h2 (ck_of ⟨i20, by omega⟩ (bind_of hs (bind_of h3 (ck_of ⟨i30, by omega⟩ (bind_of ht (bind_of h4 (bind_of h5 (bind_of hc (ite_t (by simp [he]) hx))))))))))))), hI, hC⟩
        · obtain ⟨x', a', hx, hI, hC⟩ := key d I
          refine ⟨x', a', ite_t (dec_t (by omega)) (bind_of rfl (ite_t (dec_t hl) (bind_of h1 (bind_of h2 (ck_of ⟨i20, by omega⟩ (bind_of hs (bind_of h3 (ck_of ⟨i30, by omega⟩ (bind_of ht (bind_of h4 (bind_of h5 (bind_of hc (ite_f (by simp [he]) hx))))))))))))), hI, hC⟩
      · exact ⟨d, a, ite_t (dec_t (by omega)) (bind_of rfl (ite_f (dec_f hl) rfl)), I, C⟩
theorem Inv0 : Inv ⟨2000, [], false, 0⟩ :=
  ⟨⟨by show (0 : Int) ≤ 2000; omega, by show (2000 : Int) ≤ 1048576; omega, by show 0 ≤ 24; omega, Int.le_refl _, by show (0 : Int) ≤ 10000; omega, fun _ h => (nomatch h), fun _ h => (nomatch h), List.Pairwise.nil, by show ((0 : Nat) : Int) ≤ 2000; omega⟩, rfl, rfl⟩
theorem made_ok {cs : List Int} (C : COk cs 0) : ∃ d a, f_kauditlaw24_made ⟨cs, 0⟩ 16 = some (d, a) ∧ Inv d ∧ COk cs a := by
  unfold f_kauditlaw24_made
  obtain ⟨d, a, h, hI, hC⟩ := made_loop (cs := cs) 0 17 16 0 ⟨2000, [], false, 0⟩ (by omega) (by omega) C Inv0
  exact ⟨d, a, bind_of (show f_disk_New 2000 = some (⟨2000, [], false, 0⟩, 0) from rfl) h, hI, hC⟩
theorem begun_ok : f_kauditlaw24_begun = some true := by kernel_rfl
theorem same_refl (l : List Int) : f_kauditref24_SameBytes l l = some true := by unfold f_kauditref24_SameBytes; simp
theorem others_loop {codes : Int} {d x : api_Disk} {b : List Int} {k : Int} {z1 : Int} {z2 : List Int} {a0 : Int} {y : api_Disk} {f : Int} {a' : Int} (I : Inv d) (hL : Left d x k nA nB b) (hk : k = z1.tmod 6) (hb : b = cut z2 0 (min (z2.length : Int) 50)) (hbl : b.length < 1000000) : ∀ (fuel i : Nat), i ≤ d.Files.length → d.Files.length < fuel + i →
    f_kauditlaw24_DiskOthers_l1 z1 z2 (d, a0) (x, 0, y, f, a') fuel i = some true := by
  have hl := I.len
  intro fuel
  induction fuel with
  | zero => intro i h1 h2; omega
  | succ fuel ih =>
    intro i h1 h2
    rw [f_kauditlaw24_DiskOthers_l1]
    by_cases h : i < d.Files.length
    · have hm := List.getElem_mem h
      generalize hf : d.Files[i] = g at hm
      have hg : at_ d.Files (i : Int) = some g := by rw [← hf]; exact at_get h
      obtain ⟨r, hr, hc⟩ := Read_ok hL.inv.toDOk g.Name
      have next : f_kauditlaw24_DiskOthers_l1 z1 z2 (d, a0) (x, 0, y, f, a') fuel (IntKind.wrap .i64 ((i : Int) + 1)) = some true := by rw [wrap_up (by omega)]; exact ih (i + 1) (by omega) (by omega)
      have j3 : f_kauditlaw24_DiskOthers_j3 z1 z2 i g r (f_kauditlaw24_DiskOthers_l1 z1 z2 (d, a0) (x, 0, y, f, a') fuel) = some true := by
        unfold f_kauditlaw24_DiskOthers_j3
        by_cases hn : g.Name = nA
        · refine ite_t (by rw [beq_bytes]; exact dec_t hn) ?_
          by_cases h1 : z1.tmod 6 = 1
          · have hmem := hL.app (hk.trans h1) g hm hn
            have hrd := Read_mem hL.inv.toDOk hmem
            have hrd : f_disk_Read x g.Name = some (g.Data ++ b, true) := hrd
            rw [hr] at hrd
            obtain rfl := Option.some.inj hrd
            have hgl : g.Data.length < 2000000 := by have := usedL_mem hm; have := I.used; have := I.room; omega
            refine ite_t (by simpa using h1) (ck_of (fits_of (by simp; omega)) (ck_of (fits_of ?_) ?_))
            · rw [← hb, List.length_append]; simp; omega
            · rw [← hb, List.nil_append]
              exact bind_of (same_refl _) (ite_t rfl next)
          · exact ite_f (by simpa using h1) next
        · exact ite_f (by rw [beq_bytes]; exact dec_f hn) next
      refine ite_t (dec_t (by show (i : Int) < (d.Files.length : Int); omega)) (bind_of hg (bind_of hr ?_))
      by_cases hn : g.Name = nA
      · exact ite_t (by rw [beq_bytes]; exact dec_t hn) j3
      · refine ite_f (by rw [beq_bytes]; exact dec_f hn) ?_
        have keep : (z1.tmod 6 = 4 → g.Name ≠ nB) → r = (g.Data, true) := fun hto => by
          have := Read_mem hL.inv.toDOk (hL.rest g hm hn (fun e => hto (hk ▸ e)))
          rw [hr] at this; exact Option.some.inj this
        by_cases hB : g.Name = nB
        · refine ite_t (by rw [beq_bytes]; exact dec_t hB) ?_
          by_cases h4 : z1.tmod 6 = 4
          · exact ite_f (by simpa using h4) j3
          · obtain rfl := keep (fun e => absurd e h4)
            exact ite_t (by simpa using h4) (ite_t rfl (bind_of (same_refl _) (ite_t rfl j3)))
        · obtain rfl := keep (fun _ => hB)
          exact ite_f (by rw [beq_bytes]; exact dec_f hB) (ite_t rfl (bind_of (same_refl _) (ite_t rfl j3)))
    · refine ite_f (dec_f (by show ¬ (i : Int) < (d.Files.length : Int); omega)) ?_
      unfold f_kauditlaw24_DiskOthers_j4
      exact bind_of (Valid_ok hL.inv.toDOk) (ite_t rfl (bind_of begun_ok rfl))
theorem others_j1 {cs : List Int} {z1 : Int} {z2 : List Int} (C : COk cs 0) (h0 : 0 ≤ z1) (h1 : z1 < 256) : f_kauditlaw24_DiskOthers_j1 z1 z2 cs = some true := by
  unfold f_kauditlaw24_DiskOthers_j1 f_kauditlaw24_DiskOthers_j2
  obtain ⟨d, a, hd, I, C1⟩ := made_ok C
  have e : IntKind.wrap .i64 z1 = z1 := wrap_id (by omega) (by omega)
  have hbl : (cut z2 0 (min (z2.length : Int) 50)).length < 1000000 := by unfold cut; simp; omega
  have m0 : 0 ≤ z1.tmod 6 ∧ z1.tmod 6 < 6 := by rw [tmod_nn h0]; omega
  obtain ⟨x, e', y, f, hc, hL⟩ := change_ok I (cs := cs) (a := a) (n := 1) m0.1 m0.2 (.inl rfl) (.inr (.inl rfl)) hbl
  refine bind_of hd (ck_of ⟨by omega, by omega, by omega⟩ (bind_of (by rw [e]; exact hc) ?_))
  by_cases he : e' = 0
  · subst he
    refine ite_f rfl ?_
    have := others_loop (a0 := a) (y := y) (f := f) (a' := a) (codes := 0) I (hL rfl) rfl rfl hbl ((((d.Files.length : Int) : Int) - (0)).toNat + 1) 0 (by omega) (by omega)
    exact this
  · exact ite_t (by simpa using he) (bind_of begun_ok rfl)
theorem others_law {z0 : List Int} {z1 : Int} {z2 : List Int} (hb : ∀ x ∈ z0, 0 ≤ x ∧ x < 256) (h0 : 0 ≤ z1) (h1 : z1 < 256) : f_kauditlaw24_DiskOthers z0 z1 z2 = some true := by
  unfold f_kauditlaw24_DiskOthers
  by_cases h : (z0.length : Int) > 300
  · refine ite_t (dec_t h) (ck_of ⟨by omega, by omega, by omega⟩ (others_j1 (COk.zero ?_ ?_) h0 h1))
    · unfold cut; simp; omega
    · intro x hx; unfold cut at hx; exact hb x (List.mem_of_mem_take (List.mem_of_mem_drop hx))
  · exact ite_f (dec_f h) (others_j1 (COk.zero (by omega) hb) h0 h1)
end Go.Proofs.YtkjeedijloobgaaDoor.Gx
