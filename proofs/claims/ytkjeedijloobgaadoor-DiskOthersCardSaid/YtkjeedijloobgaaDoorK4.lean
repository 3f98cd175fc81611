/- K4: the texts Y21, Y23, Y60, Y25, PDiskC, PDiskD, Y13, Y38, PMill, Y14, PMillB, Y67, Y47, Y66, joined. -/
import Derived.Test.YtkjeedijloobgaaDoorK2
import Derived.Test.YtkjeedijloobgaaDoorK3
/- Function 21, kaudit/disk.Truncate: what it answers as a plain function, and that the Go code comes to exactly that (where the plain function gives an answer). -/
set_option linter.unusedVariables false
set_option linter.unusedSimpArgs false
namespace Go.Proofs.YtkjeedijloobgaaDoor.Gx
open Go.Gx Go.RowKit
/-! ### kaudit/disk.Truncate: function 21 -/
def f_disk_Truncate_j6 (x239 : Int) (x243 : List api_DiskFile) (x244 : Bool) (x245 : Int) (x246 : Int) : Option (api_Disk × Int) := some ((⟨x239, x243, x244, x245⟩ : api_Disk), x246)
def f_disk_Truncate_j5 (z2 : Int) (y124 : Int) (y180 : api_Disk) (x201 : Int) : Option (api_Disk × Int) := (at_ y180.Files y124).bind fun el215 => ck (cutOk el215.Data 0 z2) <| f_disk_Truncate_j6 y180.Room (y180.Files.set y124.toNat (⟨el215.Name, (cut el215.Data 0 z2), (min el215.Safe z2)⟩ : api_DiskFile)) y180.Off x201 0
def f_disk_Truncate_j4 (z0 : api_Disk) (z2 : Int) (y124 : Int) : Option (api_Disk × Int) := (f_fresh_Disk z0).bind fun y180 => if (decide (y180.Plan > 0)) = true then (if ((IntKind.wrap .i64 (y180.Plan - 1)) == 0) = true then ((f_disk_nothing (⟨y180.Room, y180.Files, true, (IntKind.wrap .i64 (y180.Plan - 1))⟩ : api_Disk) y124).bind fun y197 => f_disk_Truncate_j6 y180.Room y180.Files true (IntKind.wrap .i64 (y180.Plan - 1)) 242) else (f_disk_Truncate_j5 z2 y124 y180 (IntKind.wrap .i64 (y180.Plan - 1)))) else (f_disk_Truncate_j5 z2 y124 y180 y180.Plan)
def f_disk_Truncate_j3 (z0 : api_Disk) (z2 : Int) (y124 : Int) (x168 : Int) : Option (api_Disk × Int) := if (x168 != 0) = true then (f_disk_Truncate_j6 0 ([] : List api_DiskFile) false 0 x168) else (f_disk_Truncate_j4 z0 z2 y124)
def f_disk_Truncate_j2 (z0 : api_Disk) (z2 : Int) (y124 : Int) : Option (api_Disk × Int) := if (decide (z2 < 0)) = true then (f_disk_Truncate_j3 z0 z2 y124 246) else ((at_ z0.Files y124).bind fun el157 => if (decide (z2 > (el157.Data.length : Int))) = true then (f_disk_Truncate_j3 z0 z2 y124 246) else (f_disk_Truncate_j3 z0 z2 y124 0))
def f_disk_Truncate_j1 (z0 : api_Disk) (z1 : ByteArray) (z2 : Int) : Option (api_Disk × Int) := (f_disk_find z0 z1).bind fun y124 => if (decide (y124 < 0)) = true then (f_disk_Truncate_j6 0 ([] : List api_DiskFile) false 0 244) else (if (decide (y124 ≥ 0)) = true then (f_disk_Truncate_j2 z0 z2 y124) else (f_disk_Truncate_j2 z0 z2 y124))
def f_disk_Truncate_l1 (z0 : api_Disk) (z1 : ByteArray) (z2 : Int) : Nat → Int → Option (api_Disk × Int)
  | 0, _ => none
  | k97 + 1, x94 => if (decide (x94 < (([z1] ++ ([] : List ByteArray)).length : Int))) = true then ((at_ ([z1] ++ ([] : List ByteArray)) x94).bind fun el111 => (f_disk_isName el111).bind fun y115 => if y115 = true then (f_disk_Truncate_l1 z0 z1 z2 k97 (IntKind.wrap .i64 (x94 + 1))) else (f_disk_Truncate_j6 0 ([] : List api_DiskFile) false 0 243)) else (f_disk_Truncate_j1 z0 z1 z2)
def f_disk_Truncate (z0 : api_Disk) (z1 : ByteArray) (z2 : Int) : Option (api_Disk × Int) := (f_disk_Valid z0).bind fun y27 => if y27 = true then (if z0.Off = true then ((f_fresh_Disk z0).bind fun y39 => f_disk_Truncate_j6 y39.Room y39.Files y39.Off y39.Plan 242) else (ck (fits ([z1].length + ([] : List ByteArray).length) 16 = true) <| f_disk_Truncate_l1 z0 z1 z2 ((((([z1] ++ ([] : List ByteArray)).length : Int) : Int) - (0)).toNat + 1) 0)) else (f_disk_Truncate_j6 0 ([] : List api_DiskFile) false 0 241)
set_option maxHeartbeats 4000000 in
set_option maxRecDepth 100000 in
theorem C21 (z0 : api_Disk) (z1 : ByteArray) (z2 : Int) (p1 : Option Addr) (m2 : Nat) (c3 : Nat) (r : api_Disk × Int) (h : f_disk_Truncate z0 z1 z2 = some r) : FunG Tryd.prog 21 #[.agg #[.int .i64 z0.Room, .slice p1 m2 c3, .bool z0.Off, .int .i64 z0.Plan], .string z1, .int .i64 z2] [vw (kSlice 34 k_api_DiskFile) z0.Files [.slice p1 m2 c3], g_names] [] (fun t : (Option Addr × Nat × Nat) => .tuple #[.agg #[.int .i64 r.1.Room, .slice t.1 t.2.1 t.2.2, .bool r.1.Off, .int .i64 r.1.Plan], .int .i64 r.2]) (fun t => []) (fun t => [[row 34 k_api_DiskFile r.1.Files (.slice t.1 t.2.1 t.2.2)]]) := by
  unfold f_disk_Truncate at h
  refine t_begin (args := [.agg #[.int .i64 z0.Room, .slice p1 m2 c3, .bool z0.Off, .int .i64 z0.Plan], .string z1, .int .i64 z2]) Tryd.func21 rfl Tryd.ntmps21 rfl fun c R hR => ?_
  have hQ : ∀ X, X = r → ∀ w2 (t : (Option Addr × Nat × Nat)), PostG c.w0 w2 c.M c.Y [] [[row 34 k_api_DiskFile X.1.Files (.slice t.1 t.2.1 t.2.2)]] → R (.returned (.tuple #[.agg #[.int .i64 X.1.Room, .slice t.1 t.2.1 t.2.2, .bool X.1.Off, .int .i64 X.1.Plan], .int .i64 X.2])) w2 := fun X e => by subst e; exact hR
  refine t_seq fun K4 hK5 => ?_
  refine t_region ?_
  refine nx (t_bx (cs := [.int .i64 z0.Room, .slice p1 m2 c3, .bool z0.Off, .int .i64 z0.Plan]) rfl rfl rfl fun g6 => ?_)
  refine nx (t_bx (cs := [.int .i64 z2]) rfl rfl rfl fun g7 => ?_)
  refine nx (t_al (cs := [.int .i64 0, .slice none 0 0, .bool false, .int .i64 0]) ti27 rfl rfl fun g8 => ?_)
  refine c_p (r_as rfl) rfl ?_
  refine t_nil ?_
  refine t_then hK5 ?_
  refine t_seq fun K9 hK10 => ?_
  refine t_region ?_
  refine c_p (r_mf (vs := [.pointer (some ⟨g7, 0, none⟩)]) rfl) rfl ?_
  refine c_p (r_as rfl) rfl ?_
  refine t_nil ?_
  refine t_then hK10 ?_
  refine t_seq fun K11 hK12 => ?_
  refine t_region ?_
  refine c_p (r_mf (vs := [.pointer (some ⟨g7, 0, none⟩)]) rfl) rfl ?_
  refine c_p (r_as rfl) rfl ?_
  refine t_nil ?_
  refine t_then hK12 ?_
  refine t_seq fun K13 hK14 => ?_
  refine t_region ?_
  refine c_s (r_ldA a2 Tryd.underlying27 rfl ti27 rfl rfl) rfl ?_
  refine c_p (r_mv rfl) rfl ?_
  refine c_p (r_mv rfl) rfl ?_
  refine c_p (r_mv rfl) rfl ?_
  refine nx (t_in (args := [.agg #[.int .i64 z0.Room, .slice p1 m2 c3, .bool z0.Off, .int .i64 z0.Plan], .string z1, .slice none 0 0, .bool false, .func (.func 55) #[] #[.pointer (some ⟨g7, 0, none⟩)], .func (.func 56) #[] #[.pointer (some ⟨g7, 0, none⟩)], .func (.func 43) #[] #[]]) (cap := []) (all := [.agg #[.int .i64 z0.Room, .slice p1 m2 c3, .bool z0.Off, .int .i64 z0.Plan], .string z1, .slice none 0 0, .bool false, .func (.func 55) #[] #[.pointer (some ⟨g7, 0, none⟩)], .func (.func 56) #[] #[.pointer (some ⟨g7, 0, none⟩)], .func (.func 43) #[] #[]]) rfl rfl Tryd.func40 nm40 rfl rfl rfl Tryd.ntmps40 rfl fun R15 k16 hk17 hR18 => ?_)
  have J247 : ∀ (x239 : Int) (p240 : Option Addr) (m241 : Nat) (c242 : Nat) (x243 : List api_DiskFile) (x244 : Bool) (x245 : Int) (x246 : Int), f_disk_Truncate_j6 x239 x243 x244 x245 x246 = some r → T 19 c [g_names] [[blk g8 [.int .i64 0, .slice none 0 0, .bool false, .int .i64 0] 27], [row 34 k_api_DiskFile x243 (.slice p240 m241 c242)]] [(6, .pointer (some ⟨g8, 0, none⟩)), (7, .int .i64 0), (16, .tuple #[.agg #[.int .i64 x239, .slice p240 m241 c242, .bool x244, .int .i64 x245], .int .i64 x246])] k16 := by
    intro x239 p240 m241 c242 x243 x244 x245 x246 h248
    unfold f_disk_Truncate_j6 at h248
    refine ti hk17 ?_
    refine c_p (r_ex rfl rfl) rfl ?_
    refine c_p (r_ex rfl rfl) rfl ?_
    refine nx (t_st u0 ti27 rfl rfl rfl rfl rfl (.t (.s (.s (.s (.s .z))))) ?_)
    refine c_p (r_as rfl) rfl ?_
    refine t_nil ?_
    refine t_then hK14 ?_
    refine t_ret ?_
    exact ret2 rfl (v_N rfl a0 Tryd.underlying27 rfl ti27 rfl) (v_t rfl) (t_leave (hQ _ (Option.some.inj h248)) (p240, m241, c242) rfl (fun w Z hA => V0) (.cons e1 .nil))
  refine t_seq fun K19 hK20 => ?_
  refine t_region ?_
  refine nx (t_bx (cs := [.int .i64 z0.Room, .slice p1 m2 c3, .bool z0.Off, .int .i64 z0.Plan]) rfl rfl rfl fun g21 => ?_)
  refine nx (t_al (cs := [.int .i64 0, .slice none 0 0, .bool false, .int .i64 0]) ti27 rfl rfl fun g22 => ?_)
  refine c_p (r_as rfl) rfl ?_
  refine t_nil ?_
  refine t_then hK20 ?_
  refine t_seq fun K23 hK24 => ?_
  refine t_seq fun K25 hK26 => ?_
  refine t_region ?_
  refine c_s (r_ldA a1 Tryd.underlying27 rfl ti27 rfl rfl) rfl ?_
  obtain ⟨y27, hy27, h⟩ := bs h
  refine nx (t_ca (C10 _ _ _ _ _ hy27) Tryd.func10 nm10 rfl rfl rfl .nil (fun w Z hA => (V1 a0 hA (V1 a1 hA V0))) rfl fun t28 => ?_)
  refine c_p (r_not rfl) rfl ?_
  refine t_nil ?_
  refine t_then hK26 ?_
  rcases Bool.eq_false_or_eq_true y27 with hb29 | hb29
  · replace h := itT hb29 h
    refine t_F rfl (congrArg Bool.not hb29) ?_
    refine t_skip ?_
    refine t_then hK24 ?_
    refine t_seq fun K32 hK33 => ?_
    refine t_seq fun K34 hK35 => ?_
    refine t_region ?_
    refine c_p (r_fa (off' := 2) Tryd.underlying27 rfl ti4 rfl rfl) rfl ?_
    refine c_s (r_ld a1 Tryd.underlying4 rfl rfl rfl) rfl ?_
    refine t_nil ?_
    refine t_then hK35 ?_
    rcases Bool.eq_false_or_eq_true z0.Off with hb36 | hb36
    · replace h := itT hb36 h
      refine t_T rfl hb36 ?_
      refine t_seq fun K37 hK38 => ?_
      refine t_region ?_
      refine c_s (r_ldA a1 Tryd.underlying27 rfl ti27 rfl rfl) rfl ?_
      obtain ⟨y39, hy39, h⟩ := bs h
      refine nx (t_ca (C61 _ _ _ _ _ hy39) Tryd.func61 nm61 rfl rfl rfl .nil (fun w Z hA => (V1 a0 hA (V1 a1 hA V0))) rfl fun t40 => ?_)
      refine nx (t_st u1 ti27 rfl rfl rfl rfl rfl (.t (.s (.s (.s (.s .z))))) ?_)
      refine c_p (r_as rfl) rfl ?_
      refine t_nil ?_
      refine t_then hK38 ?_
      refine t_ret ?_
      refine tr (ret2 rfl (v_N rfl a1 Tryd.underlying27 rfl ti27 rfl) (v_t rfl) (t_bk hR18 ?_))
      exact t_go (J247 y39.Room t40.1 t40.2.1 t40.2.2 y39.Files y39.Off y39.Plan 242 h) ⟨rfl, rfl, rfl, trivial⟩ (.cons e3 (.cons e0 .nil)) (fun w Z hA => V1 a1 hA (V0))
    · replace h := itF hb36 h
      refine t_F rfl hb36 ?_
      refine t_skip ?_
      refine t_then hK33 ?_
      refine t_seq fun K41 hK42 => ?_
      have J120 : f_disk_Truncate_j1 z0 z1 z2 = some r → T 90 c [vw (kSlice 34 k_api_DiskFile) z0.Files [.slice p1 m2 c3], g_names] [[blk g7 [.int .i64 z2] 3], [blk g21 [.int .i64 z0.Room, .slice p1 m2 c3, .bool z0.Off, .int .i64 z0.Plan] 27], [blk g22 [.int .i64 0, .slice none 0 0, .bool false, .int .i64 0] 27], [blk g8 [.int .i64 0, .slice none 0 0, .bool false, .int .i64 0] 27]] [(1, .string z1), (3, .bool false), (4, .func (.func 55) #[] #[.pointer (some ⟨g7, 0, none⟩)]), (5, .func (.func 56) #[] #[.pointer (some ⟨g7, 0, none⟩)]), (6, .func (.func 43) #[] #[]), (7, .pointer (some ⟨g21, 0, none⟩)), (14, .pointer (some ⟨g22, 0, none⟩))] K41 := by
        intro h121
        unfold f_disk_Truncate_j1 at h121
        refine ti hK42 ?_
        refine t_seq fun K122 hK123 => ?_
        refine t_region ?_
        refine c_s (r_ldA a1 Tryd.underlying27 rfl ti27 rfl rfl) rfl ?_
        refine c_p (r_mv rfl) rfl ?_
        obtain ⟨y124, hy124, h121⟩ := bs h121
        refine nx (t_ca (C34 _ _ _ _ _ _ hy124) Tryd.func34 nm34 rfl rfl rfl .nil (fun w Z hA => (V1 a0 hA (V1 a1 hA V0))) rfl fun t125 => ?_)
        refine c_p (r_as rfl) rfl ?_
        refine t_nil ?_
        refine t_then hK123 ?_
        refine t_seq fun K126 hK127 => ?_
        have J136 : f_disk_Truncate_j2 z0 z2 y124 = some r → T 90 c [vw (kSlice 34 k_api_DiskFile) z0.Files [.slice p1 m2 c3], g_names] [[blk g7 [.int .i64 z2] 3], [blk g21 [.int .i64 z0.Room, .slice p1 m2 c3, .bool z0.Off, .int .i64 z0.Plan] 27], [blk g22 [.int .i64 0, .slice none 0 0, .bool false, .int .i64 0] 27], [blk g8 [.int .i64 0, .slice none 0 0, .bool false, .int .i64 0] 27]] [(4, .func (.func 55) #[] #[.pointer (some ⟨g7, 0, none⟩)]), (5, .func (.func 56) #[] #[.pointer (some ⟨g7, 0, none⟩)]), (6, .func (.func 43) #[] #[]), (7, .pointer (some ⟨g21, 0, none⟩)), (14, .pointer (some ⟨g22, 0, none⟩)), (18, .int .i64 y124)] K126 := by
          intro h137
          unfold f_disk_Truncate_j2 at h137
          refine ti hK127 ?_
          refine t_seq fun K138 hK139 => ?_
          have J176 : f_disk_Truncate_j4 z0 z2 y124 = some r → T 90 c [vw (kSlice 34 k_api_DiskFile) z0.Files [.slice p1 m2 c3], g_names] [[blk g7 [.int .i64 z2] 3], [blk g21 [.int .i64 z0.Room, .slice p1 m2 c3, .bool z0.Off, .int .i64 z0.Plan] 27], [blk g22 [.int .i64 0, .slice none 0 0, .bool false, .int .i64 0] 27], [blk g8 [.int .i64 0, .slice none 0 0, .bool false, .int .i64 0] 27]] [(5, .func (.func 56) #[] #[.pointer (some ⟨g7, 0, none⟩)]), (6, .func (.func 43) #[] #[]), (7, .pointer (some ⟨g21, 0, none⟩)), (14, .pointer (some ⟨g22, 0, none⟩)), (18, .int .i64 y124)] K138 := by
            intro h177
            unfold f_disk_Truncate_j4 at h177
            refine ti hK139 ?_
            refine t_seq fun K178 hK179 => ?_
            refine t_region ?_
            refine c_s (r_ldA a1 Tryd.underlying27 rfl ti27 rfl rfl) rfl ?_
            obtain ⟨y180, hy180, h177⟩ := bs h177
            refine nx (t_ca (C61 _ _ _ _ _ hy180) Tryd.func61 nm61 rfl rfl rfl .nil (fun w Z hA => (V1 a0 hA (V1 a1 hA V0))) rfl fun t181 => ?_)
            refine nx (t_al (cs := [.int .i64 0, .slice none 0 0, .bool false, .int .i64 0]) ti27 rfl rfl fun g182 => ?_)
            refine nx (t_st u0 ti27 rfl rfl rfl rfl rfl (.t (.s (.s (.s (.s .z))))) ?_)
            refine t_nil ?_
            refine t_then hK179 ?_
            refine t_seq fun K183 hK184 => ?_
            have J202 : ∀ (x201 : Int), f_disk_Truncate_j5 z2 y124 y180 x201 = some r → T 90 c [g_names] [[blk g7 [.int .i64 z2] 3], [blk g22 [.int .i64 0, .slice none 0 0, .bool false, .int .i64 0] 27], [row 34 k_api_DiskFile y180.Files (.slice t181.1 t181.2.1 t181.2.2)], [blk g182 [.int .i64 y180.Room, .slice t181.1 t181.2.1 t181.2.2, .bool y180.Off, .int .i64 x201] 27], [blk g8 [.int .i64 0, .slice none 0 0, .bool false, .int .i64 0] 27]] [(5, .func (.func 56) #[] #[.pointer (some ⟨g7, 0, none⟩)]), (14, .pointer (some ⟨g22, 0, none⟩)), (18, .int .i64 y124), (20, .pointer (some ⟨g182, 0, none⟩))] K183 := by
              intro x201 h203
              unfold f_disk_Truncate_j5 at h203
              refine ti hK184 ?_
              refine t_seq fun K204 hK205 => ?_
              refine t_region ?_
              refine c_p (r_mv rfl) rfl ?_
              refine c_p (r_mv rfl) rfl ?_
              refine nx (t_in (args := [.pointer (some ⟨g182, 0, none⟩), .int .i64 y124]) (cap := [.pointer (some ⟨g7, 0, none⟩)]) (all := [.pointer (some ⟨g182, 0, none⟩), .int .i64 y124, .pointer (some ⟨g7, 0, none⟩)]) rfl rfl Tryd.func56 nm56 rfl rfl rfl Tryd.ntmps56 rfl fun R206 k207 hk208 hR209 => ?_)
              refine t_seq fun K210 hK211 => ?_
              refine t_region ?_
              refine c_p (r_mv rfl) rfl ?_
              refine c_p (r_nc rfl) rfl ?_
              refine c_p (r_fa (off' := 1) Tryd.underlying27 rfl ti25 rfl rfl) rfl ?_
              refine c_s (r_ld a3 Tryd.underlying25 rfl rfl rfl) rfl ?_
              refine c_p (r_mv rfl) rfl ?_
              obtain ⟨el215, hel215, h203⟩ := bs h203
              refine t_qL a2 hel215 fun q212 hq213 hm214 => ?_
              refine c_p (r_idx hq213 hm214 hel215 Tryd.underlying25 ti34 rfl rfl) rfl ?_
              refine c_p (r_as rfl) rfl ?_
              refine t_nil ?_
              refine t_then hK211 ?_
              refine t_draw mixed (fun w_ => Bk g7 [.int .i64 z2] w_ ∧ True) [12] [16, 19] rfl ?_
              refine q_p 0 panic_body rfl (by kernel_rfl) W0 (r_mv rfl) rfl ?_
              refine q_p 1 panic_body rfl (by kernel_rfl) W0 (r_mv rfl) rfl ?_
              refine q_p 2 panic_body rfl (by kernel_rfl) W0 (r_mv rfl) rfl ?_
              refine q_p 3 panic_body rfl (by kernel_rfl) W0 (r_nc rfl) rfl ?_
              refine t_qf hq213 1 fun q218 hq219 => ?_
              refine q_p 4 panic_body rfl (by kernel_rfl) W0 (r_fai hq213 hq219 Tryd.underlying34 rfl ti22 rfl rfl) rfl ?_
              refine t_oI k_api_DiskFile_opensO e2 hel215 fun t220 => ?_
              refine q_u 5 panic_body rfl (by kernel_rfl) W0 (by kernel_rfl) (r_h1 a0 hq219 Tryd.underlying22 rfl rfl rfl) rfl ?_
              refine q_u 6 panic_body rfl (by kernel_rfl) W0 (by kernel_rfl) (r_ld a2 Tryd.underlying3 rfl rfl rfl) rfl ?_
              obtain ⟨hc221, h203⟩ := ck_out h203
              refine t_vwq (i := 0) (j := z2) a1 Tryd.underlying22 ti5 hc221 fun t222 hv223 hr224 => ?_
              refine q_p 7 panic_body rfl (by kernel_rfl) W0 (hr224 rfl (.inl ⟨rfl, rfl⟩) (.inr ⟨_, _, rfl, rfl⟩)) rfl ?_
              refine q_p 8 panic_body rfl (by kernel_rfl) W0 (r_mv rfl) rfl ?_
              refine q_p 9 panic_body rfl (by kernel_rfl) W0 (r_nc rfl) rfl ?_
              refine t_qf hq213 2 fun q225 hq226 => ?_
              refine q_p 10 panic_body rfl (by kernel_rfl) W0 (r_fai hq213 hq226 Tryd.underlying34 rfl ti3 rfl rfl) rfl ?_
              refine q_u 11 panic_body rfl (by kernel_rfl) W0 (by kernel_rfl) (r_h1 a0 hq226 Tryd.underlying3 rfl rfl rfl) rfl ?_
              refine q_s 12 panic_body rfl (by kernel_rfl) W0 (by kernel_rfl) (fun w H => ⟨bk a2 H, trivial⟩) (b_ld (fun _ h => h.1) Tryd.underlying3 rfl rfl rfl) rfl ?_
              refine q_p 13 panic_body rfl (by kernel_rfl) W0 (r_min rfl rfl) rfl ?_
              refine q_p 14 panic_body rfl (by kernel_rfl) W0 (r_nc rfl) rfl ?_
              refine t_qf hq213 1 fun q227 hq228 => ?_
              refine q_p 15 panic_body rfl (by kernel_rfl) W0 (r_fai hq213 hq228 Tryd.underlying34 rfl ti22 rfl rfl) rfl ?_
              refine d1 16 rfl (by kernel_rfl) (by kernel_rfl) ?_
              refine t_vm (i := 0) (j := z2) e1 hv223 hc221 (.inl rfl) ?_
              refine t_hs u1 hq228 ti22 rfl rfl rfl rfl rfl (.s (.t (.s .z))) ?_
              refine dk (fun w H => ⟨bk a2 H, trivial⟩) ?_
              refine q_p 17 panic_body rfl (by kernel_rfl) W0 (r_nc rfl) rfl ?_
              refine t_qf hq213 2 fun q229 hq230 => ?_
              refine q_p 18 panic_body rfl (by kernel_rfl) W0 (r_fai hq213 hq230 Tryd.underlying34 rfl ti3 rfl rfl) rfl ?_
              refine d1 19 rfl (by kernel_rfl) (by kernel_rfl) ?_
              refine t_hs u1 hq230 ti3 rfl rfl rfl rfl rfl (.s (.s (.t (.s .z)))) ?_
              refine dn (by kernel_rfl) ?_
              refine dz (by kernel_rfl) ?_
              refine end0 rfl  (t_bk hR209 ?_)
              refine ti hk208 ?_
              refine t_nil ?_
              refine t_then hK205 ?_
              refine t_seq fun K231 hK232 => ?_
              refine t_region ?_
              refine c_s (r_ldA a4 Tryd.underlying27 rfl ti27 rfl rfl) rfl ?_
              refine nx (t_st u3 ti27 rfl rfl rfl rfl rfl (.t (.s (.s (.s (.s .z))))) ?_)
              refine c_p (r_as rfl) rfl ?_
              refine t_nil ?_
              refine t_then hK232 ?_
              refine t_ret ?_
              refine ret2 rfl (v_N rfl a3 Tryd.underlying27 rfl ti27 rfl) (v_t rfl) (t_bk hR18 ?_)
              refine t_cI (u := (⟨el215.Name, (cut el215.Data 0 z2), (min el215.Safe z2)⟩ : api_DiskFile)) (t := (t222.1, t222.2.1, t222.2.2)) k_api_DiskFile_shutsO (.cons e1 (.cons e0 .nil)) rfl (fun w Z hA => trivial) ?_
              have hn238 := at_set (u' := (⟨el215.Name, (cut el215.Data 0 z2), (min el215.Safe z2)⟩ : api_DiskFile)) hel215
              exact t_go (J247 y180.Room t181.1 t181.2.1 t181.2.2 (y180.Files.set y124.toNat (⟨el215.Name, (cut el215.Data 0 z2), (min el215.Safe z2)⟩ : api_DiskFile)) y180.Off x201 0 h203) ⟨rfl, rfl, rfl, trivial⟩ (.cons e4 (.cons e0 .nil)) (fun w Z hA => V1 a0 hA (V0))
            refine t_seq fun K185 hK186 => ?_
            refine t_region ?_
            refine c_p (r_fa (off' := 3) Tryd.underlying27 rfl ti3 rfl rfl) rfl ?_
            refine c_s (r_ld a0 Tryd.underlying3 rfl rfl rfl) rfl ?_
            refine c_p (r_i rfl rfl rfl) rfl ?_
            refine t_nil ?_
            refine t_then hK186 ?_
            rcases Bool.eq_false_or_eq_true (decide (y180.Plan > 0)) with hb187 | hb187
            · replace h177 := itT hb187 h177
              refine t_T rfl hb187 ?_
              refine t_seq fun K188 hK189 => ?_
              refine t_region ?_
              refine c_p (r_fa (off' := 3) Tryd.underlying27 rfl ti3 rfl rfl) rfl ?_
              refine c_s (r_ld a0 Tryd.underlying3 rfl rfl rfl) rfl ?_
              refine c_p (r_i rfl rfl rfl) rfl ?_
              refine c_p (r_fa (off' := 3) Tryd.underlying27 rfl ti3 rfl rfl) rfl ?_
              refine nx (t_st u0 ti3 rfl rfl rfl rfl rfl (.s (.s (.s (.t (.s .z))))) ?_)
              refine t_nil ?_
              refine t_then hK189 ?_
              refine t_seq fun K190 hK191 => ?_
              refine t_region ?_
              refine c_p (r_fa (off' := 3) Tryd.underlying27 rfl ti3 rfl rfl) rfl ?_
              refine c_s (r_ld a0 Tryd.underlying3 rfl rfl rfl) rfl ?_
              refine c_p (r_i rfl rfl rfl) rfl ?_
              refine t_nil ?_
              refine t_then hK191 ?_
              rcases Bool.eq_false_or_eq_true ((IntKind.wrap .i64 (y180.Plan - 1)) == 0) with hb192 | hb192
              · replace h177 := itT hb192 h177
                refine t_T rfl hb192 ?_
                refine t_seq fun K193 hK194 => ?_
                refine t_region ?_
                refine c_p (r_fa (off' := 2) Tryd.underlying27 rfl ti4 rfl rfl) rfl ?_
                refine nx (t_st u0 ti4 rfl rfl rfl rfl rfl (.s (.s (.t (.s .z)))) ?_)
                refine t_nil ?_
                refine t_then hK194 ?_
                refine t_seq fun K195 hK196 => ?_
                refine t_region ?_
                refine c_p (r_mv rfl) rfl ?_
                refine c_p (r_mv rfl) rfl ?_
                obtain ⟨y197, hy197, h177⟩ := bs h177
                refine nx (t_cf (C43 _ _ _ _ _ _ _ hy197) (fun _ => (flat_blk flat_nil)) Tryd.func43 nm43 rfl rfl rfl (.cons e0 .nil) (fun w Z S hA hL => (FL a0 hL (F1 a1 hA F0))) rfl fun t198 => ?_)
                refine t_nil ?_
                refine t_then hK196 ?_
                refine t_seq fun K199 hK200 => ?_
                refine t_region ?_
                refine c_s (r_ldA a0 Tryd.underlying27 rfl ti27 rfl rfl) rfl ?_
                refine nx (t_st u4 ti27 rfl rfl rfl rfl rfl (.t (.s (.s (.s (.s .z))))) ?_)
                refine c_p (r_as rfl) rfl ?_
                refine t_nil ?_
                refine t_then hK200 ?_
                refine t_ret ?_
                refine tr (ret2 rfl (v_N rfl a4 Tryd.underlying27 rfl ti27 rfl) (v_t rfl) (t_bk hR18 ?_))
                exact t_go (J247 y180.Room t181.1 t181.2.1 t181.2.2 y180.Files true (IntKind.wrap .i64 (y180.Plan - 1)) 242 h177) ⟨rfl, rfl, rfl, trivial⟩ (.cons e5 (.cons e1 .nil)) (fun w Z hA => V1 a1 hA (V0))
              · replace h177 := itF hb192 h177
                refine t_F rfl hb192 ?_
                refine t_skip ?_
                exact t_norm (t_go (J202 (IntKind.wrap .i64 (y180.Plan - 1)) h177) ⟨rfl, rfl, rfl, rfl, trivial⟩ (.cons e2 (.cons e3 (.cons e1 (.cons e0 (.cons e1 .nil))))) (fun w Z hA => V1 a1 hA (V0)))
            · replace h177 := itF hb187 h177
              refine t_F rfl hb187 ?_
              refine t_skip ?_
              exact t_norm (t_go (J202 y180.Plan h177) ⟨rfl, rfl, rfl, rfl, trivial⟩ (.cons e2 (.cons e3 (.cons e1 (.cons e0 (.cons e1 .nil))))) (fun w Z hA => V1 a1 hA (V0)))
          refine t_seq fun K140 hK141 => ?_
          refine t_region ?_
          refine c_p (r_mv rfl) rfl ?_
          refine c_s (r_ldA a1 Tryd.underlying27 rfl ti27 rfl rfl) rfl ?_
          refine c_p (r_mv rfl) rfl ?_
          refine nx (t_in (args := [.agg #[.int .i64 z0.Room, .slice p1 m2 c3, .bool z0.Off, .int .i64 z0.Plan], .int .i64 y124]) (cap := [.pointer (some ⟨g7, 0, none⟩)]) (all := [.agg #[.int .i64 z0.Room, .slice p1 m2 c3, .bool z0.Off, .int .i64 z0.Plan], .int .i64 y124, .pointer (some ⟨g7, 0, none⟩)]) rfl rfl Tryd.func55 nm55 rfl rfl rfl Tryd.ntmps55 rfl fun R142 k143 hk144 hR145 => ?_)
          have J169 : ∀ (x168 : Int), f_disk_Truncate_j3 z0 z2 y124 x168 = some r → T 90 c [vw (kSlice 34 k_api_DiskFile) z0.Files [.slice p1 m2 c3], g_names] [[blk g7 [.int .i64 z2] 3], [blk g21 [.int .i64 z0.Room, .slice p1 m2 c3, .bool z0.Off, .int .i64 z0.Plan] 27], [blk g22 [.int .i64 0, .slice none 0 0, .bool false, .int .i64 0] 27], [blk g8 [.int .i64 0, .slice none 0 0, .bool false, .int .i64 0] 27]] [(5, .func (.func 56) #[] #[.pointer (some ⟨g7, 0, none⟩)]), (6, .func (.func 43) #[] #[]), (7, .pointer (some ⟨g21, 0, none⟩)), (14, .pointer (some ⟨g22, 0, none⟩)), (18, .int .i64 y124), (64, .int .i64 x168)] k143 := by
            intro x168 h170
            unfold f_disk_Truncate_j3 at h170
            refine ti hk144 ?_
            refine c_p (r_as rfl) rfl ?_
            refine t_nil ?_
            refine t_then hK141 ?_
            refine t_seq fun K171 hK172 => ?_
            refine t_region ?_
            refine c_p (r_mv rfl) rfl ?_
            refine c_p (r_i rfl rfl rfl) rfl ?_
            refine t_nil ?_
            refine t_then hK172 ?_
            rcases Bool.eq_false_or_eq_true (x168 != 0) with hb173 | hb173
            · replace h170 := itT hb173 h170
              refine t_T rfl hb173 ?_
              refine t_seq fun K174 hK175 => ?_
              refine t_region ?_
              refine c_p (r_bu (ps := []) (cs := [.int .i64 0, .slice none 0 0, .bool false, .int .i64 0]) rfl (by kernel_rfl)) rfl ?_
              refine c_p (r_mv rfl) rfl ?_
              refine nx (t_st u2 ti27 rfl rfl rfl rfl rfl (.t (.s (.s (.s (.s .z))))) ?_)
              refine c_p (r_as rfl) rfl ?_
              refine t_nil ?_
              refine t_then hK175 ?_
              refine t_ret ?_
              refine tr (ret2 rfl (v_N rfl a2 Tryd.underlying27 rfl ti27 rfl) (v_t rfl) (t_bk hR18 ?_))
              refine t_nr 34 k_api_DiskFile ?_
              exact t_go (J247 0 none 0 0 ([] : List api_DiskFile) false 0 x168 h170) ⟨rfl, rfl, rfl, trivial⟩ (.cons e4 (.cons e0 .nil)) (fun w Z hA => V1 a1 hA (V0))
            · replace h170 := itF hb173 h170
              refine t_F rfl hb173 ?_
              refine t_skip ?_
              exact t_norm (t_go (J176 h170) ⟨rfl, rfl, rfl, rfl, rfl, trivial⟩ (.cons e0 (.cons e0 (.cons e0 (.cons e0 .nil)))) (fun w Z hA => V1 a0 hA (V1 a1 hA (V0))))
          refine t_seq fun K146 hK147 => ?_
          refine t_region ?_
          refine nx (t_bx (cs := [.int .i64 z0.Room, .slice p1 m2 c3, .bool z0.Off, .int .i64 z0.Plan]) rfl rfl rfl fun g148 => ?_)
          refine c_p (r_as rfl) rfl ?_
          refine t_nil ?_
          refine t_then hK147 ?_
          refine t_seq fun K149 hK150 => ?_
          refine t_seq fun K151 hK152 => ?_
          refine t_quiet mixed (by kernel_rfl) (panic_then (panic_then panic_body)) ?_
          refine k_s (r_ld a1 Tryd.underlying3 rfl rfl rfl) rfl ?_
          refine k_p (r_i rfl rfl rfl) rfl ?_
          refine k_p (r_mv rfl) rfl ?_
          rcases Bool.eq_false_or_eq_true (decide (z2 < 0)) with hb153 | hb153
          · replace h137 := itT hb153 h137
            refine k_x rfl rfl hb153 rfl ?_
            refine k_x rfl rfl hb153 rfl ?_
            refine k_x rfl rfl hb153 rfl ?_
            refine k_x rfl rfl hb153 rfl ?_
            refine k_x rfl rfl hb153 rfl ?_
            refine k_x rfl rfl hb153 rfl ?_
            refine k_x rfl rfl hb153 rfl ?_
            refine k_x rfl rfl hb153 rfl ?_
            refine k_x rfl rfl hb153 rfl ?_
            refine k_p (r_pT rfl hb153 rfl) rfl ?_
            refine k_z ?_
            refine t_then hK152 ?_
            refine t_T rfl rfl ?_
            refine t_seq fun K161 hK162 => ?_
            refine t_region ?_
            refine c_p (r_as rfl) rfl ?_
            refine t_nil ?_
            refine t_then hK162 ?_
            refine t_ret ?_
            refine tr (ret1 rfl (v_t rfl) (t_bk hR145 ?_))
            exact t_go (J169 246 h137) ⟨rfl, rfl, rfl, rfl, rfl, rfl, trivial⟩ (.cons e1 (.cons e1 (.cons e1 (.cons e1 .nil)))) (fun w Z hA => V1 a0 hA (V1 a1 hA (V0)))
          · replace h137 := itF hb153 h137
            refine kg_s rfl rfl hb153 (r_ld a1 Tryd.underlying3 rfl rfl rfl) rfl ?_
            refine kg_p rfl rfl hb153 (r_fa (off' := 1) Tryd.underlying27 rfl ti25 rfl rfl) rfl ?_
            refine kg_s rfl rfl hb153 (r_ld a0 Tryd.underlying25 rfl rfl rfl) rfl ?_
            refine kg_p rfl rfl hb153 (r_mv rfl) rfl ?_
            obtain ⟨el157, hel157, h137⟩ := bs h137
            refine t_q a0 hel157 fun q154 hq155 hm156 => ?_
            refine kg_p rfl rfl hb153 (r_idx hq155 hm156 hel157 Tryd.underlying25 ti34 rfl rfl) rfl ?_
            refine t_qf hq155 1 fun q158 hq159 => ?_
            refine kg_p rfl rfl hb153 (r_fai hq155 hq159 Tryd.underlying34 rfl ti22 rfl rfl) rfl ?_
            refine t_op k_api_DiskFile_opens a0 hel157 fun t160 => ?_
            refine kg_s rfl rfl hb153 (r_e1 a1 hq159 Tryd.underlying22 rfl rfl rfl) rfl ?_
            refine kg_s rfl rfl hb153 (r_lnA a0 Tryd.underlying22 rfl) rfl ?_
            refine kg_p rfl rfl hb153 (r_i rfl rfl rfl) rfl ?_
            refine k_p (r_pF rfl hb153 rfl) rfl ?_
            refine k_z ?_
            refine t_then hK152 ?_
            rcases Bool.eq_false_or_eq_true (decide (z2 > (el157.Data.length : Int))) with hb163 | hb163
            · replace h137 := itT hb163 h137
              refine t_T rfl hb163 ?_
              refine t_seq fun K164 hK165 => ?_
              refine t_region ?_
              refine c_p (r_as rfl) rfl ?_
              refine t_nil ?_
              refine t_then hK165 ?_
              refine t_ret ?_
              refine tr (ret1 rfl (v_t rfl) (t_bk hR145 ?_))
              exact t_go (J169 246 h137) ⟨rfl, rfl, rfl, rfl, rfl, rfl, trivial⟩ (.cons e1 (.cons e1 (.cons e1 (.cons e1 .nil)))) (fun w Z hA => V1 a2 hA (V1 a3 hA (V0)))
            · replace h137 := itF hb163 h137
              refine t_F rfl hb163 ?_
              refine t_skip ?_
              refine t_then hK150 ?_
              refine t_seq fun K166 hK167 => ?_
              refine t_region ?_
              refine c_p (r_as rfl) rfl ?_
              refine t_nil ?_
              refine t_then hK167 ?_
              refine t_ret ?_
              refine ret1 rfl (v_t rfl) (t_bk hR145 ?_)
              exact t_go (J169 0 h137) ⟨rfl, rfl, rfl, rfl, rfl, rfl, trivial⟩ (.cons e1 (.cons e1 (.cons e1 (.cons e1 .nil)))) (fun w Z hA => V1 a2 hA (V1 a3 hA (V0)))
        refine t_block ?_
        refine t_seq fun K128 hK129 => ?_
        refine t_region ?_
        refine c_p (r_mv rfl) rfl ?_
        refine c_p (r_i rfl rfl rfl) rfl ?_
        refine c_p (r_mv rfl) rfl ?_
        rcases Bool.eq_false_or_eq_true (decide (y124 < 0)) with hb130 | hb130
        · replace h121 := itT hb130 h121
          refine nx (gd rfl rfl hb130 (sp (r_mv rfl) rfl ?_))
          refine nx (gd rfl rfl hb130 (sp (r_not rfl) rfl ?_))
          refine c_p (r_pT rfl hb130 rfl) rfl ?_
          refine c_p (r_as rfl) rfl ?_
          refine t_nil ?_
          refine t_then hK129 ?_
          refine t_T rfl rfl ?_
          refine t_seq fun K131 hK132 => ?_
          refine t_region ?_
          refine c_p (r_bu (ps := []) (cs := [.int .i64 0, .slice none 0 0, .bool false, .int .i64 0]) rfl (by kernel_rfl)) rfl ?_
          refine nx (t_st u2 ti27 rfl rfl rfl rfl rfl (.t (.s (.s (.s (.s .z))))) ?_)
          refine c_p (r_as rfl) rfl ?_
          refine t_nil ?_
          refine t_then hK132 ?_
          refine t_ret ?_
          refine br (tr (ret2 rfl (v_N rfl a2 Tryd.underlying27 rfl ti27 rfl) (v_t rfl) (t_bk hR18 ?_)))
          refine t_nr 34 k_api_DiskFile ?_
          exact t_go (J247 0 none 0 0 ([] : List api_DiskFile) false 0 244 h121) ⟨rfl, rfl, rfl, trivial⟩ (.cons e4 (.cons e0 .nil)) (fun w Z hA => V1 a1 hA (V0))
        · replace h121 := itF hb130 h121
          refine nx (pass rfl rfl hb130 rfl ?_)
          refine nx (pass rfl rfl hb130 rfl ?_)
          refine c_p (r_pF rfl hb130 rfl) rfl ?_
          refine c_p (r_as rfl) rfl ?_
          refine t_nil ?_
          refine t_then hK129 ?_
          refine t_F rfl rfl ?_
          refine t_seq fun K133 hK134 => ?_
          refine t_region ?_
          refine c_p (r_mv rfl) rfl ?_
          refine c_p (r_i rfl rfl rfl) rfl ?_
          refine c_p (r_mv rfl) rfl ?_
          rcases Bool.eq_false_or_eq_true (decide (y124 ≥ 0)) with hb135 | hb135
          · replace h121 := itT hb135 h121
            refine nx (gd rfl rfl hb135 (sp (r_mv rfl) rfl ?_))
            refine c_p (r_pT rfl hb135 rfl) rfl ?_
            refine c_p (r_as rfl) rfl ?_
            refine t_nil ?_
            refine t_then hK134 ?_
            refine t_F rfl rfl ?_
            refine t_skip ?_
            refine t_blockN ?_
            exact t_norm (t_go (J136 h121) ⟨rfl, rfl, rfl, rfl, rfl, rfl, trivial⟩ (.cons e0 (.cons e0 (.cons e0 (.cons e0 .nil)))) (fun w Z hA => V1 a0 hA (V1 a1 hA (V0))))
          · replace h121 := itF hb135 h121
            refine nx (pass rfl rfl hb135 rfl ?_)
            refine c_p (r_pF rfl hb135 rfl) rfl ?_
            refine c_p (r_as rfl) rfl ?_
            refine t_nil ?_
            refine t_then hK134 ?_
            refine t_F rfl rfl ?_
            refine t_skip ?_
            refine t_blockN ?_
            exact t_norm (t_go (J136 h121) ⟨rfl, rfl, rfl, rfl, rfl, rfl, trivial⟩ (.cons e0 (.cons e0 (.cons e0 (.cons e0 .nil)))) (fun w Z hA => V1 a0 hA (V1 a1 hA (V0))))
      refine t_seq fun K43 hK44 => ?_
      refine t_region ?_
      refine c_p (r_mv rfl) rfl ?_
      refine nx (t_bs (ps := [(0, .string z1)]) (cs := [.string z1]) Tryd.underlying72 ti9 rfl rfl (by kernel_rfl) rfl fun g45 => ?_)
      refine c_p (r_mv rfl) rfl ?_
      refine t_tr (Kd := kStr) (xs := [z1]) (.cons e0 .nil) rfl (fun w Z S hA hN => flat_EO (S := Nil) flatK_str (er1 (c1 := [.string z1]) rfl er0)) ?_
      obtain ⟨hc46, h⟩ := ck_out h
      refine nx (t_app (Kd := kStr) (xs := [z1]) (ys := ([] : List ByteArray)) (.cons e0 .nil) rfl rfl Tryd.underlying72 Tryd.underlying72 ti9 rfl rfl hc46 (srcN kStr) rfl fun t47 => ?_)
      refine c_s (r_lnL a0 Tryd.underlying72 rfl) rfl ?_
      refine c_p (r_mv rfl) rfl ?_
      refine t_nil ?_
      refine t_then hK44 ?_
      refine t_block ?_
      refine t_lp fun k92 hk93 => ?_
      have LP95 : ∀ (k97 : Nat) (x94 : Int), f_disk_Truncate_l1 z0 z1 z2 k97 x94 = some r → T 90 c [vw (kSlice 34 k_api_DiskFile) z0.Files [.slice p1 m2 c3], g_names] [[blk g7 [.int .i64 z2] 3], [blk g21 [.int .i64 z0.Room, .slice p1 m2 c3, .bool z0.Off, .int .i64 z0.Plan] 27], [blk g22 [.int .i64 0, .slice none 0 0, .bool false, .int .i64 0] 27], [row 9 kStr ([z1] ++ ([] : List ByteArray)) (.slice t47.1 t47.2.1 t47.2.2)], [blk g8 [.int .i64 0, .slice none 0 0, .bool false, .int .i64 0] 27]] [(1, .string z1), (3, .bool false), (4, .func (.func 55) #[] #[.pointer (some ⟨g7, 0, none⟩)]), (5, .func (.func 56) #[] #[.pointer (some ⟨g7, 0, none⟩)]), (6, .func (.func 43) #[] #[]), (7, .pointer (some ⟨g21, 0, none⟩)), (14, .pointer (some ⟨g22, 0, none⟩)), (32, .slice t47.1 t47.2.1 t47.2.2), (33, .int .i64 (([z1] ++ ([] : List ByteArray)).length : Int)), (34, .int .i64 x94)] k92 := by
        intro k97
        induction k97 with
        | zero => intro x94 h96; rewrite [f_disk_Truncate_l1] at h96; cases h96
        | succ k97 ih98 =>
          intro x94 h96
          rewrite [f_disk_Truncate_l1] at h96
          refine ti hk93 ?_
          refine t_seq fun K99 hK100 => ?_
          refine t_region ?_
          refine c_p (r_i rfl rfl rfl) rfl ?_
          refine t_nil ?_
          refine t_then hK100 ?_
          refine t_seq fun K101 hK102 => ?_
          rcases Bool.eq_false_or_eq_true (decide (x94 < (([z1] ++ ([] : List ByteArray)).length : Int))) with hb103 | hb103
          · replace h96 := itT hb103 h96
            refine t_T rfl hb103 ?_
            refine t_skip ?_
            refine t_then hK102 ?_
            refine t_seq fun K104 hK105 => ?_
            refine t_block ?_
            refine t_seq fun K106 hK107 => ?_
            refine t_region ?_
            obtain ⟨el111, hel111, h96⟩ := bs h96
            refine t_qL a3 hel111 fun q108 hq109 hm110 => ?_
            refine c_p (r_idx hq109 hm110 hel111 Tryd.underlying72 ti9 rfl rfl) rfl ?_
            refine t_oI opensO_str e3 hel111 fun t112 => ?_
            refine c_s (r_h1 a0 hq109 Tryd.underlying9 rfl rfl rfl) rfl ?_
            refine c_p (r_as rfl) rfl ?_
            refine t_nil ?_
            refine t_then hK107 ?_
            refine t_seq fun K113 hK114 => ?_
            refine t_region ?_
            refine c_p (r_mv rfl) rfl ?_
            obtain ⟨y115, hy115, h96⟩ := bs h96
            refine nx (t_ca (C36 _ _ hy115) Tryd.func36 nm36 rfl rfl rfl .nil (fun w Z hA => (V1 a1 hA V0)) rfl fun t116 => ?_)
            refine c_p (r_not rfl) rfl ?_
            refine t_nil ?_
            refine t_then hK114 ?_
            rcases Bool.eq_false_or_eq_true y115 with hb117 | hb117
            · replace h96 := itT hb117 h96
              refine t_F rfl (congrArg Bool.not hb117) ?_
              refine t_skip ?_
              refine t_blockN ?_
              refine t_then hK105 ?_
              refine t_region ?_
              refine c_p (r_i rfl rfl rfl) rfl ?_
              refine c_p (r_mv rfl) rfl ?_
              refine t_nil ?_
              refine t_cS (u := el111) (t := ()) shutsO_str hel111 (.cons e0 .nil) rfl (fun w Z hA => trivial) ?_
              exact t_norm (t_go (ih98 (IntKind.wrap .i64 (x94 + 1)) h96) ⟨rfl, rfl, rfl, rfl, rfl, rfl, rfl, rfl, rfl, rfl, trivial⟩ (.cons e1 (.cons e1 (.cons e1 (.cons e0 (.cons e0 .nil))))) (fun w Z hA => V1 a0 hA (V1 a1 hA (V0))))
            · replace h96 := itF hb117 h96
              refine t_T rfl (congrArg Bool.not hb117) ?_
              refine t_seq fun K118 hK119 => ?_
              refine t_region ?_
              refine c_p (r_bu (ps := []) (cs := [.int .i64 0, .slice none 0 0, .bool false, .int .i64 0]) rfl (by kernel_rfl)) rfl ?_
              refine nx (t_st u3 ti27 rfl rfl rfl rfl rfl (.t (.s (.s (.s (.s .z))))) ?_)
              refine c_p (r_as rfl) rfl ?_
              refine t_nil ?_
              refine t_then hK119 ?_
              refine t_ret ?_
              refine br (tr (tr (br (tr (ret2 rfl (v_N rfl a3 Tryd.underlying27 rfl ti27 rfl) (v_t rfl) (t_bk hR18 ?_))))))
              refine t_nr 34 k_api_DiskFile ?_
              exact t_go (J247 0 none 0 0 ([] : List api_DiskFile) false 0 243 h96) ⟨rfl, rfl, rfl, trivial⟩ (.cons e5 (.cons e0 .nil)) (fun w Z hA => V1 a1 hA (V0))
          · replace h96 := itF hb103 h96
            refine t_F rfl hb103 ?_
            refine t_exit ?_
            refine te (te (bx ?_))
            exact t_norm (t_go (J120 h96) ⟨rfl, rfl, rfl, rfl, rfl, rfl, rfl, trivial⟩ (.cons e0 (.cons e0 (.cons e0 (.cons e1 .nil)))) (fun w Z hA => V1 a0 hA (V1 a1 hA (V0))))
      exact t_go (LP95 ((((([z1] ++ ([] : List ByteArray)).length : Int) : Int) - (0)).toNat + 1) 0 h) ⟨rfl, rfl, rfl, rfl, rfl, rfl, rfl, rfl, rfl, rfl, trivial⟩ (.cons e4 (.cons e2 (.cons e1 (.cons e0 (.cons e0 .nil))))) (fun w Z hA => V1 a0 hA (V1 a1 hA (V0)))
  · replace h := itF hb29 h
    refine t_T rfl (congrArg Bool.not hb29) ?_
    refine t_seq fun K30 hK31 => ?_
    refine t_region ?_
    refine c_p (r_bu (ps := []) (cs := [.int .i64 0, .slice none 0 0, .bool false, .int .i64 0]) rfl (by kernel_rfl)) rfl ?_
    refine nx (t_st u0 ti27 rfl rfl rfl rfl rfl (.t (.s (.s (.s (.s .z))))) ?_)
    refine c_p (r_as rfl) rfl ?_
    refine t_nil ?_
    refine t_then hK31 ?_
    refine t_ret ?_
    refine tr (ret2 rfl (v_N rfl a0 Tryd.underlying27 rfl ti27 rfl) (v_t rfl) (t_bk hR18 ?_))
    refine t_nr 34 k_api_DiskFile ?_
    exact t_go (J247 0 none 0 0 ([] : List api_DiskFile) false 0 241 h) ⟨rfl, rfl, rfl, trivial⟩ (.cons e3 (.cons e0 .nil)) (fun w Z hA => V1 a1 hA (V0))
end Go.Proofs.YtkjeedijloobgaaDoor.Gx

/- Function 23, kaudit/disk.Rename: what it answers as a plain function, and that the Go code comes to exactly that (where the plain function gives an answer). -/
set_option linter.unusedVariables false
set_option linter.unusedSimpArgs false
namespace Go.Proofs.YtkjeedijloobgaaDoor.Gx
open Go.Gx Go.RowKit
/-! ### kaudit/disk.Rename: function 23 -/
def f_disk_Rename_j8 (x307 : Int) (x311 : List api_DiskFile) (x312 : Bool) (x313 : Int) (x314 : Int) : Option (api_Disk × Int) := some ((⟨x307, x311, x312, x313⟩ : api_Disk), x314)
def f_disk_Rename_j7 (y150 : api_Disk) (x171 : Int) (x293 : List api_DiskFile) : Option (api_Disk × Int) := f_disk_Rename_j8 y150.Room x293 y150.Off x171 0
def f_disk_Rename_j6 (y150 : api_Disk) (x171 : Int) (x287 : List api_DiskFile) : Option (api_Disk × Int) := f_disk_Rename_j7 y150 x171 x287
def f_disk_Rename_j5 (z2 : ByteArray) (y150 : api_Disk) (x171 : Int) (el185 : api_DiskFile) (y190 : List api_DiskFile) (x253 : Int) : Option (api_Disk × Int) := (f_slices_Insert_api_DiskFile_api_DiskFile y190 x253 [(⟨z2, el185.Data, el185.Safe⟩ : api_DiskFile)]).bind fun y281 => f_disk_Rename_j6 y150 x171 y281
def f_disk_Rename_j4 (z2 : ByteArray) (y150 : api_Disk) (x171 : Int) (el185 : api_DiskFile) (y190 : List api_DiskFile) (x253 : Int) : Option (api_Disk × Int) := if (decide (x253 < (y190.length : Int))) = true then ((at_ y190 x253).bind fun el264 => if (el264.Name.toList == z2.toList) = true then (f_disk_Rename_j6 y150 x171 (y190.set x253.toNat (⟨z2, el185.Data, el185.Safe⟩ : api_DiskFile))) else (f_disk_Rename_j5 z2 y150 x171 el185 y190 x253)) else (f_disk_Rename_j5 z2 y150 x171 el185 y190 x253)
def f_disk_Rename_l2 (z2 : ByteArray) (y150 : api_Disk) (x171 : Int) (el185 : api_DiskFile) (y190 : List api_DiskFile) : Nat → Int → Option (api_Disk × Int)
  | 0, _ => none
  | k238 + 1, x235 => if (decide (x235 < (y190.length : Int))) = true then ((at_ y190 x235).bind fun el248 => if (Op.bytesLess el248.Name.toList z2.toList) = true then (f_disk_Rename_l2 z2 y150 x171 el185 y190 k238 (IntKind.wrap .i64 (x235 + 1))) else (f_disk_Rename_j4 z2 y150 x171 el185 y190 x235)) else (f_disk_Rename_j4 z2 y150 x171 el185 y190 x235)
def f_disk_Rename_j3 (z2 : ByteArray) (y123 : Int) (y150 : api_Disk) (x171 : Int) : Option (api_Disk × Int) := (at_ y150.Files y123).bind fun el185 => (f_slices_Delete_api_DiskFile_api_DiskFile y150.Files y123 (IntKind.wrap .i64 (y123 + 1))).bind fun y190 => f_disk_Rename_l2 z2 y150 x171 el185 y190 ((((y190.length : Int) : Int) - (0)).toNat + 1) 0
def f_disk_Rename_j2 (z0 : api_Disk) (z2 : ByteArray) (y123 : Int) : Option (api_Disk × Int) := (f_disk_always z0 y123).bind fun y141 => if (y141 != 0) = true then (f_disk_Rename_j8 0 ([] : List api_DiskFile) false 0 y141) else ((f_fresh_Disk z0).bind fun y150 => if (decide (y150.Plan > 0)) = true then (if ((IntKind.wrap .i64 (y150.Plan - 1)) == 0) = true then ((f_disk_nothing (⟨y150.Room, y150.Files, true, (IntKind.wrap .i64 (y150.Plan - 1))⟩ : api_Disk) y123).bind fun y167 => f_disk_Rename_j8 y150.Room y150.Files true (IntKind.wrap .i64 (y150.Plan - 1)) 242) else (f_disk_Rename_j3 z2 y123 y150 (IntKind.wrap .i64 (y150.Plan - 1)))) else (f_disk_Rename_j3 z2 y123 y150 y150.Plan))
def f_disk_Rename_j1 (z0 : api_Disk) (z1 : ByteArray) (z2 : ByteArray) : Option (api_Disk × Int) := (f_disk_find z0 z1).bind fun y123 => if (decide (y123 < 0)) = true then (f_disk_Rename_j8 0 ([] : List api_DiskFile) false 0 244) else (if (decide (y123 ≥ 0)) = true then (f_disk_Rename_j2 z0 z2 y123) else (f_disk_Rename_j2 z0 z2 y123))
def f_disk_Rename_l1 (z0 : api_Disk) (z1 : ByteArray) (z2 : ByteArray) : Nat → Int → Option (api_Disk × Int)
  | 0, _ => none
  | k96 + 1, x93 => if (decide (x93 < (([z1] ++ [z2]).length : Int))) = true then ((at_ ([z1] ++ [z2]) x93).bind fun el110 => (f_disk_isName el110).bind fun y114 => if y114 = true then (f_disk_Rename_l1 z0 z1 z2 k96 (IntKind.wrap .i64 (x93 + 1))) else (f_disk_Rename_j8 0 ([] : List api_DiskFile) false 0 243)) else (f_disk_Rename_j1 z0 z1 z2)
def f_disk_Rename (z0 : api_Disk) (z1 : ByteArray) (z2 : ByteArray) : Option (api_Disk × Int) := (f_disk_Valid z0).bind fun y26 => if y26 = true then (if z0.Off = true then ((f_fresh_Disk z0).bind fun y38 => f_disk_Rename_j8 y38.Room y38.Files y38.Off y38.Plan 242) else (ck (fits ([z1].length + [z2].length) 16 = true) <| f_disk_Rename_l1 z0 z1 z2 ((((([z1] ++ [z2]).length : Int) : Int) - (0)).toNat + 1) 0)) else (f_disk_Rename_j8 0 ([] : List api_DiskFile) false 0 241)
set_option maxHeartbeats 4000000 in
set_option maxRecDepth 100000 in
theorem C23 (z0 : api_Disk) (z1 : ByteArray) (z2 : ByteArray) (p1 : Option Addr) (m2 : Nat) (c3 : Nat) (r : api_Disk × Int) (h : f_disk_Rename z0 z1 z2 = some r) : FunG Tryd.prog 23 #[.agg #[.int .i64 z0.Room, .slice p1 m2 c3, .bool z0.Off, .int .i64 z0.Plan], .string z1, .string z2] [vw (kSlice 34 k_api_DiskFile) z0.Files [.slice p1 m2 c3], g_names] [] (fun t : (Option Addr × Nat × Nat) => .tuple #[.agg #[.int .i64 r.1.Room, .slice t.1 t.2.1 t.2.2, .bool r.1.Off, .int .i64 r.1.Plan], .int .i64 r.2]) (fun t => []) (fun t => [[row 34 (kShare k_api_DiskFile) r.1.Files (.slice t.1 t.2.1 t.2.2)]]) := by
  unfold f_disk_Rename at h
  refine t_begin (args := [.agg #[.int .i64 z0.Room, .slice p1 m2 c3, .bool z0.Off, .int .i64 z0.Plan], .string z1, .string z2]) Tryd.func23 rfl Tryd.ntmps23 rfl fun c R hR => ?_
  have hQ : ∀ X, X = r → ∀ w2 (t : (Option Addr × Nat × Nat)), PostG c.w0 w2 c.M c.Y [] [[row 34 (kShare k_api_DiskFile) X.1.Files (.slice t.1 t.2.1 t.2.2)]] → R (.returned (.tuple #[.agg #[.int .i64 X.1.Room, .slice t.1 t.2.1 t.2.2, .bool X.1.Off, .int .i64 X.1.Plan], .int .i64 X.2])) w2 := fun X e => by subst e; exact hR
  refine t_seq fun K4 hK5 => ?_
  refine t_region ?_
  refine nx (t_bx (cs := [.int .i64 z0.Room, .slice p1 m2 c3, .bool z0.Off, .int .i64 z0.Plan]) rfl rfl rfl fun g6 => ?_)
  refine nx (t_bx (cs := [.string z2]) rfl rfl rfl fun g7 => ?_)
  refine nx (t_al (cs := [.int .i64 0, .slice none 0 0, .bool false, .int .i64 0]) ti27 rfl rfl fun g8 => ?_)
  refine c_p (r_as rfl) rfl ?_
  refine t_nil ?_
  refine t_then hK5 ?_
  refine t_seq fun K9 hK10 => ?_
  refine t_region ?_
  refine c_p (r_mf (vs := [.pointer (some ⟨g7, 0, none⟩)]) rfl) rfl ?_
  refine c_p (r_as rfl) rfl ?_
  refine t_nil ?_
  refine t_then hK10 ?_
  refine t_seq fun K11 hK12 => ?_
  refine t_region ?_
  refine c_s (r_ldA a2 Tryd.underlying27 rfl ti27 rfl rfl) rfl ?_
  refine c_p (r_mv rfl) rfl ?_
  refine c_s (r_ld a1 Tryd.underlying9 rfl rfl rfl) rfl ?_
  refine nx (t_bs (ps := [(0, .string z2)]) (cs := [.string z2]) Tryd.underlying72 ti9 rfl rfl (by kernel_rfl) rfl fun g13 => ?_)
  refine c_p (r_mv rfl) rfl ?_
  refine nx (t_in (args := [.agg #[.int .i64 z0.Room, .slice p1 m2 c3, .bool z0.Off, .int .i64 z0.Plan], .string z1, .slice (some ⟨g13, 0, none⟩) 1 1, .bool false, .func (.func 53) #[] #[], .func (.func 57) #[] #[.pointer (some ⟨g7, 0, none⟩)], .func (.func 43) #[] #[]]) (cap := []) (all := [.agg #[.int .i64 z0.Room, .slice p1 m2 c3, .bool z0.Off, .int .i64 z0.Plan], .string z1, .slice (some ⟨g13, 0, none⟩) 1 1, .bool false, .func (.func 53) #[] #[], .func (.func 57) #[] #[.pointer (some ⟨g7, 0, none⟩)], .func (.func 43) #[] #[]]) rfl rfl Tryd.func40 nm40 rfl rfl rfl Tryd.ntmps40 rfl fun R14 k15 hk16 hR17 => ?_)
  have J315 : ∀ (x307 : Int) (p308 : Option Addr) (m309 : Nat) (c310 : Nat) (x311 : List api_DiskFile) (x312 : Bool) (x313 : Int) (x314 : Int), f_disk_Rename_j8 x307 x311 x312 x313 x314 = some r → T 18 c [g_names] [[blk g8 [.int .i64 0, .slice none 0 0, .bool false, .int .i64 0] 27], [row 34 (kShare k_api_DiskFile) x311 (.slice p308 m309 c310)]] [(6, .pointer (some ⟨g8, 0, none⟩)), (7, .int .i64 0), (15, .tuple #[.agg #[.int .i64 x307, .slice p308 m309 c310, .bool x312, .int .i64 x313], .int .i64 x314])] k15 := by
    intro x307 p308 m309 c310 x311 x312 x313 x314 h316
    unfold f_disk_Rename_j8 at h316
    refine ti hk16 ?_
    refine c_p (r_ex rfl rfl) rfl ?_
    refine c_p (r_ex rfl rfl) rfl ?_
    refine nx (t_st u0 ti27 rfl rfl rfl rfl rfl (.t (.s (.s (.s (.s .z))))) ?_)
    refine c_p (r_as rfl) rfl ?_
    refine t_nil ?_
    refine t_then hK12 ?_
    refine t_ret ?_
    exact ret2 rfl (v_N rfl a0 Tryd.underlying27 rfl ti27 rfl) (v_t rfl) (t_leave (hQ _ (Option.some.inj h316)) (p308, m309, c310) rfl (fun w Z hA => V0) (.cons e1 .nil))
  refine t_seq fun K18 hK19 => ?_
  refine t_region ?_
  refine nx (t_bx (cs := [.int .i64 z0.Room, .slice p1 m2 c3, .bool z0.Off, .int .i64 z0.Plan]) rfl rfl rfl fun g20 => ?_)
  refine nx (t_al (cs := [.int .i64 0, .slice none 0 0, .bool false, .int .i64 0]) ti27 rfl rfl fun g21 => ?_)
  refine c_p (r_as rfl) rfl ?_
  refine t_nil ?_
  refine t_then hK19 ?_
  refine t_seq fun K22 hK23 => ?_
  refine t_seq fun K24 hK25 => ?_
  refine t_region ?_
  refine c_s (r_ldA a1 Tryd.underlying27 rfl ti27 rfl rfl) rfl ?_
  obtain ⟨y26, hy26, h⟩ := bs h
  refine nx (t_ca (C10 _ _ _ _ _ hy26) Tryd.func10 nm10 rfl rfl rfl .nil (fun w Z hA => (V1 a0 hA (V1 a1 hA V0))) rfl fun t27 => ?_)
  refine c_p (r_not rfl) rfl ?_
  refine t_nil ?_
  refine t_then hK25 ?_
  rcases Bool.eq_false_or_eq_true y26 with hb28 | hb28
  · replace h := itT hb28 h
    refine t_F rfl (congrArg Bool.not hb28) ?_
    refine t_skip ?_
    refine t_then hK23 ?_
    refine t_seq fun K31 hK32 => ?_
    refine t_seq fun K33 hK34 => ?_
    refine t_region ?_
    refine c_p (r_fa (off' := 2) Tryd.underlying27 rfl ti4 rfl rfl) rfl ?_
    refine c_s (r_ld a1 Tryd.underlying4 rfl rfl rfl) rfl ?_
    refine t_nil ?_
    refine t_then hK34 ?_
    rcases Bool.eq_false_or_eq_true z0.Off with hb35 | hb35
    · replace h := itT hb35 h
      refine t_T rfl hb35 ?_
      refine t_seq fun K36 hK37 => ?_
      refine t_region ?_
      refine c_s (r_ldA a1 Tryd.underlying27 rfl ti27 rfl rfl) rfl ?_
      obtain ⟨y38, hy38, h⟩ := bs h
      refine nx (t_ca (C61 _ _ _ _ _ hy38) Tryd.func61 nm61 rfl rfl rfl .nil (fun w Z hA => (V1 a0 hA (V1 a1 hA V0))) rfl fun t39 => ?_)
      refine nx (t_st u1 ti27 rfl rfl rfl rfl rfl (.t (.s (.s (.s (.s .z))))) ?_)
      refine c_p (r_as rfl) rfl ?_
      refine t_nil ?_
      refine t_then hK37 ?_
      refine t_ret ?_
      refine tr (ret2 rfl (v_N rfl a1 Tryd.underlying27 rfl ti27 rfl) (v_t rfl) (t_bk hR17 ?_))
      refine t_fe e0 ?_
      exact t_go (J315 y38.Room t39.1 t39.2.1 t39.2.2 y38.Files y38.Off y38.Plan 242 h) ⟨rfl, rfl, rfl, trivial⟩ (.cons e4 (.cons e0 .nil)) (fun w Z hA => V1 a1 hA (V0))
    · replace h := itF hb35 h
      refine t_F rfl hb35 ?_
      refine t_skip ?_
      refine t_then hK32 ?_
      refine t_seq fun K40 hK41 => ?_
      have J119 : f_disk_Rename_j1 z0 z1 z2 = some r → T 90 c [vw (kSlice 34 k_api_DiskFile) z0.Files [.slice p1 m2 c3], g_names] [[blk g7 [.string z2] 9], [blk g20 [.int .i64 z0.Room, .slice p1 m2 c3, .bool z0.Off, .int .i64 z0.Plan] 27], [blk g21 [.int .i64 0, .slice none 0 0, .bool false, .int .i64 0] 27], [blk g8 [.int .i64 0, .slice none 0 0, .bool false, .int .i64 0] 27]] [(1, .string z1), (3, .bool false), (4, .func (.func 53) #[] #[]), (5, .func (.func 57) #[] #[.pointer (some ⟨g7, 0, none⟩)]), (6, .func (.func 43) #[] #[]), (7, .pointer (some ⟨g20, 0, none⟩)), (14, .pointer (some ⟨g21, 0, none⟩))] K40 := by
        intro h120
        unfold f_disk_Rename_j1 at h120
        refine ti hK41 ?_
        refine t_seq fun K121 hK122 => ?_
        refine t_region ?_
        refine c_s (r_ldA a1 Tryd.underlying27 rfl ti27 rfl rfl) rfl ?_
        refine c_p (r_mv rfl) rfl ?_
        obtain ⟨y123, hy123, h120⟩ := bs h120
        refine nx (t_ca (C34 _ _ _ _ _ _ hy123) Tryd.func34 nm34 rfl rfl rfl .nil (fun w Z hA => (V1 a0 hA (V1 a1 hA V0))) rfl fun t124 => ?_)
        refine c_p (r_as rfl) rfl ?_
        refine t_nil ?_
        refine t_then hK122 ?_
        refine t_seq fun K125 hK126 => ?_
        have J135 : f_disk_Rename_j2 z0 z2 y123 = some r → T 90 c [vw (kSlice 34 k_api_DiskFile) z0.Files [.slice p1 m2 c3], g_names] [[blk g7 [.string z2] 9], [blk g20 [.int .i64 z0.Room, .slice p1 m2 c3, .bool z0.Off, .int .i64 z0.Plan] 27], [blk g21 [.int .i64 0, .slice none 0 0, .bool false, .int .i64 0] 27], [blk g8 [.int .i64 0, .slice none 0 0, .bool false, .int .i64 0] 27]] [(4, .func (.func 53) #[] #[]), (5, .func (.func 57) #[] #[.pointer (some ⟨g7, 0, none⟩)]), (6, .func (.func 43) #[] #[]), (7, .pointer (some ⟨g20, 0, none⟩)), (14, .pointer (some ⟨g21, 0, none⟩)), (18, .int .i64 y123)] K125 := by
          intro h136
          unfold f_disk_Rename_j2 at h136
          refine ti hK126 ?_
          refine t_seq fun K137 hK138 => ?_
          refine t_seq fun K139 hK140 => ?_
          refine t_region ?_
          refine c_p (r_mv rfl) rfl ?_
          refine c_s (r_ldA a1 Tryd.underlying27 rfl ti27 rfl rfl) rfl ?_
          refine c_p (r_mv rfl) rfl ?_
          obtain ⟨y141, hy141, h136⟩ := bs h136
          refine nx (t_ca (C53 _ _ _ _ _ _ hy141) Tryd.func53 nm53 rfl rfl rfl .nil (fun w Z hA => (V1 a0 hA (V1 a1 hA V0))) rfl fun t142 => ?_)
          refine c_p (r_as rfl) rfl ?_
          refine t_nil ?_
          refine t_then hK140 ?_
          refine t_seq fun K143 hK144 => ?_
          refine t_region ?_
          refine c_p (r_mv rfl) rfl ?_
          refine c_p (r_i rfl rfl rfl) rfl ?_
          refine t_nil ?_
          refine t_then hK144 ?_
          rcases Bool.eq_false_or_eq_true (y141 != 0) with hb145 | hb145
          · replace h136 := itT hb145 h136
            refine t_T rfl hb145 ?_
            refine t_seq fun K146 hK147 => ?_
            refine t_region ?_
            refine c_p (r_bu (ps := []) (cs := [.int .i64 0, .slice none 0 0, .bool false, .int .i64 0]) rfl (by kernel_rfl)) rfl ?_
            refine c_p (r_mv rfl) rfl ?_
            refine nx (t_st u2 ti27 rfl rfl rfl rfl rfl (.t (.s (.s (.s (.s .z))))) ?_)
            refine c_p (r_as rfl) rfl ?_
            refine t_nil ?_
            refine t_then hK147 ?_
            refine t_ret ?_
            refine tr (ret2 rfl (v_N rfl a2 Tryd.underlying27 rfl ti27 rfl) (v_t rfl) (t_bk hR17 ?_))
            refine t_nr 34 k_api_DiskFile ?_
            refine t_fe e0 ?_
            exact t_go (J315 0 none 0 0 ([] : List api_DiskFile) false 0 y141 h136) ⟨rfl, rfl, rfl, trivial⟩ (.cons e4 (.cons e0 .nil)) (fun w Z hA => V1 a1 hA (V0))
          · replace h136 := itF hb145 h136
            refine t_F rfl hb145 ?_
            refine t_skip ?_
            refine t_then hK138 ?_
            refine t_seq fun K148 hK149 => ?_
            refine t_region ?_
            refine c_s (r_ldA a1 Tryd.underlying27 rfl ti27 rfl rfl) rfl ?_
            obtain ⟨y150, hy150, h136⟩ := bs h136
            refine nx (t_ca (C61 _ _ _ _ _ hy150) Tryd.func61 nm61 rfl rfl rfl .nil (fun w Z hA => (V1 a0 hA (V1 a1 hA V0))) rfl fun t151 => ?_)
            refine t_fe e0 ?_
            refine nx (t_al (cs := [.int .i64 0, .slice none 0 0, .bool false, .int .i64 0]) ti27 rfl rfl fun g152 => ?_)
            refine nx (t_st u0 ti27 rfl rfl rfl rfl rfl (.t (.s (.s (.s (.s .z))))) ?_)
            refine t_nil ?_
            refine t_then hK149 ?_
            refine t_seq fun K153 hK154 => ?_
            have J172 : ∀ (x171 : Int), f_disk_Rename_j3 z2 y123 y150 x171 = some r → T 90 c [g_names] [[blk g7 [.string z2] 9], [blk g21 [.int .i64 0, .slice none 0 0, .bool false, .int .i64 0] 27], [row 34 (kShare k_api_DiskFile) y150.Files (.slice t151.1 t151.2.1 t151.2.2)], [blk g152 [.int .i64 y150.Room, .slice t151.1 t151.2.1 t151.2.2, .bool y150.Off, .int .i64 x171] 27], [blk g8 [.int .i64 0, .slice none 0 0, .bool false, .int .i64 0] 27]] [(5, .func (.func 57) #[] #[.pointer (some ⟨g7, 0, none⟩)]), (14, .pointer (some ⟨g21, 0, none⟩)), (18, .int .i64 y123), (20, .pointer (some ⟨g152, 0, none⟩))] K153 := by
              intro x171 h173
              unfold f_disk_Rename_j3 at h173
              refine ti hK154 ?_
              refine t_seq fun K174 hK175 => ?_
              refine t_region ?_
              refine c_p (r_mv rfl) rfl ?_
              refine c_p (r_mv rfl) rfl ?_
              refine nx (t_in (args := [.pointer (some ⟨g152, 0, none⟩), .int .i64 y123]) (cap := [.pointer (some ⟨g7, 0, none⟩)]) (all := [.pointer (some ⟨g152, 0, none⟩), .int .i64 y123, .pointer (some ⟨g7, 0, none⟩)]) rfl rfl Tryd.func57 nm57 rfl rfl rfl Tryd.ntmps57 rfl fun R176 k177 hk178 hR179 => ?_)
              have J294 : ∀ (p290 : Option Addr) (m291 : Nat) (c292 : Nat) (x293 : List api_DiskFile), f_disk_Rename_j7 y150 x171 x293 = some r → T 90 c [g_names] [[blk g21 [.int .i64 0, .slice none 0 0, .bool false, .int .i64 0] 27], [row 34 (kShare k_api_DiskFile) x293 (.slice p290 m291 c292)], [blk g152 [.int .i64 y150.Room, .slice p290 m291 c292, .bool y150.Off, .int .i64 x171] 27], [blk g8 [.int .i64 0, .slice none 0 0, .bool false, .int .i64 0] 27]] [(14, .pointer (some ⟨g21, 0, none⟩)), (20, .pointer (some ⟨g152, 0, none⟩)), (88, .tuple #[])] k177 := by
                intro p290 m291 c292 x293 h295
                unfold f_disk_Rename_j7 at h295
                refine ti hk178 ?_
                refine t_nil ?_
                refine t_then hK175 ?_
                refine t_seq fun K296 hK297 => ?_
                refine t_region ?_
                refine c_s (r_ldA a2 Tryd.underlying27 rfl ti27 rfl rfl) rfl ?_
                refine nx (t_st u0 ti27 rfl rfl rfl rfl rfl (.t (.s (.s (.s (.s .z))))) ?_)
                refine c_p (r_as rfl) rfl ?_
                refine t_nil ?_
                refine t_then hK297 ?_
                refine t_ret ?_
                refine ret2 rfl (v_N rfl a0 Tryd.underlying27 rfl ti27 rfl) (v_t rfl) (t_bk hR17 ?_)
                exact t_go (J315 y150.Room p290 m291 c292 x293 y150.Off x171 0 h295) ⟨rfl, rfl, rfl, trivial⟩ (.cons e3 (.cons e1 .nil)) (fun w Z hA => V1 a0 hA (V0))
              refine t_seq fun K180 hK181 => ?_
              refine t_region ?_
              refine c_p (r_mv rfl) rfl ?_
              refine c_p (r_nc rfl) rfl ?_
              refine c_p (r_fa (off' := 1) Tryd.underlying27 rfl ti25 rfl rfl) rfl ?_
              refine c_s (r_ld a3 Tryd.underlying25 rfl rfl rfl) rfl ?_
              refine c_p (r_mv rfl) rfl ?_
              obtain ⟨el185, hel185, h173⟩ := bs h173
              refine t_qL a2 hel185 fun q182 hq183 hm184 => ?_
              refine c_p (r_idx hq183 hm184 hel185 Tryd.underlying25 ti34 rfl rfl) rfl ?_
              refine t_oI (opensO_share k_api_DiskFile_opens) e2 hel185 fun t186 => ?_
              refine c_s (r_hA a0 hq183 Tryd.underlying34 rfl ti34 rfl rfl) rfl ?_
              refine nx (t_al (cs := [.string (⟨#[]⟩ : ByteArray), .slice none 0 0, .int .i64 0]) ti34 rfl rfl fun g187 => ?_)
              refine nx (t_st u0 ti34 rfl rfl rfl rfl rfl (.t (.s (.s (.s .z)))) ?_)
              refine t_nil ?_
              refine t_then hK181 ?_
              refine t_seq fun K188 hK189 => ?_
              refine t_region ?_
              refine c_p (r_mv rfl) rfl ?_
              refine c_p (r_mv rfl) rfl ?_
              refine c_p (r_nc rfl) rfl ?_
              refine c_p (r_fa (off' := 1) Tryd.underlying27 rfl ti25 rfl rfl) rfl ?_
              refine c_s (r_ld a4 Tryd.underlying25 rfl rfl rfl) rfl ?_
              refine c_p (r_mv rfl) rfl ?_
              refine c_p (r_mv rfl) rfl ?_
              refine c_p (r_i rfl rfl rfl) rfl ?_
              refine t_cS (u := el185) (t := (t186.1, t186.2.1, t186.2.2)) (shutsO_share k_api_DiskFile_shuts) hel185 (.cons e1 .nil) rfl (fun w Z hA => (V1 a0 hA V0)) ?_
              obtain ⟨y190, hy190, h173⟩ := bs h173
              refine nx (t_ca (C58s _ _ _ _ _ _ _ hy190) Tryd.func58 nm58 rfl rfl rfl (.cons e0 .nil) (fun w Z hA => V0) rfl fun t191 => ?_)
              refine c_p (r_nc rfl) rfl ?_
              refine c_p (r_fa (off' := 1) Tryd.underlying27 rfl ti25 rfl rfl) rfl ?_
              refine nx (t_st u4 ti25 rfl rfl rfl rfl rfl (.s (.t (.s .z))) ?_)
              refine t_nil ?_
              refine t_then hK189 ?_
              refine t_seq fun K192 hK193 => ?_
              refine t_region ?_
              refine c_s (r_ld a2 Tryd.underlying9 rfl rfl rfl) rfl ?_
              refine c_p (r_fa (off' := 0) Tryd.underlying34 rfl ti9 rfl rfl) rfl ?_
              refine nx (t_st u1 ti9 rfl rfl rfl rfl rfl (.t (.s .z)) ?_)
              refine t_nil ?_
              refine t_then hK193 ?_
              refine t_region ?_
              refine c_p (r_mv rfl) rfl ?_
              refine c_s (r_ldA a1 Tryd.underlying34 rfl ti34 rfl rfl) rfl ?_
              refine nx (t_in (args := [.pointer (some ⟨g152, 0, none⟩), .agg #[.string z2, .slice t186.1 t186.2.1 t186.2.2, .int .i64 el185.Safe]]) (cap := []) (all := [.pointer (some ⟨g152, 0, none⟩), .agg #[.string z2, .slice t186.1 t186.2.1 t186.2.2, .int .i64 el185.Safe]]) rfl rfl Tryd.func42 nm42 rfl rfl rfl Tryd.ntmps42 rfl fun R194 k195 hk196 hR197 => ?_)
              have J288 : ∀ (p284 : Option Addr) (m285 : Nat) (c286 : Nat) (x287 : List api_DiskFile), f_disk_Rename_j6 y150 x171 x287 = some r → T 29 c [g_names] [[blk g21 [.int .i64 0, .slice none 0 0, .bool false, .int .i64 0] 27], [row 34 (kShare k_api_DiskFile) x287 (.slice p284 m285 c286)], [blk g152 [.int .i64 y150.Room, .slice p284 m285 c286, .bool y150.Off, .int .i64 x171] 27], [blk g8 [.int .i64 0, .slice none 0 0, .bool false, .int .i64 0] 27]] [(28, .tuple #[])] k195 := by
                intro p284 m285 c286 x287 h289
                unfold f_disk_Rename_j6 at h289
                refine ti hk196 ?_
                refine t_nil ?_
                refine end0 rfl  (t_bk hR179 ?_)
                exact t_go (J294 p284 m285 c286 x287 h289) ⟨rfl, rfl, rfl, trivial⟩ (.cons e0 (.cons e0 (.cons e0 (.cons e0 .nil)))) (fun w Z hA => V1 a0 hA (V0))
              refine t_seq fun K198 hK199 => ?_
              refine t_region ?_
              refine nx (t_bx (cs := [.string z2, .slice t186.1 t186.2.1 t186.2.2, .int .i64 el185.Safe]) rfl rfl rfl fun g200 => ?_)
              refine t_nil ?_
              refine t_then hK199 ?_
              refine t_seq fun K201 hK202 => ?_
              refine t_region ?_
              refine c_p (r_as rfl) rfl ?_
              refine t_nil ?_
              refine t_then hK202 ?_
              refine t_seq fun K203 hK204 => ?_
              have J254 : ∀ (x253 : Int), f_disk_Rename_j4 z2 y150 x171 el185 y190 x253 = some r → T 65 c [vw (kSlice 5 (kInt .u8)) el185.Data [.slice t186.1 t186.2.1 t186.2.2], g_names] [[row 34 (kShare k_api_DiskFile) y190 (.slice t191.1 t191.2.1 t191.2.2)], [blk g152 [.int .i64 y150.Room, .slice t191.1 t191.2.1 t191.2.2, .bool y150.Off, .int .i64 x171] 27], [blk g200 [.string z2, .slice t186.1 t186.2.1 t186.2.2, .int .i64 el185.Safe] 34], [blk g21 [.int .i64 0, .slice none 0 0, .bool false, .int .i64 0] 27], [blk g8 [.int .i64 0, .slice none 0 0, .bool false, .int .i64 0] 27]] [(0, .pointer (some ⟨g152, 0, none⟩)), (3, .pointer (some ⟨g200, 0, none⟩)), (4, .int .i64 x253)] K203 := by
                intro x253 h255
                unfold f_disk_Rename_j4 at h255
                refine ti hK204 ?_
                refine t_seq fun K256 hK257 => ?_
                have J276 : f_disk_Rename_j5 z2 y150 x171 el185 y190 x253 = some r → T 65 c [vw (kSlice 5 (kInt .u8)) el185.Data [.slice t186.1 t186.2.1 t186.2.2], g_names] [[row 34 (kShare k_api_DiskFile) y190 (.slice t191.1 t191.2.1 t191.2.2)], [blk g152 [.int .i64 y150.Room, .slice t191.1 t191.2.1 t191.2.2, .bool y150.Off, .int .i64 x171] 27], [blk g200 [.string z2, .slice t186.1 t186.2.1 t186.2.2, .int .i64 el185.Safe] 34], [blk g21 [.int .i64 0, .slice none 0 0, .bool false, .int .i64 0] 27], [blk g8 [.int .i64 0, .slice none 0 0, .bool false, .int .i64 0] 27]] [(0, .pointer (some ⟨g152, 0, none⟩)), (3, .pointer (some ⟨g200, 0, none⟩)), (4, .int .i64 x253)] K256 := by
                  intro h277
                  unfold f_disk_Rename_j5 at h277
                  refine ti hK257 ?_
                  refine t_draw mixed (fun w_ => Bk g152 [.int .i64 y150.Room, .slice t191.1 t191.2.1 t191.2.2, .bool y150.Off, .int .i64 x171] w_ ∧ True) [4] [7, 8, 11] rfl ?_
                  refine q_p 0 panic_body rfl (by kernel_rfl) W0 (r_mv rfl) rfl ?_
                  refine q_p 1 panic_body rfl (by kernel_rfl) W0 (r_mv rfl) rfl ?_
                  refine q_p 2 panic_body rfl (by kernel_rfl) W0 (r_nc rfl) rfl ?_
                  refine q_p 3 panic_body rfl (by kernel_rfl) W0 (r_fa (off' := 1) Tryd.underlying27 rfl ti25 rfl rfl) rfl ?_
                  refine q_s 4 panic_body rfl (by kernel_rfl) W0 (by kernel_rfl) (fun w H => ⟨bk a1 H, trivial⟩) (b_ld (fun _ h => h.1) Tryd.underlying25 rfl rfl rfl) rfl ?_
                  refine q_p 5 panic_body rfl (by kernel_rfl) W0 (r_mv rfl) rfl ?_
                  refine q_u 6 panic_body rfl (by kernel_rfl) W0 (by kernel_rfl) (r_ldA a2 Tryd.underlying34 rfl ti34 rfl rfl) rfl ?_
                  refine d1 7 rfl (by kernel_rfl) (by kernel_rfl) ?_
                  refine t_bs (ps := [(0, .agg #[.string z2, .slice t186.1 t186.2.1 t186.2.2, .int .i64 el185.Safe])]) (cs := [.string z2, .slice t186.1 t186.2.1 t186.2.2, .int .i64 el185.Safe]) Tryd.underlying25 ti34 rfl rfl (by kernel_rfl) rfl fun g280 => ?_
                  refine dk (fun w H => ⟨bk a2 H, trivial⟩) ?_
                  refine d1 8 rfl (by kernel_rfl) (by kernel_rfl) ?_
                  refine t_tr (Kd := (kShare k_api_DiskFile)) (xs := [(⟨z2, el185.Data, el185.Safe⟩ : api_DiskFile)]) (.cons e0 .nil) rfl (fun w Z S hA hN => ER_EO_share (er1 (c1 := [.string z2, .slice t186.1 t186.2.1 t186.2.2, .int .i64 el185.Safe]) (k_api_DiskFile_shuts (x := (⟨z2, el185.Data, el185.Safe⟩ : api_DiskFile)) (t := (t186.1, t186.2.1, t186.2.2)) (V1 a0 hA V0)) er0)) ?_
                  obtain ⟨y281, hy281, h277⟩ := bs h277
                  refine t_ca (C65s _ _ _ _ _ _ _ _ _ _ hy281) Tryd.func65 nm65 rfl rfl rfl (.cons e1 (.cons e0 .nil)) (fun w Z hA => V0) rfl fun t282 => ?_
                  refine dn (by kernel_rfl) ?_
                  refine q_p 9 panic_body rfl (by kernel_rfl) W0 (r_nc rfl) rfl ?_
                  refine q_p 10 panic_body rfl (by kernel_rfl) W0 (r_fa (off' := 1) Tryd.underlying27 rfl ti25 rfl rfl) rfl ?_
                  refine d1 11 rfl (by kernel_rfl) (by kernel_rfl) ?_
                  refine t_st u1 ti25 rfl rfl rfl rfl rfl (.s (.t (.s .z))) ?_
                  refine dn (by kernel_rfl) ?_
                  refine dz (by kernel_rfl) ?_
                  refine end0 rfl  (t_bk hR197 ?_)
                  exact t_go (J288 t282.1 t282.2.1 t282.2.2 y281 h277) ⟨rfl, trivial⟩ (.cons e3 (.cons e0 (.cons e0 (.cons e1 .nil)))) (fun w Z hA => V1 a1 hA (V0))
                refine t_seq fun K258 hK259 => ?_
                refine t_quiet mixed (by kernel_rfl) (panic_then (panic_then panic_body)) ?_
                refine k_p (r_mv rfl) rfl ?_
                refine k_p (r_mv rfl) rfl ?_
                refine k_p (r_nc rfl) rfl ?_
                refine k_p (r_fa (off' := 1) Tryd.underlying27 rfl ti25 rfl rfl) rfl ?_
                refine k_s (r_ld a1 Tryd.underlying25 rfl rfl rfl) rfl ?_
                refine k_s (r_lnL a0 Tryd.underlying25 rfl) rfl ?_
                refine k_p (r_i rfl rfl rfl) rfl ?_
                refine k_p (r_mv rfl) rfl ?_
                rcases Bool.eq_false_or_eq_true (decide (x253 < (y190.length : Int))) with hb260 | hb260
                · replace h255 := itT hb260 h255
                  refine kg_p rfl rfl hb260 (r_mv rfl) rfl ?_
                  refine kg_p rfl rfl hb260 (r_nc rfl) rfl ?_
                  refine kg_p rfl rfl hb260 (r_fa (off' := 1) Tryd.underlying27 rfl ti25 rfl rfl) rfl ?_
                  refine kg_s rfl rfl hb260 (r_ld a1 Tryd.underlying25 rfl rfl rfl) rfl ?_
                  refine kg_p rfl rfl hb260 (r_mv rfl) rfl ?_
                  obtain ⟨el264, hel264, h255⟩ := bs h255
                  refine t_qL a0 hel264 fun q261 hq262 hm263 => ?_
                  refine kg_p rfl rfl hb260 (r_idx hq262 hm263 hel264 Tryd.underlying25 ti34 rfl rfl) rfl ?_
                  refine t_qf hq262 0 fun q265 hq266 => ?_
                  refine kg_p rfl rfl hb260 (r_fai hq262 hq266 Tryd.underlying34 rfl ti9 rfl rfl) rfl ?_
                  refine t_oI (opensO_share k_api_DiskFile_opens) e0 hel264 fun t267 => ?_
                  refine kg_s rfl rfl hb260 (r_h1 a0 hq266 Tryd.underlying9 rfl rfl rfl) rfl ?_
                  refine kg_p rfl rfl hb260 (r_fa (off' := 0) Tryd.underlying34 rfl ti9 rfl rfl) rfl ?_
                  refine kg_s rfl rfl hb260 (r_ld a2 Tryd.underlying9 rfl rfl rfl) rfl ?_
                  refine kg_p rfl rfl hb260 (r_s rfl rfl rfl) rfl ?_
                  refine k_p (r_pT rfl hb260 rfl) rfl ?_
                  refine k_z ?_
                  refine t_then hK259 ?_
                  rcases Bool.eq_false_or_eq_true (el264.Name.toList == z2.toList) with hb268 | hb268
                  · replace h255 := itT hb268 h255
                    refine t_T rfl hb268 ?_
                    refine t_seq fun K269 hK270 => ?_
                    refine t_draw mixed (fun w_ => True) [] [7] rfl ?_
                    refine q_p 0 (panic_then (panic_then panic_body)) rfl (by kernel_rfl) W0 (r_mv rfl) rfl ?_
                    refine q_p 1 (panic_then (panic_then panic_body)) rfl (by kernel_rfl) W0 (r_nc rfl) rfl ?_
                    refine q_p 2 (panic_then (panic_then panic_body)) rfl (by kernel_rfl) W0 (r_fa (off' := 1) Tryd.underlying27 rfl ti25 rfl rfl) rfl ?_
                    refine q_u 3 (panic_then (panic_then panic_body)) rfl (by kernel_rfl) W0 (by kernel_rfl) (r_ld a1 Tryd.underlying25 rfl rfl rfl) rfl ?_
                    refine q_p 4 (panic_then (panic_then panic_body)) rfl (by kernel_rfl) W0 (r_mv rfl) rfl ?_
                    refine q_u 5 (panic_then (panic_then panic_body)) rfl (by kernel_rfl) W0 (by kernel_rfl) (r_ldA a2 Tryd.underlying34 rfl ti34 rfl rfl) rfl ?_
                    refine t_qH a0 hel264 fun q273 hq274 hm275 => ?_
                    refine q_p 6 (panic_then (panic_then panic_body)) rfl (by kernel_rfl) W0 (r_idx hq274 hm275 hel264 Tryd.underlying25 ti34 rfl rfl) rfl ?_
                    refine d1 7 rfl (by kernel_rfl) (by kernel_rfl) ?_
                    refine t_hs u0 hq274 ti34 rfl rfl rfl rfl rfl (.t (.s (.s (.s .z)))) ?_
                    refine dn (by kernel_rfl) ?_
                    refine dz (by kernel_rfl) ?_
                    refine t_then hK270 ?_
                    refine t_ret ?_
                    refine tr (ret0 rfl  (t_bk hR197 ?_))
                    refine t_cI (u := (⟨z2, el185.Data, el185.Safe⟩ : api_DiskFile)) (t := (t186.1, t186.2.1, t186.2.2)) (shutsO_share k_api_DiskFile_shuts) (.cons e0 .nil) rfl (fun w Z hA => (V1 a1 hA V0)) ?_
                    have hn283 := at_set (u' := (⟨z2, el185.Data, el185.Safe⟩ : api_DiskFile)) hel264
                    exact t_go (J288 t191.1 t191.2.1 t191.2.2 (y190.set x253.toNat (⟨z2, el185.Data, el185.Safe⟩ : api_DiskFile)) h255) ⟨rfl, trivial⟩ (.cons e3 (.cons e0 (.cons e0 (.cons e1 .nil)))) (fun w Z hA => V1 a2 hA (V0))
                  · replace h255 := itF hb268 h255
                    refine t_F rfl hb268 ?_
                    refine t_skip ?_
                    refine t_cS (u := el264) (t := (t267.1, t267.2.1, t267.2.2)) (shutsO_share k_api_DiskFile_shuts) hel264 (.cons e0 .nil) rfl (fun w Z hA => (V1 a0 hA V0)) ?_
                    exact t_norm (t_go (J276 h255) ⟨rfl, rfl, rfl, trivial⟩ (.cons e0 (.cons e0 (.cons e0 (.cons e0 (.cons e0 .nil))))) (fun w Z hA => V1 a1 hA (V1 a2 hA (V0))))
                · replace h255 := itF hb260 h255
                  refine k_x rfl rfl hb260 rfl ?_
                  refine k_x rfl rfl hb260 rfl ?_
                  refine k_x rfl rfl hb260 rfl ?_
                  refine k_x rfl rfl hb260 rfl ?_
                  refine k_x rfl rfl hb260 rfl ?_
                  refine k_x rfl rfl hb260 rfl ?_
                  refine k_x rfl rfl hb260 rfl ?_
                  refine k_x rfl rfl hb260 rfl ?_
                  refine k_x rfl rfl hb260 rfl ?_
                  refine k_x rfl rfl hb260 rfl ?_
                  refine k_x rfl rfl hb260 rfl ?_
                  refine k_p (r_pF rfl hb260 rfl) rfl ?_
                  refine k_z ?_
                  refine t_then hK259 ?_
                  refine t_F rfl rfl ?_
                  refine t_skip ?_
                  exact t_norm (t_go (J276 h255) ⟨rfl, rfl, rfl, trivial⟩ (.cons e0 (.cons e0 (.cons e0 (.cons e0 (.cons e0 .nil))))) (fun w Z hA => V1 a0 hA (V1 a1 hA (V0))))
              refine t_block ?_
              refine t_lp fun k233 hk234 => ?_
              have LP236 : ∀ (k238 : Nat) (x235 : Int), f_disk_Rename_l2 z2 y150 x171 el185 y190 k238 x235 = some r → T 65 c [vw (kSlice 5 (kInt .u8)) el185.Data [.slice t186.1 t186.2.1 t186.2.2], g_names] [[row 34 (kShare k_api_DiskFile) y190 (.slice t191.1 t191.2.1 t191.2.2)], [blk g152 [.int .i64 y150.Room, .slice t191.1 t191.2.1 t191.2.2, .bool y150.Off, .int .i64 x171] 27], [blk g200 [.string z2, .slice t186.1 t186.2.1 t186.2.2, .int .i64 el185.Safe] 34], [blk g21 [.int .i64 0, .slice none 0 0, .bool false, .int .i64 0] 27], [blk g8 [.int .i64 0, .slice none 0 0, .bool false, .int .i64 0] 27]] [(0, .pointer (some ⟨g152, 0, none⟩)), (3, .pointer (some ⟨g200, 0, none⟩)), (4, .int .i64 x235)] k233 := by
                intro k238
                induction k238 with
                | zero => intro x235 h237; rewrite [f_disk_Rename_l2] at h237; cases h237
                | succ k238 ih239 =>
                  intro x235 h237
                  rewrite [f_disk_Rename_l2] at h237
                  refine ti hk234 ?_
                  refine t_seq fun K240 hK241 => ?_
                  refine t_seq fun K242 hK243 => ?_
                  refine t_quiet mixed (by kernel_rfl) (panic_then (panic_then (panic_then (panic_block (panic_then panic_body))))) ?_
                  refine k_p (r_mv rfl) rfl ?_
                  refine k_p (r_mv rfl) rfl ?_
                  refine k_p (r_nc rfl) rfl ?_
                  refine k_p (r_fa (off' := 1) Tryd.underlying27 rfl ti25 rfl rfl) rfl ?_
                  refine k_s (r_ld a1 Tryd.underlying25 rfl rfl rfl) rfl ?_
                  refine k_s (r_lnL a0 Tryd.underlying25 rfl) rfl ?_
                  refine k_p (r_i rfl rfl rfl) rfl ?_
                  refine k_p (r_mv rfl) rfl ?_
                  rcases Bool.eq_false_or_eq_true (decide (x235 < (y190.length : Int))) with hb244 | hb244
                  · replace h237 := itT hb244 h237
                    refine kg_p rfl rfl hb244 (r_mv rfl) rfl ?_
                    refine kg_p rfl rfl hb244 (r_nc rfl) rfl ?_
                    refine kg_p rfl rfl hb244 (r_fa (off' := 1) Tryd.underlying27 rfl ti25 rfl rfl) rfl ?_
                    refine kg_s rfl rfl hb244 (r_ld a1 Tryd.underlying25 rfl rfl rfl) rfl ?_
                    refine kg_p rfl rfl hb244 (r_mv rfl) rfl ?_
                    obtain ⟨el248, hel248, h237⟩ := bs h237
                    refine t_qL a0 hel248 fun q245 hq246 hm247 => ?_
                    refine kg_p rfl rfl hb244 (r_idx hq246 hm247 hel248 Tryd.underlying25 ti34 rfl rfl) rfl ?_
                    refine t_qf hq246 0 fun q249 hq250 => ?_
                    refine kg_p rfl rfl hb244 (r_fai hq246 hq250 Tryd.underlying34 rfl ti9 rfl rfl) rfl ?_
                    refine t_oI (opensO_share k_api_DiskFile_opens) e0 hel248 fun t251 => ?_
                    refine kg_s rfl rfl hb244 (r_h1 a0 hq250 Tryd.underlying9 rfl rfl rfl) rfl ?_
                    refine kg_p rfl rfl hb244 (r_fa (off' := 0) Tryd.underlying34 rfl ti9 rfl rfl) rfl ?_
                    refine kg_s rfl rfl hb244 (r_ld a2 Tryd.underlying9 rfl rfl rfl) rfl ?_
                    refine kg_p rfl rfl hb244 (r_s rfl rfl rfl) rfl ?_
                    refine k_p (r_pT rfl hb244 rfl) rfl ?_
                    refine k_z ?_
                    refine t_then hK243 ?_
                    rcases Bool.eq_false_or_eq_true (Op.bytesLess el248.Name.toList z2.toList) with hb252 | hb252
                    · replace h237 := itT hb252 h237
                      refine t_T rfl hb252 ?_
                      refine t_skip ?_
                      refine t_then hK241 ?_
                      refine t_block ?_
                      refine t_region ?_
                      refine c_p (r_mv rfl) rfl ?_
                      refine c_p (r_i rfl rfl rfl) rfl ?_
                      refine c_p (r_as rfl) rfl ?_
                      refine t_nil ?_
                      refine t_blockN ?_
                      refine t_cS (u := el248) (t := (t251.1, t251.2.1, t251.2.2)) (shutsO_share k_api_DiskFile_shuts) hel248 (.cons e0 .nil) rfl (fun w Z hA => (V1 a0 hA V0)) ?_
                      exact t_norm (t_go (ih239 (IntKind.wrap .i64 (x235 + 1)) h237) ⟨rfl, rfl, rfl, trivial⟩ (.cons e0 (.cons e0 (.cons e0 (.cons e0 (.cons e0 .nil))))) (fun w Z hA => V1 a1 hA (V1 a2 hA (V0))))
                    · replace h237 := itF hb252 h237
                      refine t_F rfl hb252 ?_
                      refine t_exit ?_
                      refine te (te (bx ?_))
                      refine t_cS (u := el248) (t := (t251.1, t251.2.1, t251.2.2)) (shutsO_share k_api_DiskFile_shuts) hel248 (.cons e0 .nil) rfl (fun w Z hA => (V1 a0 hA V0)) ?_
                      exact t_norm (t_go (J254 x235 h237) ⟨rfl, rfl, rfl, trivial⟩ (.cons e0 (.cons e0 (.cons e0 (.cons e0 (.cons e0 .nil))))) (fun w Z hA => V1 a1 hA (V1 a2 hA (V0))))
                  · replace h237 := itF hb244 h237
                    refine k_x rfl rfl hb244 rfl ?_
                    refine k_x rfl rfl hb244 rfl ?_
                    refine k_x rfl rfl hb244 rfl ?_
                    refine k_x rfl rfl hb244 rfl ?_
                    refine k_x rfl rfl hb244 rfl ?_
                    refine k_x rfl rfl hb244 rfl ?_
                    refine k_x rfl rfl hb244 rfl ?_
                    refine k_x rfl rfl hb244 rfl ?_
                    refine k_x rfl rfl hb244 rfl ?_
                    refine k_x rfl rfl hb244 rfl ?_
                    refine k_x rfl rfl hb244 rfl ?_
                    refine k_p (r_pF rfl hb244 rfl) rfl ?_
                    refine k_z ?_
                    refine t_then hK243 ?_
                    refine t_F rfl rfl ?_
                    refine t_exit ?_
                    refine te (te (bx ?_))
                    exact t_norm (t_go (J254 x235 h237) ⟨rfl, rfl, rfl, trivial⟩ (.cons e0 (.cons e0 (.cons e0 (.cons e0 (.cons e0 .nil))))) (fun w Z hA => V1 a0 hA (V1 a1 hA (V0))))
              exact t_go (LP236 ((((y190.length : Int) : Int) - (0)).toNat + 1) 0 h173) ⟨rfl, rfl, rfl, trivial⟩ (.cons e1 (.cons e4 (.cons e0 (.cons e2 (.cons e2 .nil))))) (fun w Z hA => V1 a0 hA (V1 a1 hA (V0)))
            refine t_seq fun K155 hK156 => ?_
            refine t_region ?_
            refine c_p (r_fa (off' := 3) Tryd.underlying27 rfl ti3 rfl rfl) rfl ?_
            refine c_s (r_ld a0 Tryd.underlying3 rfl rfl rfl) rfl ?_
            refine c_p (r_i rfl rfl rfl) rfl ?_
            refine t_nil ?_
            refine t_then hK156 ?_
            rcases Bool.eq_false_or_eq_true (decide (y150.Plan > 0)) with hb157 | hb157
            · replace h136 := itT hb157 h136
              refine t_T rfl hb157 ?_
              refine t_seq fun K158 hK159 => ?_
              refine t_region ?_
              refine c_p (r_fa (off' := 3) Tryd.underlying27 rfl ti3 rfl rfl) rfl ?_
              refine c_s (r_ld a0 Tryd.underlying3 rfl rfl rfl) rfl ?_
              refine c_p (r_i rfl rfl rfl) rfl ?_
              refine c_p (r_fa (off' := 3) Tryd.underlying27 rfl ti3 rfl rfl) rfl ?_
              refine nx (t_st u0 ti3 rfl rfl rfl rfl rfl (.s (.s (.s (.t (.s .z))))) ?_)
              refine t_nil ?_
              refine t_then hK159 ?_
              refine t_seq fun K160 hK161 => ?_
              refine t_region ?_
              refine c_p (r_fa (off' := 3) Tryd.underlying27 rfl ti3 rfl rfl) rfl ?_
              refine c_s (r_ld a0 Tryd.underlying3 rfl rfl rfl) rfl ?_
              refine c_p (r_i rfl rfl rfl) rfl ?_
              refine t_nil ?_
              refine t_then hK161 ?_
              rcases Bool.eq_false_or_eq_true ((IntKind.wrap .i64 (y150.Plan - 1)) == 0) with hb162 | hb162
              · replace h136 := itT hb162 h136
                refine t_T rfl hb162 ?_
                refine t_seq fun K163 hK164 => ?_
                refine t_region ?_
                refine c_p (r_fa (off' := 2) Tryd.underlying27 rfl ti4 rfl rfl) rfl ?_
                refine nx (t_st u0 ti4 rfl rfl rfl rfl rfl (.s (.s (.t (.s .z)))) ?_)
                refine t_nil ?_
                refine t_then hK164 ?_
                refine t_seq fun K165 hK166 => ?_
                refine t_region ?_
                refine c_p (r_mv rfl) rfl ?_
                refine c_p (r_mv rfl) rfl ?_
                obtain ⟨y167, hy167, h136⟩ := bs h136
                refine nx (t_cf (C43 _ _ _ _ _ _ _ hy167) (fun _ => (flat_blk flat_nil)) Tryd.func43 nm43 rfl rfl rfl (.cons e0 .nil) (fun w Z S hA hL => (FLs a0 hL (F1 a1 hA F0))) rfl fun t168 => ?_)
                refine t_nil ?_
                refine t_then hK166 ?_
                refine t_seq fun K169 hK170 => ?_
                refine t_region ?_
                refine c_s (r_ldA a0 Tryd.underlying27 rfl ti27 rfl rfl) rfl ?_
                refine nx (t_st u4 ti27 rfl rfl rfl rfl rfl (.t (.s (.s (.s (.s .z))))) ?_)
                refine c_p (r_as rfl) rfl ?_
                refine t_nil ?_
                refine t_then hK170 ?_
                refine t_ret ?_
                refine tr (ret2 rfl (v_N rfl a4 Tryd.underlying27 rfl ti27 rfl) (v_t rfl) (t_bk hR17 ?_))
                exact t_go (J315 y150.Room t151.1 t151.2.1 t151.2.2 y150.Files true (IntKind.wrap .i64 (y150.Plan - 1)) 242 h136) ⟨rfl, rfl, rfl, trivial⟩ (.cons e5 (.cons e1 .nil)) (fun w Z hA => V1 a1 hA (V0))
              · replace h136 := itF hb162 h136
                refine t_F rfl hb162 ?_
                refine t_skip ?_
                exact t_norm (t_go (J172 (IntKind.wrap .i64 (y150.Plan - 1)) h136) ⟨rfl, rfl, rfl, rfl, trivial⟩ (.cons e2 (.cons e3 (.cons e1 (.cons e0 (.cons e1 .nil))))) (fun w Z hA => V1 a1 hA (V0)))
            · replace h136 := itF hb157 h136
              refine t_F rfl hb157 ?_
              refine t_skip ?_
              exact t_norm (t_go (J172 y150.Plan h136) ⟨rfl, rfl, rfl, rfl, trivial⟩ (.cons e2 (.cons e3 (.cons e1 (.cons e0 (.cons e1 .nil))))) (fun w Z hA => V1 a1 hA (V0)))
        refine t_block ?_
        refine t_seq fun K127 hK128 => ?_
        refine t_region ?_
        refine c_p (r_mv rfl) rfl ?_
        refine c_p (r_i rfl rfl rfl) rfl ?_
        refine c_p (r_mv rfl) rfl ?_
        rcases Bool.eq_false_or_eq_true (decide (y123 < 0)) with hb129 | hb129
        · replace h120 := itT hb129 h120
          refine nx (gd rfl rfl hb129 (sp (r_mv rfl) rfl ?_))
          refine nx (gd rfl rfl hb129 (sp (r_not rfl) rfl ?_))
          refine c_p (r_pT rfl hb129 rfl) rfl ?_
          refine c_p (r_as rfl) rfl ?_
          refine t_nil ?_
          refine t_then hK128 ?_
          refine t_T rfl rfl ?_
          refine t_seq fun K130 hK131 => ?_
          refine t_region ?_
          refine c_p (r_bu (ps := []) (cs := [.int .i64 0, .slice none 0 0, .bool false, .int .i64 0]) rfl (by kernel_rfl)) rfl ?_
          refine nx (t_st u2 ti27 rfl rfl rfl rfl rfl (.t (.s (.s (.s (.s .z))))) ?_)
          refine c_p (r_as rfl) rfl ?_
          refine t_nil ?_
          refine t_then hK131 ?_
          refine t_ret ?_
          refine br (tr (ret2 rfl (v_N rfl a2 Tryd.underlying27 rfl ti27 rfl) (v_t rfl) (t_bk hR17 ?_)))
          refine t_nr 34 k_api_DiskFile ?_
          refine t_fe e0 ?_
          exact t_go (J315 0 none 0 0 ([] : List api_DiskFile) false 0 244 h120) ⟨rfl, rfl, rfl, trivial⟩ (.cons e4 (.cons e0 .nil)) (fun w Z hA => V1 a1 hA (V0))
        · replace h120 := itF hb129 h120
          refine nx (pass rfl rfl hb129 rfl ?_)
          refine nx (pass rfl rfl hb129 rfl ?_)
          refine c_p (r_pF rfl hb129 rfl) rfl ?_
          refine c_p (r_as rfl) rfl ?_
          refine t_nil ?_
          refine t_then hK128 ?_
          refine t_F rfl rfl ?_
          refine t_seq fun K132 hK133 => ?_
          refine t_region ?_
          refine c_p (r_mv rfl) rfl ?_
          refine c_p (r_i rfl rfl rfl) rfl ?_
          refine c_p (r_mv rfl) rfl ?_
          rcases Bool.eq_false_or_eq_true (decide (y123 ≥ 0)) with hb134 | hb134
          · replace h120 := itT hb134 h120
            refine nx (gd rfl rfl hb134 (sp (r_mv rfl) rfl ?_))
            refine c_p (r_pT rfl hb134 rfl) rfl ?_
            refine c_p (r_as rfl) rfl ?_
            refine t_nil ?_
            refine t_then hK133 ?_
            refine t_F rfl rfl ?_
            refine t_skip ?_
            refine t_blockN ?_
            exact t_norm (t_go (J135 h120) ⟨rfl, rfl, rfl, rfl, rfl, rfl, trivial⟩ (.cons e0 (.cons e0 (.cons e0 (.cons e0 .nil)))) (fun w Z hA => V1 a0 hA (V1 a1 hA (V0))))
          · replace h120 := itF hb134 h120
            refine nx (pass rfl rfl hb134 rfl ?_)
            refine c_p (r_pF rfl hb134 rfl) rfl ?_
            refine c_p (r_as rfl) rfl ?_
            refine t_nil ?_
            refine t_then hK133 ?_
            refine t_F rfl rfl ?_
            refine t_skip ?_
            refine t_blockN ?_
            exact t_norm (t_go (J135 h120) ⟨rfl, rfl, rfl, rfl, rfl, rfl, trivial⟩ (.cons e0 (.cons e0 (.cons e0 (.cons e0 .nil)))) (fun w Z hA => V1 a0 hA (V1 a1 hA (V0))))
      refine t_seq fun K42 hK43 => ?_
      refine t_region ?_
      refine c_p (r_mv rfl) rfl ?_
      refine nx (t_bs (ps := [(0, .string z1)]) (cs := [.string z1]) Tryd.underlying72 ti9 rfl rfl (by kernel_rfl) rfl fun g44 => ?_)
      refine c_p (r_mv rfl) rfl ?_
      refine t_tr (Kd := kStr) (xs := [z1]) (.cons e0 .nil) rfl (fun w Z S hA hN => flat_EO (S := Nil) flatK_str (er1 (c1 := [.string z1]) rfl er0)) ?_
      obtain ⟨hc45, h⟩ := ck_out h
      refine nx (t_app (Kd := kStr) (xs := [z1]) (ys := [z2]) (.cons e0 .nil) rfl rfl Tryd.underlying72 Tryd.underlying72 ti9 rfl rfl hc45 (srcB a3 (fun w Z S hA hN => flat_EO (S := Nil) flatK_str (er1 (c1 := [.string z2]) rfl er0))) rfl fun t46 => ?_)
      refine c_s (r_lnL a0 Tryd.underlying72 rfl) rfl ?_
      refine c_p (r_mv rfl) rfl ?_
      refine t_nil ?_
      refine t_then hK43 ?_
      refine t_block ?_
      refine t_lp fun k91 hk92 => ?_
      have LP94 : ∀ (k96 : Nat) (x93 : Int), f_disk_Rename_l1 z0 z1 z2 k96 x93 = some r → T 90 c [vw (kSlice 34 k_api_DiskFile) z0.Files [.slice p1 m2 c3], g_names] [[blk g7 [.string z2] 9], [blk g20 [.int .i64 z0.Room, .slice p1 m2 c3, .bool z0.Off, .int .i64 z0.Plan] 27], [blk g21 [.int .i64 0, .slice none 0 0, .bool false, .int .i64 0] 27], [row 9 kStr ([z1] ++ [z2]) (.slice t46.1 t46.2.1 t46.2.2)], [blk g8 [.int .i64 0, .slice none 0 0, .bool false, .int .i64 0] 27]] [(1, .string z1), (3, .bool false), (4, .func (.func 53) #[] #[]), (5, .func (.func 57) #[] #[.pointer (some ⟨g7, 0, none⟩)]), (6, .func (.func 43) #[] #[]), (7, .pointer (some ⟨g20, 0, none⟩)), (14, .pointer (some ⟨g21, 0, none⟩)), (32, .slice t46.1 t46.2.1 t46.2.2), (33, .int .i64 (([z1] ++ [z2]).length : Int)), (34, .int .i64 x93)] k91 := by
        intro k96
        induction k96 with
        | zero => intro x93 h95; rewrite [f_disk_Rename_l1] at h95; cases h95
        | succ k96 ih97 =>
          intro x93 h95
          rewrite [f_disk_Rename_l1] at h95
          refine ti hk92 ?_
          refine t_seq fun K98 hK99 => ?_
          refine t_region ?_
          refine c_p (r_i rfl rfl rfl) rfl ?_
          refine t_nil ?_
          refine t_then hK99 ?_
          refine t_seq fun K100 hK101 => ?_
          rcases Bool.eq_false_or_eq_true (decide (x93 < (([z1] ++ [z2]).length : Int))) with hb102 | hb102
          · replace h95 := itT hb102 h95
            refine t_T rfl hb102 ?_
            refine t_skip ?_
            refine t_then hK101 ?_
            refine t_seq fun K103 hK104 => ?_
            refine t_block ?_
            refine t_seq fun K105 hK106 => ?_
            refine t_region ?_
            obtain ⟨el110, hel110, h95⟩ := bs h95
            refine t_qL a3 hel110 fun q107 hq108 hm109 => ?_
            refine c_p (r_idx hq108 hm109 hel110 Tryd.underlying72 ti9 rfl rfl) rfl ?_
            refine t_oI opensO_str e3 hel110 fun t111 => ?_
            refine c_s (r_h1 a0 hq108 Tryd.underlying9 rfl rfl rfl) rfl ?_
            refine c_p (r_as rfl) rfl ?_
            refine t_nil ?_
            refine t_then hK106 ?_
            refine t_seq fun K112 hK113 => ?_
            refine t_region ?_
            refine c_p (r_mv rfl) rfl ?_
            obtain ⟨y114, hy114, h95⟩ := bs h95
            refine nx (t_ca (C36 _ _ hy114) Tryd.func36 nm36 rfl rfl rfl .nil (fun w Z hA => (V1 a1 hA V0)) rfl fun t115 => ?_)
            refine c_p (r_not rfl) rfl ?_
            refine t_nil ?_
            refine t_then hK113 ?_
            rcases Bool.eq_false_or_eq_true y114 with hb116 | hb116
            · replace h95 := itT hb116 h95
              refine t_F rfl (congrArg Bool.not hb116) ?_
              refine t_skip ?_
              refine t_blockN ?_
              refine t_then hK104 ?_
              refine t_region ?_
              refine c_p (r_i rfl rfl rfl) rfl ?_
              refine c_p (r_mv rfl) rfl ?_
              refine t_nil ?_
              refine t_cS (u := el110) (t := ()) shutsO_str hel110 (.cons e0 .nil) rfl (fun w Z hA => trivial) ?_
              exact t_norm (t_go (ih97 (IntKind.wrap .i64 (x93 + 1)) h95) ⟨rfl, rfl, rfl, rfl, rfl, rfl, rfl, rfl, rfl, rfl, trivial⟩ (.cons e1 (.cons e1 (.cons e1 (.cons e0 (.cons e0 .nil))))) (fun w Z hA => V1 a0 hA (V1 a1 hA (V0))))
            · replace h95 := itF hb116 h95
              refine t_T rfl (congrArg Bool.not hb116) ?_
              refine t_seq fun K117 hK118 => ?_
              refine t_region ?_
              refine c_p (r_bu (ps := []) (cs := [.int .i64 0, .slice none 0 0, .bool false, .int .i64 0]) rfl (by kernel_rfl)) rfl ?_
              refine nx (t_st u3 ti27 rfl rfl rfl rfl rfl (.t (.s (.s (.s (.s .z))))) ?_)
              refine c_p (r_as rfl) rfl ?_
              refine t_nil ?_
              refine t_then hK118 ?_
              refine t_ret ?_
              refine br (tr (tr (br (tr (ret2 rfl (v_N rfl a3 Tryd.underlying27 rfl ti27 rfl) (v_t rfl) (t_bk hR17 ?_))))))
              refine t_nr 34 k_api_DiskFile ?_
              refine t_fe e0 ?_
              exact t_go (J315 0 none 0 0 ([] : List api_DiskFile) false 0 243 h95) ⟨rfl, rfl, rfl, trivial⟩ (.cons e5 (.cons e0 .nil)) (fun w Z hA => V1 a1 hA (V0))
          · replace h95 := itF hb102 h95
            refine t_F rfl hb102 ?_
            refine t_exit ?_
            refine te (te (bx ?_))
            exact t_norm (t_go (J119 h95) ⟨rfl, rfl, rfl, rfl, rfl, rfl, rfl, trivial⟩ (.cons e0 (.cons e0 (.cons e0 (.cons e1 .nil)))) (fun w Z hA => V1 a0 hA (V1 a1 hA (V0))))
      exact t_go (LP94 ((((([z1] ++ [z2]).length : Int) : Int) - (0)).toNat + 1) 0 h) ⟨rfl, rfl, rfl, rfl, rfl, rfl, rfl, rfl, rfl, rfl, trivial⟩ (.cons e5 (.cons e2 (.cons e1 (.cons e0 (.cons e1 .nil))))) (fun w Z hA => V1 a0 hA (V1 a1 hA (V0)))
  · replace h := itF hb28 h
    refine t_T rfl (congrArg Bool.not hb28) ?_
    refine t_seq fun K29 hK30 => ?_
    refine t_region ?_
    refine c_p (r_bu (ps := []) (cs := [.int .i64 0, .slice none 0 0, .bool false, .int .i64 0]) rfl (by kernel_rfl)) rfl ?_
    refine nx (t_st u0 ti27 rfl rfl rfl rfl rfl (.t (.s (.s (.s (.s .z))))) ?_)
    refine c_p (r_as rfl) rfl ?_
    refine t_nil ?_
    refine t_then hK30 ?_
    refine t_ret ?_
    refine tr (ret2 rfl (v_N rfl a0 Tryd.underlying27 rfl ti27 rfl) (v_t rfl) (t_bk hR17 ?_))
    refine t_nr 34 k_api_DiskFile ?_
    refine t_fe e0 ?_
    exact t_go (J315 0 none 0 0 ([] : List api_DiskFile) false 0 241 h) ⟨rfl, rfl, rfl, trivial⟩ (.cons e4 (.cons e0 .nil)) (fun w Z hA => V1 a1 hA (V0))
end Go.Proofs.YtkjeedijloobgaaDoor.Gx

/- Function 60, kaudit/disk.Remove$1: what it answers as a plain function, and that the Go code comes to exactly that (where the plain function gives an answer). -/
set_option linter.unusedVariables false
set_option linter.unusedSimpArgs false
namespace Go.Proofs.YtkjeedijloobgaaDoor.Gx
open Go.Gx Go.RowKit
/-! ### kaudit/disk.Remove$1: function 60 -/
def f_disk_Remove_1 (z0 : api_Disk) (z1 : Int) : Option ((List api_DiskFile)) := (f_slices_Delete_api_DiskFile_api_DiskFile z0.Files z1 (IntKind.wrap .i64 (z1 + 1))).bind fun y4 => some y4
set_option maxHeartbeats 4000000 in
set_option maxRecDepth 100000 in
theorem C60 (z0 : api_Disk) (z1 : Int) (g_ : Nat) (p1 : Option Addr) (m2 : Nat) (c3 : Nat) (r : (List api_DiskFile)) (h : f_disk_Remove_1 z0 z1 = some r) : FunG Tryd.prog 60 #[.pointer (some ⟨g_, 0, none⟩), .int .i64 z1] [g_names] [[blk g_ [.int .i64 z0.Room, .slice p1 m2 c3, .bool z0.Off, .int .i64 z0.Plan] 27], [row 34 k_api_DiskFile z0.Files (.slice p1 m2 c3)]] (fun t : (Option Addr × Nat × Nat) => .tuple #[]) (fun t => []) (fun t => [[blk g_ [.int .i64 z0.Room, .slice t.1 t.2.1 t.2.2, .bool z0.Off, .int .i64 z0.Plan] 27], [row 34 k_api_DiskFile r (.slice t.1 t.2.1 t.2.2)]]) := by
  unfold f_disk_Remove_1 at h
  refine t_begin (args := [.pointer (some ⟨g_, 0, none⟩), .int .i64 z1]) Tryd.func60 rfl Tryd.ntmps60 rfl fun c R hR => ?_
  have hQ : ∀ X, X = r → ∀ w2 (t : (Option Addr × Nat × Nat)), PostG c.w0 w2 c.M c.Y [] [[blk g_ [.int .i64 z0.Room, .slice t.1 t.2.1 t.2.2, .bool z0.Off, .int .i64 z0.Plan] 27], [row 34 k_api_DiskFile X (.slice t.1 t.2.1 t.2.2)]] → R (.returned (.tuple #[])) w2 := fun X e => by subst e; exact hR
  refine t_region ?_
  refine c_p (r_mv rfl) rfl ?_
  refine c_p (r_mv rfl) rfl ?_
  refine c_p (r_nc rfl) rfl ?_
  refine c_p (r_fa (off' := 1) Tryd.underlying27 rfl ti25 rfl rfl) rfl ?_
  refine c_s (r_ld a0 Tryd.underlying25 rfl rfl rfl) rfl ?_
  refine c_p (r_mv rfl) rfl ?_
  refine c_p (r_mv rfl) rfl ?_
  refine c_p (r_i rfl rfl rfl) rfl ?_
  obtain ⟨y4, hy4, h⟩ := bs h
  refine nx (t_ca (C58 _ _ _ _ _ _ _ hy4) Tryd.func58 nm58 rfl rfl rfl (.cons e1 .nil) (fun w Z hA => V0) rfl fun t5 => ?_)
  refine c_p (r_nc rfl) rfl ?_
  refine c_p (r_fa (off' := 1) Tryd.underlying27 rfl ti25 rfl rfl) rfl ?_
  refine nx (t_st u1 ti25 rfl rfl rfl rfl rfl (.s (.t (.s .z))) ?_)
  refine t_nil ?_
  exact end0 rfl  (t_leave (hQ _ (Option.some.inj h)) (t5.1, t5.2.1, t5.2.2) rfl (fun w Z hA => V0) (.cons e1 (.cons e0 .nil)))
end Go.Proofs.YtkjeedijloobgaaDoor.Gx

/- Function 25, kaudit/disk.Remove: what it answers as a plain function, and that the Go code comes to exactly that (where the plain function gives an answer). -/
set_option linter.unusedVariables false
set_option linter.unusedSimpArgs false
namespace Go.Proofs.YtkjeedijloobgaaDoor.Gx
open Go.Gx Go.RowKit
/-! ### kaudit/disk.Remove: function 25 -/
def f_disk_Remove_j4 (x180 : Int) (x184 : List api_DiskFile) (x185 : Bool) (x186 : Int) (x187 : Int) : Option (api_Disk × Int) := some ((⟨x180, x184, x185, x186⟩ : api_Disk), x187)
def f_disk_Remove_j3 (y119 : Int) (y146 : api_Disk) (x167 : Int) : Option (api_Disk × Int) := (f_disk_Remove_1 (⟨y146.Room, y146.Files, y146.Off, x167⟩ : api_Disk) y119).bind fun y172 => f_disk_Remove_j4 y146.Room y172 y146.Off x167 0
def f_disk_Remove_j2 (z0 : api_Disk) (y119 : Int) : Option (api_Disk × Int) := (f_disk_always z0 y119).bind fun y137 => if (y137 != 0) = true then (f_disk_Remove_j4 0 ([] : List api_DiskFile) false 0 y137) else ((f_fresh_Disk z0).bind fun y146 => if (decide (y146.Plan > 0)) = true then (if ((IntKind.wrap .i64 (y146.Plan - 1)) == 0) = true then ((f_disk_nothing (⟨y146.Room, y146.Files, true, (IntKind.wrap .i64 (y146.Plan - 1))⟩ : api_Disk) y119).bind fun y163 => f_disk_Remove_j4 y146.Room y146.Files true (IntKind.wrap .i64 (y146.Plan - 1)) 242) else (f_disk_Remove_j3 y119 y146 (IntKind.wrap .i64 (y146.Plan - 1)))) else (f_disk_Remove_j3 y119 y146 y146.Plan))
def f_disk_Remove_j1 (z0 : api_Disk) (z1 : ByteArray) : Option (api_Disk × Int) := (f_disk_find z0 z1).bind fun y119 => if (decide (y119 < 0)) = true then (f_disk_Remove_j4 0 ([] : List api_DiskFile) false 0 244) else (if (decide (y119 ≥ 0)) = true then (f_disk_Remove_j2 z0 y119) else (f_disk_Remove_j2 z0 y119))
def f_disk_Remove_l1 (z0 : api_Disk) (z1 : ByteArray) : Nat → Int → Option (api_Disk × Int)
  | 0, _ => none
  | k92 + 1, x89 => if (decide (x89 < (([z1] ++ ([] : List ByteArray)).length : Int))) = true then ((at_ ([z1] ++ ([] : List ByteArray)) x89).bind fun el106 => (f_disk_isName el106).bind fun y110 => if y110 = true then (f_disk_Remove_l1 z0 z1 k92 (IntKind.wrap .i64 (x89 + 1))) else (f_disk_Remove_j4 0 ([] : List api_DiskFile) false 0 243)) else (f_disk_Remove_j1 z0 z1)
def f_disk_Remove (z0 : api_Disk) (z1 : ByteArray) : Option (api_Disk × Int) := (f_disk_Valid z0).bind fun y22 => if y22 = true then (if z0.Off = true then ((f_fresh_Disk z0).bind fun y34 => f_disk_Remove_j4 y34.Room y34.Files y34.Off y34.Plan 242) else (ck (fits ([z1].length + ([] : List ByteArray).length) 16 = true) <| f_disk_Remove_l1 z0 z1 ((((([z1] ++ ([] : List ByteArray)).length : Int) : Int) - (0)).toNat + 1) 0)) else (f_disk_Remove_j4 0 ([] : List api_DiskFile) false 0 241)
set_option maxHeartbeats 4000000 in
set_option maxRecDepth 100000 in
theorem C25 (z0 : api_Disk) (z1 : ByteArray) (p1 : Option Addr) (m2 : Nat) (c3 : Nat) (r : api_Disk × Int) (h : f_disk_Remove z0 z1 = some r) : FunG Tryd.prog 25 #[.agg #[.int .i64 z0.Room, .slice p1 m2 c3, .bool z0.Off, .int .i64 z0.Plan], .string z1] [vw (kSlice 34 k_api_DiskFile) z0.Files [.slice p1 m2 c3], g_names] [] (fun t : (Option Addr × Nat × Nat) => .tuple #[.agg #[.int .i64 r.1.Room, .slice t.1 t.2.1 t.2.2, .bool r.1.Off, .int .i64 r.1.Plan], .int .i64 r.2]) (fun t => []) (fun t => [[row 34 k_api_DiskFile r.1.Files (.slice t.1 t.2.1 t.2.2)]]) := by
  unfold f_disk_Remove at h
  refine t_begin (args := [.agg #[.int .i64 z0.Room, .slice p1 m2 c3, .bool z0.Off, .int .i64 z0.Plan], .string z1]) Tryd.func25 rfl Tryd.ntmps25 rfl fun c R hR => ?_
  have hQ : ∀ X, X = r → ∀ w2 (t : (Option Addr × Nat × Nat)), PostG c.w0 w2 c.M c.Y [] [[row 34 k_api_DiskFile X.1.Files (.slice t.1 t.2.1 t.2.2)]] → R (.returned (.tuple #[.agg #[.int .i64 X.1.Room, .slice t.1 t.2.1 t.2.2, .bool X.1.Off, .int .i64 X.1.Plan], .int .i64 X.2])) w2 := fun X e => by subst e; exact hR
  refine t_seq fun K4 hK5 => ?_
  refine t_region ?_
  refine nx (t_bx (cs := [.int .i64 z0.Room, .slice p1 m2 c3, .bool z0.Off, .int .i64 z0.Plan]) rfl rfl rfl fun g6 => ?_)
  refine nx (t_al (cs := [.int .i64 0, .slice none 0 0, .bool false, .int .i64 0]) ti27 rfl rfl fun g7 => ?_)
  refine c_p (r_as rfl) rfl ?_
  refine t_nil ?_
  refine t_then hK5 ?_
  refine t_seq fun K8 hK9 => ?_
  refine t_region ?_
  refine c_s (r_ldA a1 Tryd.underlying27 rfl ti27 rfl rfl) rfl ?_
  refine c_p (r_mv rfl) rfl ?_
  refine nx (t_in (args := [.agg #[.int .i64 z0.Room, .slice p1 m2 c3, .bool z0.Off, .int .i64 z0.Plan], .string z1, .slice none 0 0, .bool false, .func (.func 53) #[] #[], .func (.func 60) #[] #[], .func (.func 43) #[] #[]]) (cap := []) (all := [.agg #[.int .i64 z0.Room, .slice p1 m2 c3, .bool z0.Off, .int .i64 z0.Plan], .string z1, .slice none 0 0, .bool false, .func (.func 53) #[] #[], .func (.func 60) #[] #[], .func (.func 43) #[] #[]]) rfl rfl Tryd.func40 nm40 rfl rfl rfl Tryd.ntmps40 rfl fun R10 k11 hk12 hR13 => ?_)
  have J188 : ∀ (x180 : Int) (p181 : Option Addr) (m182 : Nat) (c183 : Nat) (x184 : List api_DiskFile) (x185 : Bool) (x186 : Int) (x187 : Int), f_disk_Remove_j4 x180 x184 x185 x186 x187 = some r → T 11 c [g_names] [[blk g7 [.int .i64 0, .slice none 0 0, .bool false, .int .i64 0] 27], [row 34 k_api_DiskFile x184 (.slice p181 m182 c183)]] [(4, .pointer (some ⟨g7, 0, none⟩)), (5, .int .i64 0), (8, .tuple #[.agg #[.int .i64 x180, .slice p181 m182 c183, .bool x185, .int .i64 x186], .int .i64 x187])] k11 := by
    intro x180 p181 m182 c183 x184 x185 x186 x187 h189
    unfold f_disk_Remove_j4 at h189
    refine ti hk12 ?_
    refine c_p (r_ex rfl rfl) rfl ?_
    refine c_p (r_ex rfl rfl) rfl ?_
    refine nx (t_st u0 ti27 rfl rfl rfl rfl rfl (.t (.s (.s (.s (.s .z))))) ?_)
    refine c_p (r_as rfl) rfl ?_
    refine t_nil ?_
    refine t_then hK9 ?_
    refine t_ret ?_
    exact ret2 rfl (v_N rfl a0 Tryd.underlying27 rfl ti27 rfl) (v_t rfl) (t_leave (hQ _ (Option.some.inj h189)) (p181, m182, c183) rfl (fun w Z hA => V0) (.cons e1 .nil))
  refine t_seq fun K14 hK15 => ?_
  refine t_region ?_
  refine nx (t_bx (cs := [.int .i64 z0.Room, .slice p1 m2 c3, .bool z0.Off, .int .i64 z0.Plan]) rfl rfl rfl fun g16 => ?_)
  refine nx (t_al (cs := [.int .i64 0, .slice none 0 0, .bool false, .int .i64 0]) ti27 rfl rfl fun g17 => ?_)
  refine c_p (r_as rfl) rfl ?_
  refine t_nil ?_
  refine t_then hK15 ?_
  refine t_seq fun K18 hK19 => ?_
  refine t_seq fun K20 hK21 => ?_
  refine t_region ?_
  refine c_s (r_ldA a1 Tryd.underlying27 rfl ti27 rfl rfl) rfl ?_
  obtain ⟨y22, hy22, h⟩ := bs h
  refine nx (t_ca (C10 _ _ _ _ _ hy22) Tryd.func10 nm10 rfl rfl rfl .nil (fun w Z hA => (V1 a0 hA (V1 a1 hA V0))) rfl fun t23 => ?_)
  refine c_p (r_not rfl) rfl ?_
  refine t_nil ?_
  refine t_then hK21 ?_
  rcases Bool.eq_false_or_eq_true y22 with hb24 | hb24
  · replace h := itT hb24 h
    refine t_F rfl (congrArg Bool.not hb24) ?_
    refine t_skip ?_
    refine t_then hK19 ?_
    refine t_seq fun K27 hK28 => ?_
    refine t_seq fun K29 hK30 => ?_
    refine t_region ?_
    refine c_p (r_fa (off' := 2) Tryd.underlying27 rfl ti4 rfl rfl) rfl ?_
    refine c_s (r_ld a1 Tryd.underlying4 rfl rfl rfl) rfl ?_
    refine t_nil ?_
    refine t_then hK30 ?_
    rcases Bool.eq_false_or_eq_true z0.Off with hb31 | hb31
    · replace h := itT hb31 h
      refine t_T rfl hb31 ?_
      refine t_seq fun K32 hK33 => ?_
      refine t_region ?_
      refine c_s (r_ldA a1 Tryd.underlying27 rfl ti27 rfl rfl) rfl ?_
      obtain ⟨y34, hy34, h⟩ := bs h
      refine nx (t_ca (C61 _ _ _ _ _ hy34) Tryd.func61 nm61 rfl rfl rfl .nil (fun w Z hA => (V1 a0 hA (V1 a1 hA V0))) rfl fun t35 => ?_)
      refine nx (t_st u1 ti27 rfl rfl rfl rfl rfl (.t (.s (.s (.s (.s .z))))) ?_)
      refine c_p (r_as rfl) rfl ?_
      refine t_nil ?_
      refine t_then hK33 ?_
      refine t_ret ?_
      refine tr (ret2 rfl (v_N rfl a1 Tryd.underlying27 rfl ti27 rfl) (v_t rfl) (t_bk hR13 ?_))
      exact t_go (J188 y34.Room t35.1 t35.2.1 t35.2.2 y34.Files y34.Off y34.Plan 242 h) ⟨rfl, rfl, rfl, trivial⟩ (.cons e3 (.cons e0 .nil)) (fun w Z hA => V1 a1 hA (V0))
    · replace h := itF hb31 h
      refine t_F rfl hb31 ?_
      refine t_skip ?_
      refine t_then hK28 ?_
      refine t_seq fun K36 hK37 => ?_
      have J115 : f_disk_Remove_j1 z0 z1 = some r → T 90 c [vw (kSlice 34 k_api_DiskFile) z0.Files [.slice p1 m2 c3], g_names] [[blk g16 [.int .i64 z0.Room, .slice p1 m2 c3, .bool z0.Off, .int .i64 z0.Plan] 27], [blk g17 [.int .i64 0, .slice none 0 0, .bool false, .int .i64 0] 27], [blk g7 [.int .i64 0, .slice none 0 0, .bool false, .int .i64 0] 27]] [(1, .string z1), (3, .bool false), (4, .func (.func 53) #[] #[]), (5, .func (.func 60) #[] #[]), (6, .func (.func 43) #[] #[]), (7, .pointer (some ⟨g16, 0, none⟩)), (14, .pointer (some ⟨g17, 0, none⟩))] K36 := by
        intro h116
        unfold f_disk_Remove_j1 at h116
        refine ti hK37 ?_
        refine t_seq fun K117 hK118 => ?_
        refine t_region ?_
        refine c_s (r_ldA a0 Tryd.underlying27 rfl ti27 rfl rfl) rfl ?_
        refine c_p (r_mv rfl) rfl ?_
        obtain ⟨y119, hy119, h116⟩ := bs h116
        refine nx (t_ca (C34 _ _ _ _ _ _ hy119) Tryd.func34 nm34 rfl rfl rfl .nil (fun w Z hA => (V1 a0 hA (V1 a1 hA V0))) rfl fun t120 => ?_)
        refine c_p (r_as rfl) rfl ?_
        refine t_nil ?_
        refine t_then hK118 ?_
        refine t_seq fun K121 hK122 => ?_
        have J131 : f_disk_Remove_j2 z0 y119 = some r → T 90 c [vw (kSlice 34 k_api_DiskFile) z0.Files [.slice p1 m2 c3], g_names] [[blk g16 [.int .i64 z0.Room, .slice p1 m2 c3, .bool z0.Off, .int .i64 z0.Plan] 27], [blk g17 [.int .i64 0, .slice none 0 0, .bool false, .int .i64 0] 27], [blk g7 [.int .i64 0, .slice none 0 0, .bool false, .int .i64 0] 27]] [(4, .func (.func 53) #[] #[]), (5, .func (.func 60) #[] #[]), (6, .func (.func 43) #[] #[]), (7, .pointer (some ⟨g16, 0, none⟩)), (14, .pointer (some ⟨g17, 0, none⟩)), (18, .int .i64 y119)] K121 := by
          intro h132
          unfold f_disk_Remove_j2 at h132
          refine ti hK122 ?_
          refine t_seq fun K133 hK134 => ?_
          refine t_seq fun K135 hK136 => ?_
          refine t_region ?_
          refine c_p (r_mv rfl) rfl ?_
          refine c_s (r_ldA a0 Tryd.underlying27 rfl ti27 rfl rfl) rfl ?_
          refine c_p (r_mv rfl) rfl ?_
          obtain ⟨y137, hy137, h132⟩ := bs h132
          refine nx (t_ca (C53 _ _ _ _ _ _ hy137) Tryd.func53 nm53 rfl rfl rfl .nil (fun w Z hA => (V1 a0 hA (V1 a1 hA V0))) rfl fun t138 => ?_)
          refine c_p (r_as rfl) rfl ?_
          refine t_nil ?_
          refine t_then hK136 ?_
          refine t_seq fun K139 hK140 => ?_
          refine t_region ?_
          refine c_p (r_mv rfl) rfl ?_
          refine c_p (r_i rfl rfl rfl) rfl ?_
          refine t_nil ?_
          refine t_then hK140 ?_
          rcases Bool.eq_false_or_eq_true (y137 != 0) with hb141 | hb141
          · replace h132 := itT hb141 h132
            refine t_T rfl hb141 ?_
            refine t_seq fun K142 hK143 => ?_
            refine t_region ?_
            refine c_p (r_bu (ps := []) (cs := [.int .i64 0, .slice none 0 0, .bool false, .int .i64 0]) rfl (by kernel_rfl)) rfl ?_
            refine c_p (r_mv rfl) rfl ?_
            refine nx (t_st u1 ti27 rfl rfl rfl rfl rfl (.t (.s (.s (.s (.s .z))))) ?_)
            refine c_p (r_as rfl) rfl ?_
            refine t_nil ?_
            refine t_then hK143 ?_
            refine t_ret ?_
            refine tr (ret2 rfl (v_N rfl a1 Tryd.underlying27 rfl ti27 rfl) (v_t rfl) (t_bk hR13 ?_))
            refine t_nr 34 k_api_DiskFile ?_
            exact t_go (J188 0 none 0 0 ([] : List api_DiskFile) false 0 y137 h132) ⟨rfl, rfl, rfl, trivial⟩ (.cons e3 (.cons e0 .nil)) (fun w Z hA => V1 a1 hA (V0))
          · replace h132 := itF hb141 h132
            refine t_F rfl hb141 ?_
            refine t_skip ?_
            refine t_then hK134 ?_
            refine t_seq fun K144 hK145 => ?_
            refine t_region ?_
            refine c_s (r_ldA a0 Tryd.underlying27 rfl ti27 rfl rfl) rfl ?_
            obtain ⟨y146, hy146, h132⟩ := bs h132
            refine nx (t_ca (C61 _ _ _ _ _ hy146) Tryd.func61 nm61 rfl rfl rfl .nil (fun w Z hA => (V1 a0 hA (V1 a1 hA V0))) rfl fun t147 => ?_)
            refine nx (t_al (cs := [.int .i64 0, .slice none 0 0, .bool false, .int .i64 0]) ti27 rfl rfl fun g148 => ?_)
            refine nx (t_st u0 ti27 rfl rfl rfl rfl rfl (.t (.s (.s (.s (.s .z))))) ?_)
            refine t_nil ?_
            refine t_then hK145 ?_
            refine t_seq fun K149 hK150 => ?_
            have J168 : ∀ (x167 : Int), f_disk_Remove_j3 y119 y146 x167 = some r → T 90 c [g_names] [[blk g17 [.int .i64 0, .slice none 0 0, .bool false, .int .i64 0] 27], [row 34 k_api_DiskFile y146.Files (.slice t147.1 t147.2.1 t147.2.2)], [blk g148 [.int .i64 y146.Room, .slice t147.1 t147.2.1 t147.2.2, .bool y146.Off, .int .i64 x167] 27], [blk g7 [.int .i64 0, .slice none 0 0, .bool false, .int .i64 0] 27]] [(5, .func (.func 60) #[] #[]), (14, .pointer (some ⟨g17, 0, none⟩)), (18, .int .i64 y119), (20, .pointer (some ⟨g148, 0, none⟩))] K149 := by
              intro x167 h169
              unfold f_disk_Remove_j3 at h169
              refine ti hK150 ?_
              refine t_seq fun K170 hK171 => ?_
              refine t_region ?_
              refine c_p (r_mv rfl) rfl ?_
              refine c_p (r_mv rfl) rfl ?_
              obtain ⟨y172, hy172, h169⟩ := bs h169
              refine nx (t_ca (C60 _ _ _ _ _ _ _ hy172) Tryd.func60 nm60 rfl rfl rfl (.cons e2 (.cons e1 .nil)) (fun w Z hA => (V1 a0 hA V0)) rfl fun t173 => ?_)
              refine t_nil ?_
              refine t_then hK171 ?_
              refine t_seq fun K174 hK175 => ?_
              refine t_region ?_
              refine c_s (r_ldA a0 Tryd.underlying27 rfl ti27 rfl rfl) rfl ?_
              refine nx (t_st u2 ti27 rfl rfl rfl rfl rfl (.t (.s (.s (.s (.s .z))))) ?_)
              refine c_p (r_as rfl) rfl ?_
              refine t_nil ?_
              refine t_then hK175 ?_
              refine t_ret ?_
              refine ret2 rfl (v_N rfl a2 Tryd.underlying27 rfl ti27 rfl) (v_t rfl) (t_bk hR13 ?_)
              exact t_go (J188 y146.Room t173.1 t173.2.1 t173.2.2 y172 y146.Off x167 0 h169) ⟨rfl, rfl, rfl, trivial⟩ (.cons e3 (.cons e1 .nil)) (fun w Z hA => V1 a0 hA (V0))
            refine t_seq fun K151 hK152 => ?_
            refine t_region ?_
            refine c_p (r_fa (off' := 3) Tryd.underlying27 rfl ti3 rfl rfl) rfl ?_
            refine c_s (r_ld a0 Tryd.underlying3 rfl rfl rfl) rfl ?_
            refine c_p (r_i rfl rfl rfl) rfl ?_
            refine t_nil ?_
            refine t_then hK152 ?_
            rcases Bool.eq_false_or_eq_true (decide (y146.Plan > 0)) with hb153 | hb153
            · replace h132 := itT hb153 h132
              refine t_T rfl hb153 ?_
              refine t_seq fun K154 hK155 => ?_
              refine t_region ?_
              refine c_p (r_fa (off' := 3) Tryd.underlying27 rfl ti3 rfl rfl) rfl ?_
              refine c_s (r_ld a0 Tryd.underlying3 rfl rfl rfl) rfl ?_
              refine c_p (r_i rfl rfl rfl) rfl ?_
              refine c_p (r_fa (off' := 3) Tryd.underlying27 rfl ti3 rfl rfl) rfl ?_
              refine nx (t_st u0 ti3 rfl rfl rfl rfl rfl (.s (.s (.s (.t (.s .z))))) ?_)
              refine t_nil ?_
              refine t_then hK155 ?_
              refine t_seq fun K156 hK157 => ?_
              refine t_region ?_
              refine c_p (r_fa (off' := 3) Tryd.underlying27 rfl ti3 rfl rfl) rfl ?_
              refine c_s (r_ld a0 Tryd.underlying3 rfl rfl rfl) rfl ?_
              refine c_p (r_i rfl rfl rfl) rfl ?_
              refine t_nil ?_
              refine t_then hK157 ?_
              rcases Bool.eq_false_or_eq_true ((IntKind.wrap .i64 (y146.Plan - 1)) == 0) with hb158 | hb158
              · replace h132 := itT hb158 h132
                refine t_T rfl hb158 ?_
                refine t_seq fun K159 hK160 => ?_
                refine t_region ?_
                refine c_p (r_fa (off' := 2) Tryd.underlying27 rfl ti4 rfl rfl) rfl ?_
                refine nx (t_st u0 ti4 rfl rfl rfl rfl rfl (.s (.s (.t (.s .z)))) ?_)
                refine t_nil ?_
                refine t_then hK160 ?_
                refine t_seq fun K161 hK162 => ?_
                refine t_region ?_
                refine c_p (r_mv rfl) rfl ?_
                refine c_p (r_mv rfl) rfl ?_
                obtain ⟨y163, hy163, h132⟩ := bs h132
                refine nx (t_cf (C43 _ _ _ _ _ _ _ hy163) (fun _ => (flat_blk flat_nil)) Tryd.func43 nm43 rfl rfl rfl (.cons e0 .nil) (fun w Z S hA hL => (FL a0 hL (F1 a1 hA F0))) rfl fun t164 => ?_)
                refine t_nil ?_
                refine t_then hK162 ?_
                refine t_seq fun K165 hK166 => ?_
                refine t_region ?_
                refine c_s (r_ldA a0 Tryd.underlying27 rfl ti27 rfl rfl) rfl ?_
                refine nx (t_st u3 ti27 rfl rfl rfl rfl rfl (.t (.s (.s (.s (.s .z))))) ?_)
                refine c_p (r_as rfl) rfl ?_
                refine t_nil ?_
                refine t_then hK166 ?_
                refine t_ret ?_
                refine tr (ret2 rfl (v_N rfl a3 Tryd.underlying27 rfl ti27 rfl) (v_t rfl) (t_bk hR13 ?_))
                exact t_go (J188 y146.Room t147.1 t147.2.1 t147.2.2 y146.Files true (IntKind.wrap .i64 (y146.Plan - 1)) 242 h132) ⟨rfl, rfl, rfl, trivial⟩ (.cons e4 (.cons e1 .nil)) (fun w Z hA => V1 a1 hA (V0))
              · replace h132 := itF hb158 h132
                refine t_F rfl hb158 ?_
                refine t_skip ?_
                exact t_norm (t_go (J168 (IntKind.wrap .i64 (y146.Plan - 1)) h132) ⟨rfl, rfl, rfl, rfl, trivial⟩ (.cons e3 (.cons e1 (.cons e0 (.cons e1 .nil)))) (fun w Z hA => V1 a1 hA (V0)))
            · replace h132 := itF hb153 h132
              refine t_F rfl hb153 ?_
              refine t_skip ?_
              exact t_norm (t_go (J168 y146.Plan h132) ⟨rfl, rfl, rfl, rfl, trivial⟩ (.cons e3 (.cons e1 (.cons e0 (.cons e1 .nil)))) (fun w Z hA => V1 a1 hA (V0)))
        refine t_block ?_
        refine t_seq fun K123 hK124 => ?_
        refine t_region ?_
        refine c_p (r_mv rfl) rfl ?_
        refine c_p (r_i rfl rfl rfl) rfl ?_
        refine c_p (r_mv rfl) rfl ?_
        rcases Bool.eq_false_or_eq_true (decide (y119 < 0)) with hb125 | hb125
        · replace h116 := itT hb125 h116
          refine nx (gd rfl rfl hb125 (sp (r_mv rfl) rfl ?_))
          refine nx (gd rfl rfl hb125 (sp (r_not rfl) rfl ?_))
          refine c_p (r_pT rfl hb125 rfl) rfl ?_
          refine c_p (r_as rfl) rfl ?_
          refine t_nil ?_
          refine t_then hK124 ?_
          refine t_T rfl rfl ?_
          refine t_seq fun K126 hK127 => ?_
          refine t_region ?_
          refine c_p (r_bu (ps := []) (cs := [.int .i64 0, .slice none 0 0, .bool false, .int .i64 0]) rfl (by kernel_rfl)) rfl ?_
          refine nx (t_st u1 ti27 rfl rfl rfl rfl rfl (.t (.s (.s (.s (.s .z))))) ?_)
          refine c_p (r_as rfl) rfl ?_
          refine t_nil ?_
          refine t_then hK127 ?_
          refine t_ret ?_
          refine br (tr (ret2 rfl (v_N rfl a1 Tryd.underlying27 rfl ti27 rfl) (v_t rfl) (t_bk hR13 ?_)))
          refine t_nr 34 k_api_DiskFile ?_
          exact t_go (J188 0 none 0 0 ([] : List api_DiskFile) false 0 244 h116) ⟨rfl, rfl, rfl, trivial⟩ (.cons e3 (.cons e0 .nil)) (fun w Z hA => V1 a1 hA (V0))
        · replace h116 := itF hb125 h116
          refine nx (pass rfl rfl hb125 rfl ?_)
          refine nx (pass rfl rfl hb125 rfl ?_)
          refine c_p (r_pF rfl hb125 rfl) rfl ?_
          refine c_p (r_as rfl) rfl ?_
          refine t_nil ?_
          refine t_then hK124 ?_
          refine t_F rfl rfl ?_
          refine t_seq fun K128 hK129 => ?_
          refine t_region ?_
          refine c_p (r_mv rfl) rfl ?_
          refine c_p (r_i rfl rfl rfl) rfl ?_
          refine c_p (r_mv rfl) rfl ?_
          rcases Bool.eq_false_or_eq_true (decide (y119 ≥ 0)) with hb130 | hb130
          · replace h116 := itT hb130 h116
            refine nx (gd rfl rfl hb130 (sp (r_mv rfl) rfl ?_))
            refine c_p (r_pT rfl hb130 rfl) rfl ?_
            refine c_p (r_as rfl) rfl ?_
            refine t_nil ?_
            refine t_then hK129 ?_
            refine t_F rfl rfl ?_
            refine t_skip ?_
            refine t_blockN ?_
            exact t_norm (t_go (J131 h116) ⟨rfl, rfl, rfl, rfl, rfl, rfl, trivial⟩ (.cons e0 (.cons e0 (.cons e0 .nil))) (fun w Z hA => V1 a0 hA (V1 a1 hA (V0))))
          · replace h116 := itF hb130 h116
            refine nx (pass rfl rfl hb130 rfl ?_)
            refine c_p (r_pF rfl hb130 rfl) rfl ?_
            refine c_p (r_as rfl) rfl ?_
            refine t_nil ?_
            refine t_then hK129 ?_
            refine t_F rfl rfl ?_
            refine t_skip ?_
            refine t_blockN ?_
            exact t_norm (t_go (J131 h116) ⟨rfl, rfl, rfl, rfl, rfl, rfl, trivial⟩ (.cons e0 (.cons e0 (.cons e0 .nil))) (fun w Z hA => V1 a0 hA (V1 a1 hA (V0))))
      refine t_seq fun K38 hK39 => ?_
      refine t_region ?_
      refine c_p (r_mv rfl) rfl ?_
      refine nx (t_bs (ps := [(0, .string z1)]) (cs := [.string z1]) Tryd.underlying72 ti9 rfl rfl (by kernel_rfl) rfl fun g40 => ?_)
      refine c_p (r_mv rfl) rfl ?_
      refine t_tr (Kd := kStr) (xs := [z1]) (.cons e0 .nil) rfl (fun w Z S hA hN => flat_EO (S := Nil) flatK_str (er1 (c1 := [.string z1]) rfl er0)) ?_
      obtain ⟨hc41, h⟩ := ck_out h
      refine nx (t_app (Kd := kStr) (xs := [z1]) (ys := ([] : List ByteArray)) (.cons e0 .nil) rfl rfl Tryd.underlying72 Tryd.underlying72 ti9 rfl rfl hc41 (srcN kStr) rfl fun t42 => ?_)
      refine c_s (r_lnL a0 Tryd.underlying72 rfl) rfl ?_
      refine c_p (r_mv rfl) rfl ?_
      refine t_nil ?_
      refine t_then hK39 ?_
      refine t_block ?_
      refine t_lp fun k87 hk88 => ?_
      have LP90 : ∀ (k92 : Nat) (x89 : Int), f_disk_Remove_l1 z0 z1 k92 x89 = some r → T 90 c [vw (kSlice 34 k_api_DiskFile) z0.Files [.slice p1 m2 c3], g_names] [[blk g16 [.int .i64 z0.Room, .slice p1 m2 c3, .bool z0.Off, .int .i64 z0.Plan] 27], [blk g17 [.int .i64 0, .slice none 0 0, .bool false, .int .i64 0] 27], [row 9 kStr ([z1] ++ ([] : List ByteArray)) (.slice t42.1 t42.2.1 t42.2.2)], [blk g7 [.int .i64 0, .slice none 0 0, .bool false, .int .i64 0] 27]] [(1, .string z1), (3, .bool false), (4, .func (.func 53) #[] #[]), (5, .func (.func 60) #[] #[]), (6, .func (.func 43) #[] #[]), (7, .pointer (some ⟨g16, 0, none⟩)), (14, .pointer (some ⟨g17, 0, none⟩)), (32, .slice t42.1 t42.2.1 t42.2.2), (33, .int .i64 (([z1] ++ ([] : List ByteArray)).length : Int)), (34, .int .i64 x89)] k87 := by
        intro k92
        induction k92 with
        | zero => intro x89 h91; rewrite [f_disk_Remove_l1] at h91; cases h91
        | succ k92 ih93 =>
          intro x89 h91
          rewrite [f_disk_Remove_l1] at h91
          refine ti hk88 ?_
          refine t_seq fun K94 hK95 => ?_
          refine t_region ?_
          refine c_p (r_i rfl rfl rfl) rfl ?_
          refine t_nil ?_
          refine t_then hK95 ?_
          refine t_seq fun K96 hK97 => ?_
          rcases Bool.eq_false_or_eq_true (decide (x89 < (([z1] ++ ([] : List ByteArray)).length : Int))) with hb98 | hb98
          · replace h91 := itT hb98 h91
            refine t_T rfl hb98 ?_
            refine t_skip ?_
            refine t_then hK97 ?_
            refine t_seq fun K99 hK100 => ?_
            refine t_block ?_
            refine t_seq fun K101 hK102 => ?_
            refine t_region ?_
            obtain ⟨el106, hel106, h91⟩ := bs h91
            refine t_qL a2 hel106 fun q103 hq104 hm105 => ?_
            refine c_p (r_idx hq104 hm105 hel106 Tryd.underlying72 ti9 rfl rfl) rfl ?_
            refine t_oI opensO_str e2 hel106 fun t107 => ?_
            refine c_s (r_h1 a0 hq104 Tryd.underlying9 rfl rfl rfl) rfl ?_
            refine c_p (r_as rfl) rfl ?_
            refine t_nil ?_
            refine t_then hK102 ?_
            refine t_seq fun K108 hK109 => ?_
            refine t_region ?_
            refine c_p (r_mv rfl) rfl ?_
            obtain ⟨y110, hy110, h91⟩ := bs h91
            refine nx (t_ca (C36 _ _ hy110) Tryd.func36 nm36 rfl rfl rfl .nil (fun w Z hA => (V1 a1 hA V0)) rfl fun t111 => ?_)
            refine c_p (r_not rfl) rfl ?_
            refine t_nil ?_
            refine t_then hK109 ?_
            rcases Bool.eq_false_or_eq_true y110 with hb112 | hb112
            · replace h91 := itT hb112 h91
              refine t_F rfl (congrArg Bool.not hb112) ?_
              refine t_skip ?_
              refine t_blockN ?_
              refine t_then hK100 ?_
              refine t_region ?_
              refine c_p (r_i rfl rfl rfl) rfl ?_
              refine c_p (r_mv rfl) rfl ?_
              refine t_nil ?_
              refine t_cS (u := el106) (t := ()) shutsO_str hel106 (.cons e0 .nil) rfl (fun w Z hA => trivial) ?_
              exact t_norm (t_go (ih93 (IntKind.wrap .i64 (x89 + 1)) h91) ⟨rfl, rfl, rfl, rfl, rfl, rfl, rfl, rfl, rfl, rfl, trivial⟩ (.cons e1 (.cons e1 (.cons e0 (.cons e0 .nil)))) (fun w Z hA => V1 a0 hA (V1 a1 hA (V0))))
            · replace h91 := itF hb112 h91
              refine t_T rfl (congrArg Bool.not hb112) ?_
              refine t_seq fun K113 hK114 => ?_
              refine t_region ?_
              refine c_p (r_bu (ps := []) (cs := [.int .i64 0, .slice none 0 0, .bool false, .int .i64 0]) rfl (by kernel_rfl)) rfl ?_
              refine nx (t_st u2 ti27 rfl rfl rfl rfl rfl (.t (.s (.s (.s (.s .z))))) ?_)
              refine c_p (r_as rfl) rfl ?_
              refine t_nil ?_
              refine t_then hK114 ?_
              refine t_ret ?_
              refine br (tr (tr (br (tr (ret2 rfl (v_N rfl a2 Tryd.underlying27 rfl ti27 rfl) (v_t rfl) (t_bk hR13 ?_))))))
              refine t_nr 34 k_api_DiskFile ?_
              exact t_go (J188 0 none 0 0 ([] : List api_DiskFile) false 0 243 h91) ⟨rfl, rfl, rfl, trivial⟩ (.cons e4 (.cons e0 .nil)) (fun w Z hA => V1 a1 hA (V0))
          · replace h91 := itF hb98 h91
            refine t_F rfl hb98 ?_
            refine t_exit ?_
            refine te (te (bx ?_))
            exact t_norm (t_go (J115 h91) ⟨rfl, rfl, rfl, rfl, rfl, rfl, rfl, trivial⟩ (.cons e0 (.cons e0 (.cons e1 .nil))) (fun w Z hA => V1 a0 hA (V1 a1 hA (V0))))
      exact t_go (LP90 ((((([z1] ++ ([] : List ByteArray)).length : Int) : Int) - (0)).toNat + 1) 0 h) ⟨rfl, rfl, rfl, rfl, rfl, rfl, rfl, rfl, rfl, rfl, trivial⟩ (.cons e2 (.cons e1 (.cons e0 (.cons e0 .nil)))) (fun w Z hA => V1 a0 hA (V1 a1 hA (V0)))
  · replace h := itF hb24 h
    refine t_T rfl (congrArg Bool.not hb24) ?_
    refine t_seq fun K25 hK26 => ?_
    refine t_region ?_
    refine c_p (r_bu (ps := []) (cs := [.int .i64 0, .slice none 0 0, .bool false, .int .i64 0]) rfl (by kernel_rfl)) rfl ?_
    refine nx (t_st u0 ti27 rfl rfl rfl rfl rfl (.t (.s (.s (.s (.s .z))))) ?_)
    refine c_p (r_as rfl) rfl ?_
    refine t_nil ?_
    refine t_then hK26 ?_
    refine t_ret ?_
    refine tr (ret2 rfl (v_N rfl a0 Tryd.underlying27 rfl ti27 rfl) (v_t rfl) (t_bk hR13 ?_))
    refine t_nr 34 k_api_DiskFile ?_
    exact t_go (J188 0 none 0 0 ([] : List api_DiskFile) false 0 241 h) ⟨rfl, rfl, rfl, trivial⟩ (.cons e3 (.cons e0 .nil)) (fun w Z hA => V1 a1 hA (V0))
end Go.Proofs.YtkjeedijloobgaaDoor.Gx

/- The simulated disk: what each change answers, of a valid disk with its power on and no failure planned. -/
set_option linter.unusedVariables false
namespace Go.Proofs.YtkjeedijloobgaaDoor.Gx
open Go.Gx Go.RowKit
structure Inv (d : api_Disk) : Prop extends DOk d where
  off : d.Off = false
  noplan : d.Plan = 0
def E0 : api_Disk := ⟨0, [], false, 0⟩
def hasN (d : api_Disk) (nm : ByteArray) : Bool := d.Files.any fun f => decide (f.Name = nm)
theorem hasN_f {d : api_Disk} {nm : ByteArray} (h : ∀ f ∈ d.Files, f.Name ≠ nm) : hasN d nm = false := by
  unfold hasN; rw [List.any_eq_false]; intro f hf; simpa using h f hf
theorem hasN_t {d : api_Disk} {nm : ByteArray} {f : api_DiskFile} (h : f ∈ d.Files) (hn : f.Name = nm) : hasN d nm = true := by
  unfold hasN; rw [List.any_eq_true]; exact ⟨f, h, by simpa using hn⟩
theorem hasN_get {d : api_Disk} {nm : ByteArray} (h : hasN d nm = true) : ∃ f ∈ d.Files, f.Name = nm := by
  unfold hasN at h; rw [List.any_eq_true] at h; obtain ⟨f, hf, hn⟩ := h; exact ⟨f, hf, by simpa using hn⟩
theorem disk_eta (d : api_Disk) (I : Inv d) : d = ⟨d.Room, d.Files, false, 0⟩ := by
  obtain ⟨r, fs, o, p⟩ := d
  have h1 := I.off; have h2 := I.noplan
  simp only at h1 h2
  subst h1 h2; rfl
/-- place, as Create has it. -/
theorem Create_place {d : api_Disk} (hl : d.Files.length < 1000000) (nm : ByteArray) (x : api_DiskFile) (hx : x = ⟨nm, [], 0⟩) (pl : Int) : ∀ (k i : Nat), i ≤ d.Files.length → d.Files.length < k + i →
    f_disk_Create_l2 nm d pl k i = some (⟨d.Room, d.Files.take i ++ plc (d.Files.drop i) x, d.Off, pl⟩, 0) := by
  intro k
  induction k with
  | zero => intro i h1 h2; omega
  | succ k ih =>
    intro i h1 h2
    rw [f_disk_Create_l2]
    by_cases h : i < d.Files.length
    · have e : d.Files.drop i = d.Files[i] :: d.Files.drop (i + 1) := (List.getElem_cons_drop h).symm
      have hx1 : x.Name = nm := by rw [hx]
      refine ite_t (dec_t (by omega)) (bind_of (at_get h) ?_)
      by_cases hb : Op.bytesLess (d.Files[i]).Name.toList nm.toList = true
      · refine ite_t hb ?_
        rw [wrap_up (by omega), ih (i + 1) (by omega) (by omega), e, plc_cons]
        rw [hx1, if_pos hb, List.take_add_one, List.getElem?_eq_getElem h, List.append_assoc]; rfl
      · refine ite_f (by simpa using hb) ?_
        unfold f_disk_Create_j5
        refine ite_t (dec_t (by omega)) (bind_of (at_get h) ?_)
        by_cases hn : (d.Files[i]).Name = nm
        · refine ite_t (by rw [beq_bytes]; exact dec_t hn) ?_
          unfold f_disk_Create_j7 f_disk_Create_j8 f_disk_Create_j9
          rw [e, plc_cons]
          rw [hx1, if_neg hb, if_pos hn, Int.toNat_natCast, ← hx, List.set_eq_take_append_cons_drop, if_pos h]
        · refine ite_f (by rw [beq_bytes]; exact dec_f hn) ?_
          unfold f_disk_Create_j6
          refine bind_of (Insert_ok _ (by omega) hl) ?_
          unfold f_disk_Create_j7 f_disk_Create_j8 f_disk_Create_j9
          rw [e, plc_cons]
          rw [hx1, if_neg hb, if_neg hn, ← hx, List.append_assoc]; rfl
    · obtain rfl : i = d.Files.length := by omega
      refine ite_f (dec_f (by omega)) ?_
      unfold f_disk_Create_j5
      refine ite_f (dec_f (by omega)) ?_
      unfold f_disk_Create_j6
      refine bind_of (Insert_ok _ (by omega) hl) ?_
      unfold f_disk_Create_j7 f_disk_Create_j8 f_disk_Create_j9
      rw [List.drop_length, ← hx, List.append_nil]; rfl
theorem Create_ok {d : api_Disk} (I : Inv d) {nm : ByteArray} (hn : Nm nm) :
    f_disk_Create d nm = some (if hasN d nm = true then (E0, 245) else if 24 ≤ d.Files.length then (E0, 247) else (⟨d.Room, plc d.Files ⟨nm, [], 0⟩, false, 0⟩, 0)) := by
  have hl := I.len
  unfold f_disk_Create
  refine bind_of (Valid_ok I.toDOk) (ite_t rfl (ite_f I.off (ck_of (fits_of (by simp)) ?_)))
  change f_disk_Create_l1 d nm (1 + 1) 0 = _
  rw [f_disk_Create_l1]
  refine ite_t rfl (bind_of (show at_ ([nm] ++ ([] : List ByteArray)) 0 = some nm from rfl) (bind_of hn (ite_t rfl ?_)))
  change f_disk_Create_l1 d nm (0 + 1) 1 = _
  rw [f_disk_Create_l1]
  refine ite_f rfl ?_
  unfold f_disk_Create_j1
  obtain ⟨r, hr, ⟨rfl, h⟩ | ⟨j, f, rfl, h, hf⟩⟩ := find_ok (d := d) nm (by omega)
  · refine bind_of hr (ite_t rfl ?_)
    rw [hasN_f h, if_neg (by simp)]
    unfold f_disk_Create_j2
    refine ite_f rfl ?_
    unfold f_disk_Create_j3 f_disk_Create_1
    by_cases h24 : 24 ≤ d.Files.length
    · rw [if_pos h24]
      exact bind_of (ite_t (dec_t (by omega)) rfl) (ite_t rfl rfl)
    · rw [if_neg h24]
      refine bind_of (ite_f (dec_f (by omega)) rfl) (ite_f rfl (bind_of (fresh_ok I.toDOk) (ite_f (dec_f (by rw [I.noplan]; omega)) ?_)))
      unfold f_disk_Create_j4
      have := Create_place (d := d) (by omega) nm _ rfl d.Plan ((((d.Files.length : Int) : Int) - (0)).toNat + 1) 0 (by omega) (by omega)
      refine Eq.trans this ?_
      rw [I.off, I.noplan]; rfl
  · refine bind_of hr (ite_f (dec_f (by omega)) ?_)
    rw [hasN_t (List.mem_iff_getElem?.2 ⟨j, h⟩) hf, if_pos rfl]
    unfold f_disk_Create_j2
    exact ite_t (dec_t (by omega)) rfl
theorem Free_ok {d : api_Disk} (D : DOk d) : f_disk_Free d = some (d.Room - usedL d.Files) := by
  have := D.len; have := D.used; have := D.room; have := D.room0
  unfold f_disk_Free f_disk_less
  refine bind_of (Used_ok (by omega) (by omega)) (bind_of (ite_f (dec_f (by omega)) rfl) ?_)
  rw [wrap_id (by omega) (by omega)]
  congr 1; omega
def found (d : api_Disk) (nm : ByteArray) (e : Int) (x : api_DiskFile → api_Disk × Int) : api_Disk × Int := match d.Files.find? (fun f => decide (f.Name = nm)) with | some f => x f | none => (E0, e)
theorem found_none {d : api_Disk} {nm : ByteArray} {e : Int} {x : api_DiskFile → api_Disk × Int} (h : ∀ f ∈ d.Files, f.Name ≠ nm) : found d nm e x = (E0, e) := by
  unfold found
  rw [List.find?_eq_none.2 (fun f hf => by simpa using h f hf)]
theorem found_some {d : api_Disk} (hs : SortedN d.Files) {nm : ByteArray} {e : Int} {x : api_DiskFile → api_Disk × Int} {f : api_DiskFile} (hf : f ∈ d.Files) (hn : f.Name = nm) : found d nm e x = x f := by
  unfold found
  cases h : d.Files.find? (fun f => decide (f.Name = nm)) with
  | none => exact absurd hn (by simpa using List.find?_eq_none.1 h f hf)
  | some g =>
    have h1 := List.mem_of_find?_eq_some h
    have h2 : g.Name = nm := by simpa using List.find?_some h
    rw [sorted_uniq hs h1 hf (by rw [h2, hn])]
theorem Append_ok {d : api_Disk} (I : Inv d) {nm : ByteArray} (hn : Nm nm) {b : List Int} (hb : b.length < 1000000) :
    f_disk_Append d nm b = some (found d nm 244 fun _ => if (b.length : Int) > d.Room - usedL d.Files then (E0, 247) else (⟨d.Room, upd d.Files nm (fun f => ⟨f.Name, f.Data ++ b, f.Safe⟩), false, 0⟩, 0)) := by
  have hl := I.len; have := I.used; have := I.room; have := I.room0
  unfold f_disk_Append
  refine bind_of (Valid_ok I.toDOk) (ite_t rfl (ite_f I.off (ck_of (fits_of (by simp)) ?_)))
  change f_disk_Append_l1 d nm b (1 + 1) 0 = _
  rw [f_disk_Append_l1]
  refine ite_t rfl (bind_of (show at_ ([nm] ++ ([] : List ByteArray)) 0 = some nm from rfl) (bind_of hn (ite_t rfl ?_)))
  change f_disk_Append_l1 d nm b (0 + 1) 1 = _
  rw [f_disk_Append_l1]
  refine ite_f rfl ?_
  unfold f_disk_Append_j1
  obtain ⟨r, hr, ⟨rfl, h⟩ | ⟨j, f, rfl, h, hf⟩⟩ := find_ok (d := d) nm (by omega)
  · refine bind_of hr (ite_t rfl ?_)
    rw [found_none h]; rfl
  · have hm := List.mem_iff_getElem?.2 ⟨j, h⟩
    refine bind_of hr (ite_f (dec_f (by omega)) (ite_t (dec_t (by omega)) ?_))
    rw [found_some I.sorted hm hf]
    unfold f_disk_Append_j2
    refine bind_of (Free_ok I.toDOk) ?_
    by_cases hr : (b.length : Int) > d.Room - usedL d.Files
    · rw [if_pos hr]; exact ite_t (dec_t hr) rfl
    · rw [if_neg hr]
      refine ite_f (dec_f hr) ?_
      unfold f_disk_Append_j3 f_disk_Append_j4
      refine ite_f rfl (bind_of (fresh_ok I.toDOk) (ite_f (dec_f (by rw [I.noplan]; omega)) ?_))
      unfold f_disk_Append_j5 f_disk_Append_j6
      have := usedL_mem hm
      refine bind_of (at_nat h) (ck_of (fits_of (by omega)) ?_)
      rw [I.off, I.noplan, Int.toNat_natCast, set_upd I.sorted h hf (fun f => ⟨f.Name, f.Data ++ b, f.Safe⟩)]
theorem Sync_ok {d : api_Disk} (I : Inv d) {nm : ByteArray} (hn : Nm nm) :
    f_disk_Sync d nm = some (found d nm 244 fun _ => (⟨d.Room, upd d.Files nm (fun f => ⟨f.Name, f.Data, f.Data.length⟩), false, 0⟩, 0)) := by
  have hl := I.len
  unfold f_disk_Sync
  refine bind_of (Valid_ok I.toDOk) (ite_t rfl (ite_f I.off (ck_of (fits_of (by simp)) ?_)))
  change f_disk_Sync_l1 d nm (1 + 1) 0 = _
  rw [f_disk_Sync_l1]
  refine ite_t rfl (bind_of (show at_ ([nm] ++ ([] : List ByteArray)) 0 = some nm from rfl) (bind_of hn (ite_t rfl ?_)))
  change f_disk_Sync_l1 d nm (0 + 1) 1 = _
  rw [f_disk_Sync_l1]
  refine ite_f rfl ?_
  unfold f_disk_Sync_j1
  obtain ⟨r, hr, ⟨rfl, h⟩ | ⟨j, f, rfl, h, hf⟩⟩ := find_ok (d := d) nm (by omega)
  · refine bind_of hr (ite_t rfl ?_)
    rw [found_none h]; rfl
  · have hm := List.mem_iff_getElem?.2 ⟨j, h⟩
    refine bind_of hr (ite_f (dec_f (by omega)) (ite_t (dec_t (by omega)) ?_))
    rw [found_some I.sorted hm hf]
    unfold f_disk_Sync_j2 f_disk_always
    refine bind_of rfl (ite_f rfl (bind_of (fresh_ok I.toDOk) (ite_f (dec_f (by rw [I.noplan]; omega)) ?_)))
    unfold f_disk_Sync_j3 f_disk_Sync_1 f_disk_Sync_j4
    refine bind_of (bind_of (at_nat h) rfl) ?_
    rw [I.off, I.noplan, Int.toNat_natCast, set_upd I.sorted h hf (fun f => ⟨f.Name, f.Data, f.Data.length⟩)]
theorem Truncate_ok {d : api_Disk} (I : Inv d) {nm : ByteArray} (hn : Nm nm) (n : Int) :
    f_disk_Truncate d nm n = some (found d nm 244 fun f => if n < 0 ∨ n > f.Data.length then (E0, 246) else (⟨d.Room, upd d.Files nm (fun f => ⟨f.Name, cut f.Data 0 n, min f.Safe n⟩), false, 0⟩, 0)) := by
  have hl := I.len
  unfold f_disk_Truncate
  refine bind_of (Valid_ok I.toDOk) (ite_t rfl (ite_f I.off (ck_of (fits_of (by simp)) ?_)))
  change f_disk_Truncate_l1 d nm n (1 + 1) 0 = _
  rw [f_disk_Truncate_l1]
  refine ite_t rfl (bind_of (show at_ ([nm] ++ ([] : List ByteArray)) 0 = some nm from rfl) (bind_of hn (ite_t rfl ?_)))
  change f_disk_Truncate_l1 d nm n (0 + 1) 1 = _
  rw [f_disk_Truncate_l1]
  refine ite_f rfl ?_
  unfold f_disk_Truncate_j1
  obtain ⟨r, hr, ⟨rfl, h⟩ | ⟨j, f, rfl, h, hf⟩⟩ := find_ok (d := d) nm (by omega)
  · refine bind_of hr (ite_t rfl ?_)
    rw [found_none h]; rfl
  · have hm := List.mem_iff_getElem?.2 ⟨j, h⟩
    refine bind_of hr (ite_f (dec_f (by omega)) (ite_t (dec_t (by omega)) ?_))
    rw [found_some I.sorted hm hf]
    unfold f_disk_Truncate_j2
    by_cases h0 : n < 0
    · rw [if_pos (show n < 0 ∨ n > (f.Data.length : Int) from .inl h0)]; exact ite_t (dec_t h0) rfl
    · refine ite_f (dec_f h0) (bind_of (at_nat h) ?_)
      by_cases h1 : n > f.Data.length
      · rw [if_pos (show n < 0 ∨ n > (f.Data.length : Int) from .inr h1)]; exact ite_t (dec_t h1) rfl
      · rw [if_neg (show ¬ (n < 0 ∨ n > (f.Data.length : Int)) by omega)]
        refine ite_f (dec_f h1) ?_
        unfold f_disk_Truncate_j3 f_disk_Truncate_j4
        refine ite_f rfl (bind_of (fresh_ok I.toDOk) (ite_f (dec_f (by rw [I.noplan]; omega)) ?_))
        unfold f_disk_Truncate_j5 f_disk_Truncate_j6
        refine bind_of (at_nat h) (ck_of ⟨by omega, by omega, by omega⟩ ?_)
        rw [I.off, I.noplan, Int.toNat_natCast, set_upd I.sorted h hf (fun f => ⟨f.Name, cut f.Data 0 n, min f.Safe n⟩)]
theorem Remove_ok {d : api_Disk} (I : Inv d) {nm : ByteArray} (hn : Nm nm) :
    f_disk_Remove d nm = some (found d nm 244 fun _ => (⟨d.Room, del d.Files nm, false, 0⟩, 0)) := by
  have hl := I.len
  unfold f_disk_Remove
  refine bind_of (Valid_ok I.toDOk) (ite_t rfl (ite_f I.off (ck_of (fits_of (by simp)) ?_)))
  change f_disk_Remove_l1 d nm (1 + 1) 0 = _
  rw [f_disk_Remove_l1]
  refine ite_t rfl (bind_of (show at_ ([nm] ++ ([] : List ByteArray)) 0 = some nm from rfl) (bind_of hn (ite_t rfl ?_)))
  change f_disk_Remove_l1 d nm (0 + 1) 1 = _
  rw [f_disk_Remove_l1]
  refine ite_f rfl ?_
  unfold f_disk_Remove_j1
  obtain ⟨r, hr, ⟨rfl, h⟩ | ⟨j, f, rfl, h, hf⟩⟩ := find_ok (d := d) nm (by omega)
  · refine bind_of hr (ite_t rfl ?_)
    rw [found_none h]; rfl
  · have hm := List.mem_iff_getElem?.2 ⟨j, h⟩
    have hj := (List.getElem?_eq_some_iff.1 h).1
    refine bind_of hr (ite_f (dec_f (by omega)) (ite_t (dec_t (by omega)) ?_))
    rw [found_some I.sorted hm hf]
    unfold f_disk_Remove_j2 f_disk_always
    refine bind_of rfl (ite_f rfl (bind_of (fresh_ok I.toDOk) (ite_f (dec_f (by rw [I.noplan]; omega)) ?_)))
    unfold f_disk_Remove_j3 f_disk_Remove_1 f_disk_Remove_j4
    refine bind_of (bind_of (Delete_ok (l := d.Files) hj (by omega)) rfl) ?_
    rw [I.off, I.noplan, del_at I.sorted h hf]
theorem Rename_place {d : api_Disk} {l : List api_DiskFile} (hl : l.length < 1000000) (nm : ByteArray) (f0 x : api_DiskFile) (hx : x = ⟨nm, f0.Data, f0.Safe⟩) (pl : Int) : ∀ (k i : Nat), i ≤ l.length → l.length < k + i →
    f_disk_Rename_l2 nm d pl f0 l k i = some (⟨d.Room, l.take i ++ plc (l.drop i) x, d.Off, pl⟩, 0) := by
  intro k
  induction k with
  | zero => intro i h1 h2; omega
  | succ k ih =>
    intro i h1 h2
    rw [f_disk_Rename_l2]
    by_cases h : i < l.length
    · have e : l.drop i = l[i] :: l.drop (i + 1) := (List.getElem_cons_drop h).symm
      have hx1 : x.Name = nm := by rw [hx]
      refine ite_t (dec_t (by omega)) (bind_of (at_get h) ?_)
      by_cases hb : Op.bytesLess (l[i]).Name.toList nm.toList = true
      · refine ite_t hb ?_
        rw [wrap_up (by omega), ih (i + 1) (by omega) (by omega), e, plc_cons]
        rw [hx1, if_pos hb, List.take_add_one, List.getElem?_eq_getElem h, List.append_assoc]; rfl
      · refine ite_f (by simpa using hb) ?_
        unfold f_disk_Rename_j4
        refine ite_t (dec_t (by omega)) (bind_of (at_get h) ?_)
        by_cases hn : (l[i]).Name = nm
        · refine ite_t (by rw [beq_bytes]; exact dec_t hn) ?_
          unfold f_disk_Rename_j6 f_disk_Rename_j7 f_disk_Rename_j8
          rw [e, plc_cons]
          rw [hx1, if_neg hb, if_pos hn, Int.toNat_natCast, ← hx, List.set_eq_take_append_cons_drop, if_pos h]
        · refine ite_f (by rw [beq_bytes]; exact dec_f hn) ?_
          unfold f_disk_Rename_j5
          refine bind_of (Insert_ok _ (by omega) hl) ?_
          unfold f_disk_Rename_j6 f_disk_Rename_j7 f_disk_Rename_j8
          rw [e, plc_cons]
          rw [hx1, if_neg hb, if_neg hn, ← hx, List.append_assoc]; rfl
    · obtain rfl : i = l.length := by omega
      refine ite_f (dec_f (by omega)) ?_
      unfold f_disk_Rename_j4
      refine ite_f (dec_f (by omega)) ?_
      unfold f_disk_Rename_j5
      refine bind_of (Insert_ok _ (by omega) hl) ?_
      unfold f_disk_Rename_j6 f_disk_Rename_j7 f_disk_Rename_j8
      rw [List.drop_length, ← hx, List.append_nil]; rfl
theorem Rename_ok {d : api_Disk} (I : Inv d) {nm to : ByteArray} (hn : Nm nm) (ht : Nm to) :
    f_disk_Rename d nm to = some (found d nm 244 fun f => (⟨d.Room, plc (del d.Files nm) ⟨to, f.Data, f.Safe⟩, false, 0⟩, 0)) := by
  have hl := I.len
  unfold f_disk_Rename
  refine bind_of (Valid_ok I.toDOk) (ite_t rfl (ite_f I.off (ck_of (fits_of (by simp)) ?_)))
  change f_disk_Rename_l1 d nm to (2 + 1) 0 = _
  rw [f_disk_Rename_l1]
  refine ite_t rfl (bind_of (show at_ ([nm] ++ [to]) 0 = some nm from rfl) (bind_of hn (ite_t rfl ?_)))
  change f_disk_Rename_l1 d nm to (1 + 1) 1 = _
  rw [f_disk_Rename_l1]
  refine ite_t rfl (bind_of (show at_ ([nm] ++ [to]) 1 = some to from rfl) (bind_of ht (ite_t rfl ?_)))
  change f_disk_Rename_l1 d nm to (0 + 1) 2 = _
  rw [f_disk_Rename_l1]
  refine ite_f rfl ?_
  unfold f_disk_Rename_j1
  obtain ⟨r, hr, ⟨rfl, h⟩ | ⟨j, f, rfl, h, hf⟩⟩ := find_ok (d := d) nm (by omega)
  · refine bind_of hr (ite_t rfl ?_)
    rw [found_none h]; rfl
  · have hm := List.mem_iff_getElem?.2 ⟨j, h⟩
    have hj := (List.getElem?_eq_some_iff.1 h).1
    refine bind_of hr (ite_f (dec_f (by omega)) (ite_t (dec_t (by omega)) ?_))
    rw [found_some I.sorted hm hf]
    unfold f_disk_Rename_j2 f_disk_always
    refine bind_of rfl (ite_f rfl (bind_of (fresh_ok I.toDOk) (ite_f (dec_f (by rw [I.noplan]; omega)) ?_)))
    unfold f_disk_Rename_j3
    refine bind_of (at_nat h) (bind_of (Delete_ok hj (by omega)) ?_)
    rw [del_at I.sorted h hf]
    have hdl : (del d.Files nm).length ≤ d.Files.length := List.length_filter_le _ _
    have := Rename_place (d := d) (l := del d.Files nm) (by omega) to f _ rfl d.Plan ((((del d.Files nm).length : Int) - (0)).toNat + 1) 0 (by omega) (by omega)
    refine Eq.trans this ?_
    rw [I.off, I.noplan]; rfl
end Go.Proofs.YtkjeedijloobgaaDoor.Gx

/- The simulated disk: what is valid stays valid. -/
set_option linter.unusedVariables false
namespace Go.Proofs.YtkjeedijloobgaaDoor.Gx
open Go.Gx Go.RowKit
theorem upd_used {l : List api_DiskFile} {nm : ByteArray} {g : api_DiskFile → api_DiskFile} (hs : SortedN l) {f : api_DiskFile} (hf : f ∈ l) (hn : f.Name = nm) : usedL (upd l nm g) + f.Data.length = usedL l + (g f).Data.length := by
  induction l with
  | nil => cases hf
  | cons h l ih =>
    obtain ⟨h1, h2⟩ := sortedN_cons.1 hs
    have e : upd (h :: l) nm g = (if h.Name = nm then g h else h) :: upd l nm g := rfl
    rw [e, usedL_cons, usedL_cons]
    rcases List.mem_cons.1 hf with rfl | hf
    · have : upd l nm g = l := by
        unfold upd
        conv => rhs; rw [← List.map_id l]
        refine List.map_congr_left fun f' hf' => ?_
        have : f'.Name ≠ nm := fun e' => bl_ne (h1 f' hf') (by rw [hn, e'])
        simp [this]
      rw [this, if_pos hn]; omega
    · have : h.Name ≠ nm := fun e' => bl_ne (h1 f hf) (by rw [hn, e'])
      have := ih h2 hf
      rw [if_neg (by assumption)]; omega
theorem upd_len (l : List api_DiskFile) (nm : ByteArray) (g : api_DiskFile → api_DiskFile) : (upd l nm g).length = l.length := by unfold upd; simp
theorem Inv.plc {d : api_Disk} (I : Inv d) {x : api_DiskFile} (hn : Nm x.Name) (hs : 0 ≤ x.Safe ∧ x.Safe ≤ x.Data.length) {l : List api_DiskFile} (hl : l.Sublist d.Files) (hlen : l.length < 24) (hu : usedL l + x.Data.length ≤ usedL d.Files) : Inv ⟨d.Room, plc l x, false, 0⟩ := by
  have h0 := I.used
  have hsl : SortedN l := by have := I.sorted; unfold SortedN at *; exact this.sublist (hl.map _)
  have hp := plc_used x l
  have hq := plc_len x l
  refine ⟨⟨I.room0, I.room, by show (Gx.plc l x).length ≤ 24; omega, Int.le_refl _, by show (0 : Int) ≤ 10000; omega, fun f hf => ?_, fun f hf => ?_, plc_sorted hsl, by show (usedL (Gx.plc l x) : Int) ≤ d.Room; omega⟩, rfl, rfl⟩
  · rcases (plc_mem hsl f).1 hf with rfl | ⟨k, _⟩
    · exact hn
    · exact I.names f (hl.subset k)
  · rcases (plc_mem hsl f).1 hf with rfl | ⟨k, _⟩
    · exact hs
    · exact I.safe f (hl.subset k)
theorem Inv.upd {d : api_Disk} (I : Inv d) {nm : ByteArray} {g : api_DiskFile → api_DiskFile} {f : api_DiskFile} (hf : f ∈ d.Files) (hn : f.Name = nm) (hg : ∀ f, (g f).Name = f.Name) (hs : 0 ≤ (g f).Safe ∧ (g f).Safe ≤ (g f).Data.length) (hu : (usedL d.Files + (g f).Data.length : Int) ≤ d.Room + f.Data.length) : Inv ⟨d.Room, upd d.Files nm g, false, 0⟩ := by
  have := upd_used (g := g) I.sorted hf hn
  refine ⟨⟨I.room0, I.room, by show (Gx.upd d.Files nm g).length ≤ 24; rw [upd_len]; exact I.len, Int.le_refl _, by show (0 : Int) ≤ 10000; omega, fun f' hf' => ?_, fun f' hf' => ?_, upd_sorted hg I.sorted, by show (usedL (Gx.upd d.Files nm g) : Int) ≤ d.Room; omega⟩, rfl, rfl⟩
  · rcases upd_mem hf' with ⟨f2, h2, _, rfl⟩ | ⟨h2, _⟩
    · rw [hg]; exact I.names f2 h2
    · exact I.names f' h2
  · rcases upd_mem hf' with ⟨f2, h2, e2, rfl⟩ | ⟨h2, _⟩
    · rw [sorted_uniq I.sorted h2 hf (by rw [e2, hn])]; exact hs
    · exact I.safe f' h2
theorem Inv.del {d : api_Disk} (I : Inv d) (nm : ByteArray) : Inv ⟨d.Room, del d.Files nm, false, 0⟩ := by
  have h0 := I.used
  have h1 := del_used d.Files nm
  have h2 : (Gx.del d.Files nm).length ≤ d.Files.length := List.length_filter_le _ _
  have h3 := I.len
  refine ⟨⟨I.room0, I.room, by show (Gx.del d.Files nm).length ≤ 24; omega, Int.le_refl _, by show (0 : Int) ≤ 10000; omega, fun f hf => I.names f ((List.mem_filter.1 hf).1), fun f hf => I.safe f ((List.mem_filter.1 hf).1), del_sorted I.sorted nm, by show (usedL (Gx.del d.Files nm) : Int) ≤ d.Room; omega⟩, rfl, rfl⟩
theorem del_len {l : List api_DiskFile} {f : api_DiskFile} (hf : f ∈ l) : (del l f.Name).length < l.length := by
  unfold del
  rw [← List.countP_eq_length_filter]
  refine Nat.lt_of_le_of_ne List.countP_le_length fun e => ?_
  have := List.countP_eq_length.1 e f hf
  simp at this
theorem mem_del {l : List api_DiskFile} {f : api_DiskFile} {nm : ByteArray} (hf : f ∈ l) (hn : f.Name ≠ nm) : f ∈ del l nm := List.mem_filter.2 ⟨hf, by simpa using hn⟩
theorem Create_inv {d : api_Disk} (I : Inv d) {nm : ByteArray} (hn : Nm nm) (h : d.Files.length < 24) : Inv ⟨d.Room, Gx.plc d.Files ⟨nm, [], 0⟩, false, 0⟩ :=
  I.plc (x := ⟨nm, [], 0⟩) hn ⟨by show (0 : Int) ≤ 0; omega, by show (0 : Int) ≤ (([] : List Int).length : Int); simp⟩ (List.Sublist.refl _) h (by show usedL d.Files + 0 ≤ _; omega)
theorem Append_inv {d : api_Disk} (I : Inv d) {nm : ByteArray} {f : api_DiskFile} (hf : f ∈ d.Files) (hn : f.Name = nm) {b : List Int} (h : (b.length : Int) ≤ d.Room - usedL d.Files) : Inv ⟨d.Room, Gx.upd d.Files nm (fun f => ⟨f.Name, f.Data ++ b, f.Safe⟩), false, 0⟩ := by
  have := I.safe f hf
  exact I.upd (g := fun f => ⟨f.Name, f.Data ++ b, f.Safe⟩) hf hn (fun _ => rfl) ⟨this.1, by show f.Safe ≤ ((f.Data ++ b).length : Int); rw [List.length_append]; omega⟩ (by show (usedL d.Files + (f.Data ++ b).length : Int) ≤ _; rw [List.length_append]; omega)
theorem Sync_inv {d : api_Disk} (I : Inv d) {nm : ByteArray} {f : api_DiskFile} (hf : f ∈ d.Files) (hn : f.Name = nm) : Inv ⟨d.Room, Gx.upd d.Files nm (fun f => ⟨f.Name, f.Data, f.Data.length⟩), false, 0⟩ := by
  have := I.used
  exact I.upd (g := fun f => ⟨f.Name, f.Data, f.Data.length⟩) hf hn (fun _ => rfl) ⟨by show (0 : Int) ≤ f.Data.length; omega, Int.le_refl _⟩ (by show (usedL d.Files + f.Data.length : Int) ≤ _; omega)
theorem cut0_len {l : List Int} {n : Int} (h0 : 0 ≤ n) (h1 : n ≤ l.length) : ((cut l 0 n).length : Int) = n := by unfold cut; simp; omega
theorem Truncate_inv {d : api_Disk} (I : Inv d) {nm : ByteArray} {f : api_DiskFile} (hf : f ∈ d.Files) (hn : f.Name = nm) {n : Int} (h0 : 0 ≤ n) (h1 : n ≤ f.Data.length) : Inv ⟨d.Room, Gx.upd d.Files nm (fun f => ⟨f.Name, cut f.Data 0 n, min f.Safe n⟩), false, 0⟩ := by
  have := I.used
  have hs := I.safe f hf
  have := cut0_len h0 h1
  exact I.upd (g := fun f => ⟨f.Name, cut f.Data 0 n, min f.Safe n⟩) hf hn (fun _ => rfl) ⟨by show (0 : Int) ≤ min f.Safe n; omega, by show min f.Safe n ≤ ((cut f.Data 0 n).length : Int); omega⟩ (by show (usedL d.Files + (cut f.Data 0 n).length : Int) ≤ _; omega)
theorem Rename_inv {d : api_Disk} (I : Inv d) {to : ByteArray} {f : api_DiskFile} (hf : f ∈ d.Files) (ht : Nm to) : Inv ⟨d.Room, Gx.plc (Gx.del d.Files f.Name) ⟨to, f.Data, f.Safe⟩, false, 0⟩ := by
  have h3 := I.len
  have h4 := del_len hf
  exact I.plc (x := ⟨to, f.Data, f.Safe⟩) ht (I.safe f hf) List.filter_sublist (by omega) (del_used' hf)
end Go.Proofs.YtkjeedijloobgaaDoor.Gx

/- Function 13, (*kaudit/kauditmill.Case).Int: what it answers as a plain function, and that the Go code comes to exactly that (where the plain function gives an answer). -/
set_option linter.unusedVariables false
set_option linter.unusedSimpArgs false
namespace Go.Proofs.YtkjeedijloobgaaDoor.Gx
open Go.Gx Go.RowKit
/-! ### (*kaudit/kauditmill.Case).Int: function 13 -/
def f_kauditmill_Case_Int (z0 : kauditmill_Case) (z1 : Int) : Option (Int × Int) := if (decide (z1 < 2)) = true then (some (0, z0.at_)) else (if (decide (z0.at_ ≥ (z0.codes.length : Int))) = true then (some (0, z0.at_)) else ((at_ z0.codes (IntKind.wrap .i64 ((IntKind.wrap .i64 (z0.at_ + 1)) - 1))).bind fun el23 => ck (z1 ≠ 0) <| some ((((IntKind.wrap .i64 el23) : Int).tmod z1), (IntKind.wrap .i64 (z0.at_ + 1)))))
set_option maxHeartbeats 4000000 in
set_option maxRecDepth 100000 in
theorem C13 (z0 : kauditmill_Case) (z1 : Int) (g_ : Nat) (p1 : Option Addr) (m2 : Nat) (c3 : Nat) (r : Int × Int) (h : f_kauditmill_Case_Int z0 z1 = some r) : FunG Tryd.prog 13 #[.pointer (some ⟨g_, 0, none⟩), .int .i64 z1] [vw (kSlice 5 (kInt .u8)) z0.codes [.slice p1 m2 c3], g_names] [[blk g_ [.slice p1 m2 c3, .int .i64 z0.at_] 41]] (fun (_ : Unit) => .int .i64 r.1) (fun _ => []) (fun _ => [[blk g_ [.slice p1 m2 c3, .int .i64 r.2] 41]]) := by
  unfold f_kauditmill_Case_Int at h
  refine t_begin (args := [.pointer (some ⟨g_, 0, none⟩), .int .i64 z1]) Tryd.func13 rfl Tryd.ntmps13 rfl fun c R hR => ?_
  have hQ : ∀ X, X = r → ∀ w2 (_ : Unit), PostG c.w0 w2 c.M c.Y [] [[blk g_ [.slice p1 m2 c3, .int .i64 X.2] 41]] → R (.returned (.int .i64 X.1)) w2 := fun X e => by subst e; exact hR
  refine t_seq fun K4 hK5 => ?_
  refine t_region ?_
  refine c_p (r_as rfl) rfl ?_
  refine t_nil ?_
  refine t_then hK5 ?_
  refine t_seq fun K6 hK7 => ?_
  refine t_seq fun K8 hK9 => ?_
  refine t_quiet mixed (by kernel_rfl) (panic_then (panic_then panic_body)) ?_
  refine k_p (r_mv rfl) rfl ?_
  refine k_p (r_i rfl rfl rfl) rfl ?_
  refine k_p (r_mv rfl) rfl ?_
  rcases Bool.eq_false_or_eq_true (decide (z1 < 2)) with hb10 | hb10
  · replace h := itT hb10 h
    refine k_x rfl rfl hb10 rfl ?_
    refine k_x rfl rfl hb10 rfl ?_
    refine k_x rfl rfl hb10 rfl ?_
    refine k_x rfl rfl hb10 rfl ?_
    refine k_x rfl rfl hb10 rfl ?_
    refine k_x rfl rfl hb10 rfl ?_
    refine k_x rfl rfl hb10 rfl ?_
    refine k_x rfl rfl hb10 rfl ?_
    refine k_x rfl rfl hb10 rfl ?_
    refine k_x rfl rfl hb10 rfl ?_
    refine k_p (r_pT rfl hb10 rfl) rfl ?_
    refine k_z ?_
    refine t_then hK9 ?_
    refine t_T rfl rfl ?_
    refine t_seq fun K11 hK12 => ?_
    refine t_region ?_
    refine c_p (r_as rfl) rfl ?_
    refine t_nil ?_
    refine t_then hK12 ?_
    refine t_ret ?_
    exact tr (ret1 rfl (v_t rfl) (t_leave (hQ _ (Option.some.inj h)) () rfl (fun w Z hA => V0) (.cons e0 .nil)))
  · replace h := itF hb10 h
    refine kg_p rfl rfl hb10 (r_mv rfl) rfl ?_
    refine kg_p rfl rfl hb10 (r_nc rfl) rfl ?_
    refine kg_p rfl rfl hb10 (r_fa (off' := 1) Tryd.underlying41 rfl ti3 rfl rfl) rfl ?_
    refine kg_s rfl rfl hb10 (r_ld a0 Tryd.underlying3 rfl rfl rfl) rfl ?_
    refine kg_p rfl rfl hb10 (r_mv rfl) rfl ?_
    refine kg_p rfl rfl hb10 (r_nc rfl) rfl ?_
    refine kg_p rfl rfl hb10 (r_fa (off' := 0) Tryd.underlying41 rfl ti22 rfl rfl) rfl ?_
    refine kg_s rfl rfl hb10 (r_ld a0 Tryd.underlying22 rfl rfl rfl) rfl ?_
    refine kg_s rfl rfl hb10 (r_lnA a0 Tryd.underlying22 rfl) rfl ?_
    refine kg_p rfl rfl hb10 (r_i rfl rfl rfl) rfl ?_
    refine k_p (r_pF rfl hb10 rfl) rfl ?_
    refine k_z ?_
    refine t_then hK9 ?_
    rcases Bool.eq_false_or_eq_true (decide (z0.at_ ≥ (z0.codes.length : Int))) with hb13 | hb13
    · replace h := itT hb13 h
      refine t_T rfl hb13 ?_
      refine t_seq fun K14 hK15 => ?_
      refine t_region ?_
      refine c_p (r_as rfl) rfl ?_
      refine t_nil ?_
      refine t_then hK15 ?_
      refine t_ret ?_
      exact tr (ret1 rfl (v_t rfl) (t_leave (hQ _ (Option.some.inj h)) () rfl (fun w Z hA => V0) (.cons e0 .nil)))
    · replace h := itF hb13 h
      refine t_F rfl hb13 ?_
      refine t_skip ?_
      refine t_then hK7 ?_
      refine t_seq fun K16 hK17 => ?_
      refine t_region ?_
      refine c_p (r_mv rfl) rfl ?_
      refine c_p (r_nc rfl) rfl ?_
      refine c_p (r_fa (off' := 1) Tryd.underlying41 rfl ti3 rfl rfl) rfl ?_
      refine c_s (r_ld a0 Tryd.underlying3 rfl rfl rfl) rfl ?_
      refine c_p (r_i rfl rfl rfl) rfl ?_
      refine c_p (r_nc rfl) rfl ?_
      refine c_p (r_fa (off' := 1) Tryd.underlying41 rfl ti3 rfl rfl) rfl ?_
      refine nx (t_st u0 ti3 rfl rfl rfl rfl rfl (.s (.t (.s .z))) ?_)
      refine t_nil ?_
      refine t_then hK17 ?_
      refine t_seq fun K18 hK19 => ?_
      refine t_quiet mixed (by kernel_rfl) (panic_then panic_body) ?_
      refine k_p (r_mv rfl) rfl ?_
      refine k_p (r_nc rfl) rfl ?_
      refine k_p (r_fa (off' := 0) Tryd.underlying41 rfl ti22 rfl rfl) rfl ?_
      refine k_s (r_ld a0 Tryd.underlying22 rfl rfl rfl) rfl ?_
      refine k_p (r_mv rfl) rfl ?_
      refine k_p (r_nc rfl) rfl ?_
      refine k_p (r_fa (off' := 1) Tryd.underlying41 rfl ti3 rfl rfl) rfl ?_
      refine k_s (r_ld a0 Tryd.underlying3 rfl rfl rfl) rfl ?_
      refine k_p (r_i rfl rfl rfl) rfl ?_
      obtain ⟨el23, hel23, h⟩ := bs h
      refine t_q a0 hel23 fun q20 hq21 hm22 => ?_
      refine k_p (r_idx hq21 hm22 hel23 Tryd.underlying22 ti5 rfl rfl) rfl ?_
      refine t_op (opens_int .u8) a0 hel23 fun t24 => ?_
      refine k_s (r_e1 a0 hq21 Tryd.underlying5 rfl rfl rfl) rfl ?_
      refine k_p (r_ci Tryd.underlying5 Tryd.underlying3 rfl) rfl ?_
      refine k_p (r_mv rfl) rfl ?_
      obtain ⟨hc25, h⟩ := ck_out h
      refine k_p (r_rem rfl rfl hc25) rfl ?_
      refine k_p (r_as rfl) rfl ?_
      refine k_z ?_
      refine t_then hK19 ?_
      refine t_ret ?_
      exact ret1 rfl (v_t rfl) (t_leave (hQ _ (Option.some.inj h)) () rfl (fun w Z hA => V0) (.cons e0 .nil))
end Go.Proofs.YtkjeedijloobgaaDoor.Gx

/- Function 38, (*kaudit/kauditmill.Case).Pick: what it answers as a plain function, and that the Go code comes to exactly that (where the plain function gives an answer). -/
set_option linter.unusedVariables false
set_option linter.unusedSimpArgs false
namespace Go.Proofs.YtkjeedijloobgaaDoor.Gx
open Go.Gx Go.RowKit
/-! ### (*kaudit/kauditmill.Case).Pick: function 38 -/
def f_kauditmill_Case_Pick (z0 : kauditmill_Case) (z1 : (List Int)) : Option (Int × Int) := (f_kauditmill_Case_Int z0 (z1.length : Int)).bind fun y11 => (at_ z1 y11.1).bind fun el16 => some (el16, y11.2)
set_option maxHeartbeats 4000000 in
set_option maxRecDepth 100000 in
theorem C38 (z0 : kauditmill_Case) (z1 : (List Int)) (g_ : Nat) (p1 : Option Addr) (m2 : Nat) (c3 : Nat) (p4 : Option Addr) (m5 : Nat) (c6 : Nat) (r : Int × Int) (h : f_kauditmill_Case_Pick z0 z1 = some r) : FunG Tryd.prog 38 #[.pointer (some ⟨g_, 0, none⟩), .slice p4 m5 c6] [vw (kSlice 5 (kInt .u8)) z0.codes [.slice p1 m2 c3], vw (kSlice 3 (kInt .i64)) z1 [.slice p4 m5 c6], g_names] [[blk g_ [.slice p1 m2 c3, .int .i64 z0.at_] 41]] (fun (_ : Unit) => .int .i64 r.1) (fun _ => []) (fun _ => [[blk g_ [.slice p1 m2 c3, .int .i64 r.2] 41]]) := by
  unfold f_kauditmill_Case_Pick at h
  refine t_begin (args := [.pointer (some ⟨g_, 0, none⟩), .slice p4 m5 c6]) Tryd.func38 rfl Tryd.ntmps38 rfl fun c R hR => ?_
  have hQ : ∀ X, X = r → ∀ w2 (_ : Unit), PostG c.w0 w2 c.M c.Y [] [[blk g_ [.slice p1 m2 c3, .int .i64 X.2] 41]] → R (.returned (.int .i64 X.1)) w2 := fun X e => by subst e; exact hR
  refine t_seq fun K7 hK8 => ?_
  refine t_region ?_
  refine c_p (r_as rfl) rfl ?_
  refine t_nil ?_
  refine t_then hK8 ?_
  refine t_seq fun K9 hK10 => ?_
  refine t_region ?_
  refine c_p (r_mv rfl) rfl ?_
  refine c_p (r_mv rfl) rfl ?_
  refine c_p (r_mv rfl) rfl ?_
  refine c_s (r_lnA a1 Tryd.underlying52 rfl) rfl ?_
  obtain ⟨y11, hy11, h⟩ := bs h
  refine nx (t_ca (C13 _ _ _ _ _ _ _ hy11) Tryd.func13 nm13 rfl rfl rfl (.cons e0 .nil) (fun w Z hA => (V1 a0 hA (V1 a2 hA V0))) rfl fun t12 => ?_)
  obtain ⟨el16, hel16, h⟩ := bs h
  refine t_q a1 hel16 fun q13 hq14 hm15 => ?_
  refine c_p (r_idx hq14 hm15 hel16 Tryd.underlying52 ti3 rfl rfl) rfl ?_
  refine t_op (opens_int .i64) a1 hel16 fun t17 => ?_
  refine c_s (r_e1 a0 hq14 Tryd.underlying3 rfl rfl rfl) rfl ?_
  refine c_p (r_as rfl) rfl ?_
  refine t_nil ?_
  refine t_then hK10 ?_
  refine t_ret ?_
  exact ret1 rfl (v_t rfl) (t_leave (hQ _ (Option.some.inj h)) () rfl (fun w Z hA => V0) (.cons e0 .nil))
end Go.Proofs.YtkjeedijloobgaaDoor.Gx

/- The generator of inputs (mill): what its numbers are. -/
set_option linter.unusedVariables false
namespace Go.Proofs.YtkjeedijloobgaaDoor.Gx
open Go.Gx Go.RowKit
/-- A list of codes, and a place in it. -/
structure COk (cs : List Int) (a : Int) : Prop where
  lo : 0 ≤ a
  hi : a ≤ cs.length
  len : cs.length ≤ 1000000
  byte : ∀ x ∈ cs, 0 ≤ x ∧ x < 256
theorem COk.zero {cs : List Int} (h : cs.length ≤ 1000000) (hb : ∀ x ∈ cs, 0 ≤ x ∧ x < 256) : COk cs 0 := ⟨by omega, by omega, h, hb⟩
theorem Int_ok {cs : List Int} {a n : Int} (C : COk cs a) (hn : n < 4611686018427387904) :
    ∃ v a', f_kauditmill_Case_Int ⟨cs, a⟩ n = some (v, a') ∧ 0 ≤ v ∧ (2 ≤ n → v < n) ∧ (n < 2 → v = 0) ∧ COk cs a' ∧ a ≤ a' ∧ v < 256 := by
  obtain ⟨h0, h1, h2, hb⟩ := C
  unfold f_kauditmill_Case_Int
  by_cases hs : n < 2
  · exact ⟨0, a, ite_t (dec_t hs) rfl, by omega, by omega, fun _ => rfl, ⟨h0, h1, h2, hb⟩, by omega, by omega⟩
  · by_cases he : a ≥ cs.length
    · exact ⟨0, a, ite_f (dec_f hs) (ite_t (dec_t he) rfl), by omega, by omega, fun _ => rfl, ⟨h0, h1, h2, hb⟩, by omega, by omega⟩
    · have e1 : IntKind.wrap .i64 (a + 1) = a + 1 := wrap_id (by omega) (by omega)
      have e2 : IntKind.wrap .i64 (a + 1 - 1) = a := by rw [wrap_id] <;> omega
      obtain ⟨u, hu, hm⟩ := at_lt (xs := cs) h0 (by omega)
      obtain ⟨b0, b1⟩ := hb u hm
      have e3 : IntKind.wrap .i64 u = u := wrap_id (by omega) (by omega)
      have m0 := Int.emod_nonneg u (show n ≠ 0 by omega)
      have m1 := Int.emod_lt_of_pos u (show 0 < n by omega)
      have m2 : u % n ≤ u := by
        obtain ⟨p, rfl⟩ := Int.eq_ofNat_of_zero_le b0
        obtain ⟨q, rfl⟩ := Int.eq_ofNat_of_zero_le (show 0 ≤ n by omega)
        have := Nat.mod_le p q
        omega
      refine ⟨u.tmod n, a + 1, ite_f (dec_f hs) (ite_f (dec_f he) ?_), ?_, ?_, by omega, ⟨by omega, by omega, h2, hb⟩, by omega, ?_⟩
      · show (at_ cs _).bind _ = _
        rw [e1, e2]
        refine bind_of hu (ck_of (by omega) ?_)
        rw [e3]
      all_goals rw [tmod_nn b0]
      · exact m0
      · exact fun _ => m1
      · omega
theorem Pick_ok {cs : List Int} {a : Int} (C : COk cs a) {l : List Int} (hl : l ≠ []) (hl' : l.length < 4611686018427387904) :
    ∃ u a', f_kauditmill_Case_Pick ⟨cs, a⟩ l = some (u, a') ∧ u ∈ l ∧ COk cs a' ∧ a ≤ a' := by
  have := List.length_pos_iff.2 hl
  obtain ⟨v, a', hr, v0, v1, v2, C', ha, _⟩ := Int_ok (n := l.length) C (by omega)
  have : v < l.length := by
    by_cases h : (2 : Int) ≤ l.length
    · exact v1 h
    · have := v2 (by omega); omega
  obtain ⟨u, hu, hm⟩ := at_lt v0 this
  exact ⟨u, a', by unfold f_kauditmill_Case_Pick; exact bind_of hr (bind_of hu rfl), hm, C', ha⟩
end Go.Proofs.YtkjeedijloobgaaDoor.Gx

/- Function 14, (*kaudit/kauditmill.Case).Bytes: what it answers as a plain function, and that the Go code comes to exactly that (where the plain function gives an answer). -/
set_option linter.unusedVariables false
set_option linter.unusedSimpArgs false
namespace Go.Proofs.YtkjeedijloobgaaDoor.Gx
open Go.Gx Go.RowKit
/-! ### (*kaudit/kauditmill.Case).Bytes: function 14 -/
def f_kauditmill_Case_Bytes_l1 (z0 : kauditmill_Case) : Nat → Int → List Int → Int → Option ((List Int) × Int)
  | 0, _, _, _ => none
  | k67 + 1, x59, x63, x64 => if (decide (x64 > 0)) = true then ((f_kauditmill_Case_Int (⟨z0.codes, x59⟩ : kauditmill_Case) 256).bind fun y76 => (f_kauditmill_Case_Pick (⟨z0.codes, y76.2⟩ : kauditmill_Case) [97, 98, 97, 0, 255, y76.1]).bind fun y79 => ck (fits (x63.length + [(IntKind.wrap .u8 y79.1)].length) 1 = true) <| f_kauditmill_Case_Bytes_l1 z0 k67 y79.2 (x63 ++ [(IntKind.wrap .u8 y79.1)]) (IntKind.wrap .i64 (x64 - 1))) else (some (x63, x59))
def f_kauditmill_Case_Bytes (z0 : kauditmill_Case) (z1 : Int) : Option ((List Int) × Int) := (f_kauditmill_Case_Int z0 (IntKind.wrap .i64 (z1 + 1))).bind fun y12 => f_kauditmill_Case_Bytes_l1 z0 (((y12.1 : Int) - (0)).toNat + 1) y12.2 ([] : List Int) y12.1
set_option maxHeartbeats 4000000 in
set_option maxRecDepth 100000 in
theorem C14 (z0 : kauditmill_Case) (z1 : Int) (g_ : Nat) (p1 : Option Addr) (m2 : Nat) (c3 : Nat) (r : (List Int) × Int) (h : f_kauditmill_Case_Bytes z0 z1 = some r) : FunG Tryd.prog 14 #[.pointer (some ⟨g_, 0, none⟩), .int .i64 z1] [vw (kSlice 5 (kInt .u8)) z0.codes [.slice p1 m2 c3], g_names] [[blk g_ [.slice p1 m2 c3, .int .i64 z0.at_] 41]] (fun t : (Option Addr × Nat × Nat) => .slice t.1 t.2.1 t.2.2) (fun t => []) (fun t => [[blk g_ [.slice p1 m2 c3, .int .i64 r.2] 41], [row 5 (kInt .u8) r.1 (.slice t.1 t.2.1 t.2.2)]]) := by
  unfold f_kauditmill_Case_Bytes at h
  refine t_begin (args := [.pointer (some ⟨g_, 0, none⟩), .int .i64 z1]) Tryd.func14 rfl Tryd.ntmps14 rfl fun c R hR => ?_
  have hQ : ∀ X, X = r → ∀ w2 (t : (Option Addr × Nat × Nat)), PostG c.w0 w2 c.M c.Y [] [[blk g_ [.slice p1 m2 c3, .int .i64 X.2] 41], [row 5 (kInt .u8) X.1 (.slice t.1 t.2.1 t.2.2)]] → R (.returned (.slice t.1 t.2.1 t.2.2)) w2 := fun X e => by subst e; exact hR
  refine t_seq fun K4 hK5 => ?_
  refine t_region ?_
  refine c_p (r_as rfl) rfl ?_
  refine t_nil ?_
  refine t_then hK5 ?_
  refine t_seq fun K6 hK7 => ?_
  refine t_region ?_
  refine c_p (r_as rfl) rfl ?_
  refine t_nil ?_
  refine t_then hK7 ?_
  refine t_seq fun K8 hK9 => ?_
  refine t_seq fun K10 hK11 => ?_
  refine t_region ?_
  refine c_p (r_mv rfl) rfl ?_
  refine c_p (r_mv rfl) rfl ?_
  refine c_p (r_i rfl rfl rfl) rfl ?_
  obtain ⟨y12, hy12, h⟩ := bs h
  refine nx (t_ca (C13 _ _ _ _ _ _ _ hy12) Tryd.func13 nm13 rfl rfl rfl (.cons e0 .nil) (fun w Z hA => (V1 a0 hA (V1 a1 hA V0))) rfl fun t13 => ?_)
  refine c_p (r_as rfl) rfl ?_
  refine t_nil ?_
  refine t_then hK11 ?_
  refine t_block ?_
  refine t_nr 5 (kInt .u8) ?_
  refine t_lp fun k57 hk58 => ?_
  have LP65 : ∀ (k67 : Nat) (x59 : Int) (p60 : Option Addr) (m61 : Nat) (c62 : Nat) (x63 : List Int) (x64 : Int), f_kauditmill_Case_Bytes_l1 z0 k67 x59 x63 x64 = some r → T 25 c [vw (kSlice 5 (kInt .u8)) z0.codes [.slice p1 m2 c3], g_names] [[blk g_ [.slice p1 m2 c3, .int .i64 x59] 41], [row 5 (kInt .u8) x63 (.slice p60 m61 c62)]] [(0, .pointer (some ⟨g_, 0, none⟩)), (5, .slice p60 m61 c62), (6, .int .i64 x64)] k57 := by
    intro k67
    induction k67 with
    | zero => intro x59 p60 m61 c62 x63 x64 h66; rewrite [f_kauditmill_Case_Bytes_l1] at h66; cases h66
    | succ k67 ih68 =>
      intro x59 p60 m61 c62 x63 x64 h66
      rewrite [f_kauditmill_Case_Bytes_l1] at h66
      refine ti hk58 ?_
      refine t_seq fun K69 hK70 => ?_
      refine t_seq fun K71 hK72 => ?_
      refine t_region ?_
      refine c_p (r_mv rfl) rfl ?_
      refine c_p (r_i rfl rfl rfl) rfl ?_
      refine t_nil ?_
      refine t_then hK72 ?_
      rcases Bool.eq_false_or_eq_true (decide (x64 > 0)) with hb73 | hb73
      · replace h66 := itT hb73 h66
        refine t_T rfl hb73 ?_
        refine t_skip ?_
        refine t_then hK70 ?_
        refine t_seq fun K74 hK75 => ?_
        refine t_block ?_
        refine t_region ?_
        refine c_p (r_mv rfl) rfl ?_
        refine c_p (r_mv rfl) rfl ?_
        refine c_p (r_mv rfl) rfl ?_
        obtain ⟨y76, hy76, h66⟩ := bs h66
        refine nx (t_ca (C13 _ _ _ _ _ _ _ hy76) Tryd.func13 nm13 rfl rfl rfl (.cons e0 .nil) (fun w Z hA => (V1 a0 hA (V1 a1 hA V0))) rfl fun t77 => ?_)
        refine nx (t_bs (ps := [(0, .int .i64 97), (1, .int .i64 98), (2, .int .i64 97), (3, .int .i64 0), (4, .int .i64 255), (5, .int .i64 y76.1)]) (cs := [.int .i64 97, .int .i64 98, .int .i64 97, .int .i64 0, .int .i64 255, .int .i64 y76.1]) Tryd.underlying52 ti3 rfl rfl (by kernel_rfl) rfl fun g78 => ?_)
        refine t_tr (Kd := (kInt .i64)) (xs := [97, 98, 97, 0, 255, y76.1]) (.cons e0 .nil) rfl (fun w Z S hA hN => flat_EO (S := Nil) (flatK_int .i64) (er1 (c1 := [.int .i64 97]) rfl (er1 (c1 := [.int .i64 98]) rfl (er1 (c1 := [.int .i64 97]) rfl (er1 (c1 := [.int .i64 0]) rfl (er1 (c1 := [.int .i64 255]) rfl (er1 (c1 := [.int .i64 y76.1]) rfl er0))))))) ?_
        obtain ⟨y79, hy79, h66⟩ := bs h66
        refine nx (t_cf (C38 _ _ _ _ _ _ _ _ _ _ hy79) (fun _ => (flat_blk flat_nil)) Tryd.func38 nm38 rfl rfl rfl (.cons e1 .nil) (fun w Z S hA hL => (F1 a0 hA (FL a0 hL (F1 a1 hA F0)))) rfl fun t80 => ?_)
        refine c_p (r_ci Tryd.underlying3 Tryd.underlying5 rfl) rfl ?_
        refine nx (t_bs (ps := [(0, .int .u8 (IntKind.wrap .u8 y79.1))]) (cs := [.int .u8 (IntKind.wrap .u8 y79.1)]) Tryd.underlying22 ti5 rfl rfl (by kernel_rfl) rfl fun g81 => ?_)
        obtain ⟨hc82, h66⟩ := ck_out h66
        refine nx (t_app (Kd := (kInt .u8)) (xs := x63) (ys := [(IntKind.wrap .u8 y79.1)]) (.cons e3 .nil) rfl rfl Tryd.underlying22 Tryd.underlying22 ti5 rfl rfl hc82 (srcB a0 (fun w Z S hA hN => flat_EO (S := Nil) (flatK_int .u8) (er1 (c1 := [.int .u8 (IntKind.wrap .u8 y79.1)]) rfl er0))) rfl fun t83 => ?_)
        refine c_p (r_as rfl) rfl ?_
        refine t_nil ?_
        refine t_blockN ?_
        refine t_then hK75 ?_
        refine t_region ?_
        refine c_p (r_mv rfl) rfl ?_
        refine c_p (r_i rfl rfl rfl) rfl ?_
        refine c_p (r_as rfl) rfl ?_
        refine t_nil ?_
        exact t_norm (t_go (ih68 y79.2 t83.1 t83.2.1 t83.2.2 (x63 ++ [(IntKind.wrap .u8 y79.1)]) (IntKind.wrap .i64 (x64 - 1)) h66) ⟨rfl, rfl, rfl, trivial⟩ (.cons e2 (.cons e0 .nil)) (fun w Z hA => V1 a0 hA (V1 a1 hA (V0))))
      · replace h66 := itF hb73 h66
        refine t_F rfl hb73 ?_
        refine t_exit ?_
        refine te (te (bx ?_))
        refine t_then hK9 ?_
        refine t_seq fun K84 hK85 => ?_
        refine t_region ?_
        refine c_p (r_mv rfl) rfl ?_
        refine c_p (r_as rfl) rfl ?_
        refine t_nil ?_
        refine t_then hK85 ?_
        refine t_ret ?_
        exact ret1 rfl (v_t rfl) (t_leave (hQ _ (Option.some.inj h66)) (p60, m61, c62) rfl (fun w Z hA => V0) (.cons e0 (.cons e0 .nil)))
  exact t_go (LP65 (((y12.1 : Int) - (0)).toNat + 1) y12.2 none 0 0 ([] : List Int) y12.1 h) ⟨rfl, rfl, rfl, trivial⟩ (.cons e1 (.cons e0 .nil)) (fun w Z hA => V1 a0 hA (V1 a1 hA (V0)))
end Go.Proofs.YtkjeedijloobgaaDoor.Gx

/- The generator of inputs (mill): bytes. -/
set_option linter.unusedVariables false
namespace Go.Proofs.YtkjeedijloobgaaDoor.Gx
open Go.Gx Go.RowKit
theorem Bytes_loop {cs : List Int} : ∀ (k : Nat) (a : Int) (xs : List Int) (n : Nat), COk cs a → n < k → xs.length + n ≤ 1000000 → (∀ x ∈ xs, 0 ≤ x ∧ x < 256) → ∀ at0 : Int,
    ∃ ys a', f_kauditmill_Case_Bytes_l1 ⟨cs, at0⟩ k a xs n = some (ys, a') ∧ ys.length = xs.length + n ∧ COk cs a' ∧ (∀ x ∈ ys, 0 ≤ x ∧ x < 256) := by
  intro k
  induction k with
  | zero => intro _ _ _ _ h; omega
  | succ k ih =>
    intro a xs n C hn hl hb at0
    rw [f_kauditmill_Case_Bytes_l1]
    cases n with
    | zero => exact ⟨xs, a, ite_f (dec_f (by omega)) rfl, by simp, C, hb⟩
    | succ n =>
      obtain ⟨v, a1, h1, v0, _, _, C1, _, v1⟩ := Int_ok (n := 256) C (by omega)
      obtain ⟨u, a2, h2, hm, C2, _⟩ := Pick_ok C1 (l := [97, 98, 97, 0, 255, v]) (by simp) (by simp)
      have hu : 0 ≤ u ∧ u < 256 := by
        simp only [List.mem_cons, List.not_mem_nil, or_false] at hm
        omega
      have e : IntKind.wrap .u8 u = u := wrap_u8 hu.1 hu.2
      obtain ⟨ys, a3, h3, l3, C3, b3⟩ := ih a2 (xs ++ [u]) n C2 (by omega) (by simp; omega) (by
        intro x hx
        rcases List.mem_append.1 hx with hx | hx
        · exact hb x hx
        · obtain rfl := List.mem_singleton.1 hx; exact hu) at0
      refine ⟨ys, a3, ite_t (dec_t (by omega)) (bind_of h1 (bind_of h2 (ck_of (fits_of (by simp; omega)) ?_))), by rw [l3]; simp; omega, C3, b3⟩
      rw [e, wrap_dn (by omega)]
      exact h3
theorem Bytes_ok {cs : List Int} {a : Int} (C : COk cs a) (n : Int) (hn0 : 0 ≤ n) (hn : n < 1000) :
    ∃ ys a', f_kauditmill_Case_Bytes ⟨cs, a⟩ n = some (ys, a') ∧ (ys.length : Int) ≤ n ∧ COk cs a' ∧ (∀ x ∈ ys, 0 ≤ x ∧ x < 256) := by
  unfold f_kauditmill_Case_Bytes
  rw [wrap_id (n := n + 1) (by omega) (by omega)]
  obtain ⟨v, a1, h1, v0, v1, v2, C1, _⟩ := Int_ok (n := n + 1) C (by omega)
  have hv : v ≤ n := by
    by_cases h : 2 ≤ n + 1
    · have := v1 h; omega
    · have := v2 (by omega); omega
  obtain ⟨m, rfl⟩ := Int.eq_ofNat_of_zero_le v0
  obtain ⟨ys, a2, h2, l2, C2, b2⟩ := Bytes_loop (m + 1) a1 [] m C1 (by omega) (by simp; omega) (by simp) a
  refine ⟨ys, a2, bind_of h1 ?_, by rw [l2]; simp; omega, C2, b2⟩
  have e : (((m : Int), a1).1 - 0).toNat + 1 = m + 1 := by simp
  rw [e]
  exact h2
end Go.Proofs.YtkjeedijloobgaaDoor.Gx

/- Function 67, kaudit/kauditref24.bytes: what it answers as a plain function, and that the Go code comes to exactly that (where the plain function gives an answer). -/
set_option linter.unusedVariables false
set_option linter.unusedSimpArgs false
namespace Go.Proofs.YtkjeedijloobgaaDoor.Gx
open Go.Gx Go.RowKit
/-! ### kaudit/kauditref24.bytes: function 67 -/
def f_kauditref24_bytes (z0 : (List Int)) : Option ((List Int)) := ck (fits (([] : List Int).length + z0.length) 1 = true) <| some (([] : List Int) ++ z0)
set_option maxHeartbeats 4000000 in
set_option maxRecDepth 100000 in
theorem C67 (z0 : (List Int)) (p1 : Option Addr) (m2 : Nat) (c3 : Nat) (r : (List Int)) (h : f_kauditref24_bytes z0 = some r) : FunG Tryd.prog 67 #[.slice p1 m2 c3] [vw (kSlice 5 (kInt .u8)) z0 [.slice p1 m2 c3], g_names] [] (fun t : (Option Addr × Nat × Nat) => .slice t.1 t.2.1 t.2.2) (fun t => []) (fun t => [[row 5 (kInt .u8) r (.slice t.1 t.2.1 t.2.2)]]) := by
  unfold f_kauditref24_bytes at h
  refine t_begin (args := [.slice p1 m2 c3]) Tryd.func67 rfl Tryd.ntmps67 rfl fun c R hR => ?_
  have hQ : ∀ X, X = r → ∀ w2 (t : (Option Addr × Nat × Nat)), PostG c.w0 w2 c.M c.Y [] [[row 5 (kInt .u8) X (.slice t.1 t.2.1 t.2.2)]] → R (.returned (.slice t.1 t.2.1 t.2.2)) w2 := fun X e => by subst e; exact hR
  refine t_seq fun K4 hK5 => ?_
  refine t_region ?_
  refine c_p (r_as rfl) rfl ?_
  refine t_nil ?_
  refine t_then hK5 ?_
  refine t_seq fun K6 hK7 => ?_
  refine t_region ?_
  refine nx (t_bs (ps := []) (cs := []) Tryd.underlying22 ti5 rfl rfl (by kernel_rfl) rfl fun g8 => ?_)
  refine c_p (r_mv rfl) rfl ?_
  refine t_tr (Kd := (kInt .u8)) (xs := ([] : List Int)) (.cons e0 .nil) rfl (fun w Z S hA hN => flat_EO (S := Nil) (flatK_int .u8) er0) ?_
  obtain ⟨hc9, h⟩ := ck_out h
  refine nx (t_app (Kd := (kInt .u8)) (xs := ([] : List Int)) (ys := z0) (.cons e0 .nil) rfl rfl Tryd.underlying22 Tryd.underlying22 ti5 rfl rfl hc9 (srcA (flatK_int .u8) a0) rfl fun t10 => ?_)
  refine c_p (r_as rfl) rfl ?_
  refine t_nil ?_
  refine t_then hK7 ?_
  refine t_ret ?_
  exact ret1 rfl (v_t rfl) (t_leave (hQ _ (Option.some.inj h)) (t10.1, t10.2.1, t10.2.2) rfl (fun w Z hA => V0) (.cons e0 .nil))
end Go.Proofs.YtkjeedijloobgaaDoor.Gx

/- Function 47, kaudit/kauditref24.Copy: what it answers as a plain function, and that the Go code comes to exactly that (where the plain function gives an answer). -/
set_option linter.unusedVariables false
set_option linter.unusedSimpArgs false
namespace Go.Proofs.YtkjeedijloobgaaDoor.Gx
open Go.Gx Go.RowKit
/-! ### kaudit/kauditref24.Copy: function 47 -/
def f_kauditref24_Copy_l1 (z0 : api_Disk) : Nat → List api_DiskFile → Int → Option (api_Disk)
  | 0, _, _ => none
  | k80 + 1, x76, x77 => if (decide (x77 < (z0.Files.length : Int))) = true then ((at_ z0.Files x77).bind fun el94 => (f_kauditref24_bytes el94.Data).bind fun y99 => ck (fits (x76.length + [(⟨el94.Name, y99, el94.Safe⟩ : api_DiskFile)].length) 48 = true) <| f_kauditref24_Copy_l1 z0 k80 (x76 ++ [(⟨el94.Name, y99, el94.Safe⟩ : api_DiskFile)]) (IntKind.wrap .i64 (x77 + 1))) else (some (⟨z0.Room, x76, z0.Off, z0.Plan⟩ : api_Disk))
def f_kauditref24_Copy (z0 : api_Disk) : Option (api_Disk) := f_kauditref24_Copy_l1 z0 ((((z0.Files.length : Int) : Int) - (0)).toNat + 1) ([] : List api_DiskFile) 0
set_option maxHeartbeats 4000000 in
set_option maxRecDepth 100000 in
theorem C47 (z0 : api_Disk) (p1 : Option Addr) (m2 : Nat) (c3 : Nat) (r : api_Disk) (h : f_kauditref24_Copy z0 = some r) : FunG Tryd.prog 47 #[.agg #[.int .i64 z0.Room, .slice p1 m2 c3, .bool z0.Off, .int .i64 z0.Plan]] [vw (kSlice 34 k_api_DiskFile) z0.Files [.slice p1 m2 c3], g_names] [] (fun t : (Option Addr × Nat × Nat) => .agg #[.int .i64 r.Room, .slice t.1 t.2.1 t.2.2, .bool r.Off, .int .i64 r.Plan]) (fun t => []) (fun t => [[row 34 k_api_DiskFile r.Files (.slice t.1 t.2.1 t.2.2)]]) := by
  unfold f_kauditref24_Copy at h
  refine t_begin (args := [.agg #[.int .i64 z0.Room, .slice p1 m2 c3, .bool z0.Off, .int .i64 z0.Plan]]) Tryd.func47 rfl Tryd.ntmps47 rfl fun c R hR => ?_
  have hQ : ∀ X, X = r → ∀ w2 (t : (Option Addr × Nat × Nat)), PostG c.w0 w2 c.M c.Y [] [[row 34 k_api_DiskFile X.Files (.slice t.1 t.2.1 t.2.2)]] → R (.returned (.agg #[.int .i64 X.Room, .slice t.1 t.2.1 t.2.2, .bool X.Off, .int .i64 X.Plan])) w2 := fun X e => by subst e; exact hR
  refine t_seq fun K4 hK5 => ?_
  refine t_region ?_
  refine nx (t_bx (cs := [.int .i64 z0.Room, .slice p1 m2 c3, .bool z0.Off, .int .i64 z0.Plan]) rfl rfl rfl fun g6 => ?_)
  refine nx (t_al (cs := [.int .i64 0, .slice none 0 0, .bool false, .int .i64 0]) ti27 rfl rfl fun g7 => ?_)
  refine t_nil ?_
  refine t_then hK5 ?_
  refine t_seq fun K8 hK9 => ?_
  refine t_region ?_
  refine c_s (r_ldA a1 Tryd.underlying27 rfl ti27 rfl rfl) rfl ?_
  refine nx (t_al (cs := [.int .i64 0, .slice none 0 0, .bool false, .int .i64 0]) ti27 rfl rfl fun g10 => ?_)
  refine nx (t_st u0 ti27 rfl rfl rfl rfl rfl (.t (.s (.s (.s (.s .z))))) ?_)
  refine t_nil ?_
  refine t_then hK9 ?_
  refine t_seq fun K11 hK12 => ?_
  refine t_region ?_
  refine c_p (r_fa (off' := 1) Tryd.underlying27 rfl ti25 rfl rfl) rfl ?_
  refine nx (t_st u0 ti25 rfl rfl rfl rfl rfl (.s (.t (.s .z))) ?_)
  refine t_nil ?_
  refine t_then hK12 ?_
  refine t_seq fun K13 hK14 => ?_
  refine t_seq fun K15 hK16 => ?_
  refine t_region ?_
  refine c_p (r_fa (off' := 1) Tryd.underlying27 rfl ti25 rfl rfl) rfl ?_
  refine c_s (r_ld a2 Tryd.underlying25 rfl rfl rfl) rfl ?_
  refine c_s (r_lnA a0 Tryd.underlying25 rfl) rfl ?_
  refine c_p (r_mv rfl) rfl ?_
  refine t_nil ?_
  refine t_then hK16 ?_
  refine t_block ?_
  refine t_nr 34 k_api_DiskFile ?_
  refine t_lp fun k71 hk72 => ?_
  have LP78 : ∀ (k80 : Nat) (p73 : Option Addr) (m74 : Nat) (c75 : Nat) (x76 : List api_DiskFile) (x77 : Int), f_kauditref24_Copy_l1 z0 k80 x76 x77 = some r → T 27 c [vw (kSlice 34 k_api_DiskFile) z0.Files [.slice p1 m2 c3], g_names] [[blk g7 [.int .i64 0, .slice none 0 0, .bool false, .int .i64 0] 27], [row 34 k_api_DiskFile x76 (.slice p73 m74 c75)], [blk g10 [.int .i64 z0.Room, .slice p73 m74 c75, .bool z0.Off, .int .i64 z0.Plan] 27]] [(2, .pointer (some ⟨g7, 0, none⟩)), (3, .pointer (some ⟨g10, 0, none⟩)), (9, .slice p1 m2 c3), (10, .int .i64 (z0.Files.length : Int)), (11, .int .i64 x77)] k71 := by
    intro k80
    induction k80 with
    | zero => intro p73 m74 c75 x76 x77 h79; rewrite [f_kauditref24_Copy_l1] at h79; cases h79
    | succ k80 ih81 =>
      intro p73 m74 c75 x76 x77 h79
      rewrite [f_kauditref24_Copy_l1] at h79
      refine ti hk72 ?_
      refine t_seq fun K82 hK83 => ?_
      refine t_region ?_
      refine c_p (r_i rfl rfl rfl) rfl ?_
      refine t_nil ?_
      refine t_then hK83 ?_
      refine t_seq fun K84 hK85 => ?_
      rcases Bool.eq_false_or_eq_true (decide (x77 < (z0.Files.length : Int))) with hb86 | hb86
      · replace h79 := itT hb86 h79
        refine t_T rfl hb86 ?_
        refine t_skip ?_
        refine t_then hK85 ?_
        refine t_seq fun K87 hK88 => ?_
        refine t_block ?_
        refine t_seq fun K89 hK90 => ?_
        refine t_region ?_
        obtain ⟨el94, hel94, h79⟩ := bs h79
        refine t_q a0 hel94 fun q91 hq92 hm93 => ?_
        refine c_p (r_idx hq92 hm93 hel94 Tryd.underlying25 ti34 rfl rfl) rfl ?_
        refine t_op k_api_DiskFile_opens a0 hel94 fun t95 => ?_
        refine c_s (r_eA a1 hq92 Tryd.underlying34 rfl ti34 rfl rfl) rfl ?_
        refine nx (t_al (cs := [.string (⟨#[]⟩ : ByteArray), .slice none 0 0, .int .i64 0]) ti34 rfl rfl fun g96 => ?_)
        refine nx (t_st u0 ti34 rfl rfl rfl rfl rfl (.t (.s (.s (.s .z)))) ?_)
        refine t_nil ?_
        refine t_then hK90 ?_
        refine t_seq fun K97 hK98 => ?_
        refine t_region ?_
        refine c_p (r_fa (off' := 1) Tryd.underlying34 rfl ti22 rfl rfl) rfl ?_
        refine c_s (r_ld a0 Tryd.underlying22 rfl rfl rfl) rfl ?_
        obtain ⟨y99, hy99, h79⟩ := bs h79
        refine nx (t_ca (C67 _ _ _ _ _ hy99) Tryd.func67 nm67 rfl rfl rfl .nil (fun w Z hA => (V1 a0 hA (V1 a3 hA V0))) rfl fun t100 => ?_)
        refine c_p (r_fa (off' := 1) Tryd.underlying34 rfl ti22 rfl rfl) rfl ?_
        refine nx (t_st u1 ti22 rfl rfl rfl rfl rfl (.s (.t (.s .z))) ?_)
        refine t_nil ?_
        refine t_then hK98 ?_
        refine t_region ?_
        refine c_p (r_fa (off' := 1) Tryd.underlying27 rfl ti25 rfl rfl) rfl ?_
        refine c_s (r_ld a4 Tryd.underlying25 rfl rfl rfl) rfl ?_
        refine c_s (r_ldA a1 Tryd.underlying34 rfl ti34 rfl rfl) rfl ?_
        refine nx (t_bs (ps := [(0, .agg #[.string el94.Name, .slice t100.1 t100.2.1 t100.2.2, .int .i64 el94.Safe])]) (cs := [.string el94.Name, .slice t100.1 t100.2.1 t100.2.2, .int .i64 el94.Safe]) Tryd.underlying25 ti34 rfl rfl (by kernel_rfl) rfl fun g101 => ?_)
        obtain ⟨hc102, h79⟩ := ck_out h79
        refine nx (t_app (Kd := k_api_DiskFile) (xs := x76) (ys := [(⟨el94.Name, y99, el94.Safe⟩ : api_DiskFile)]) (.cons e4 (.cons e1 .nil)) rfl rfl Tryd.underlying25 Tryd.underlying25 ti34 rfl rfl hc102 (srcB a0 (fun w Z S hA hN => (eoC (x := (⟨el94.Name, y99, el94.Safe⟩ : api_DiskFile)) (t := (t100.1, t100.2.1, t100.2.2)) k_api_DiskFile_shutsO trivial eoN) S hN)) rfl fun t103 => ?_)
        refine c_p (r_fa (off' := 1) Tryd.underlying27 rfl ti25 rfl rfl) rfl ?_
        refine nx (t_st u4 ti25 rfl rfl rfl rfl rfl (.s (.t (.s .z))) ?_)
        refine t_nil ?_
        refine t_blockN ?_
        refine t_then hK88 ?_
        refine t_region ?_
        refine c_p (r_i rfl rfl rfl) rfl ?_
        refine c_p (r_mv rfl) rfl ?_
        refine t_nil ?_
        exact t_norm (t_go (ih81 t103.1 t103.2.1 t103.2.2 (x76 ++ [(⟨el94.Name, y99, el94.Safe⟩ : api_DiskFile)]) (IntKind.wrap .i64 (x77 + 1)) h79) ⟨rfl, rfl, rfl, rfl, rfl, trivial⟩ (.cons e3 (.cons e0 (.cons e2 .nil))) (fun w Z hA => V1 a2 hA (V1 a3 hA (V0))))
      · replace h79 := itF hb86 h79
        refine t_F rfl hb86 ?_
        refine t_exit ?_
        refine te (te (bx ?_))
        refine t_then hK14 ?_
        refine t_seq fun K104 hK105 => ?_
        refine t_region ?_
        refine c_s (r_ldA a2 Tryd.underlying27 rfl ti27 rfl rfl) rfl ?_
        refine nx (t_st u0 ti27 rfl rfl rfl rfl rfl (.t (.s (.s (.s (.s .z))))) ?_)
        refine t_nil ?_
        refine t_then hK105 ?_
        refine t_ret ?_
        exact ret1 rfl (v_N rfl a0 Tryd.underlying27 rfl ti27 rfl) (t_leave (hQ _ (Option.some.inj h79)) (p73, m74, c75) rfl (fun w Z hA => V0) (.cons e1 .nil))
  exact t_go (LP78 ((((z0.Files.length : Int) : Int) - (0)).toNat + 1) none 0 0 ([] : List api_DiskFile) 0 h) ⟨rfl, rfl, rfl, rfl, rfl, trivial⟩ (.cons e2 (.cons e0 (.cons e0 .nil))) (fun w Z hA => V1 a0 hA (V1 a1 hA (V0)))
end Go.Proofs.YtkjeedijloobgaaDoor.Gx

/- Function 66, kaudit/kauditref24.name: what it answers as a plain function, and that the Go code comes to exactly that (where the plain function gives an answer). -/
set_option linter.unusedVariables false
set_option linter.unusedSimpArgs false
namespace Go.Proofs.YtkjeedijloobgaaDoor.Gx
open Go.Gx Go.RowKit
/-! ### kaudit/kauditref24.name: function 66 -/
def f_kauditref24_name_l1 (z0 : ByteArray) : Nat → Int → Option (Bool)
  | 0, _ => none
  | k92 + 1, x89 => if (decide (x89 < (z0.size : Int))) = true then ((byteAt z0 x89).bind fun ch103 => if (decide (ch103 < 97)) = true then (if (decide (ch103 < 48)) = true then (if (ch103 != 45) = true then (if (ch103 != 46) = true then (some false) else (f_kauditref24_name_l1 z0 k92 (IntKind.wrap .i64 (x89 + 1)))) else (f_kauditref24_name_l1 z0 k92 (IntKind.wrap .i64 (x89 + 1)))) else (if (decide (ch103 > 57)) = true then (if (ch103 != 45) = true then (if (ch103 != 46) = true then (some false) else (f_kauditref24_name_l1 z0 k92 (IntKind.wrap .i64 (x89 + 1)))) else (f_kauditref24_name_l1 z0 k92 (IntKind.wrap .i64 (x89 + 1)))) else (f_kauditref24_name_l1 z0 k92 (IntKind.wrap .i64 (x89 + 1))))) else (if (decide (ch103 > 122)) = true then (if (decide (ch103 < 48)) = true then (if (ch103 != 45) = true then (if (ch103 != 46) = true then (some false) else (f_kauditref24_name_l1 z0 k92 (IntKind.wrap .i64 (x89 + 1)))) else (f_kauditref24_name_l1 z0 k92 (IntKind.wrap .i64 (x89 + 1)))) else (if (decide (ch103 > 57)) = true then (if (ch103 != 45) = true then (if (ch103 != 46) = true then (some false) else (f_kauditref24_name_l1 z0 k92 (IntKind.wrap .i64 (x89 + 1)))) else (f_kauditref24_name_l1 z0 k92 (IntKind.wrap .i64 (x89 + 1)))) else (f_kauditref24_name_l1 z0 k92 (IntKind.wrap .i64 (x89 + 1))))) else (f_kauditref24_name_l1 z0 k92 (IntKind.wrap .i64 (x89 + 1))))) else (some true)
def f_kauditref24_name (z0 : ByteArray) : Option (Bool) := if (decide ((z0.size : Int) < 1)) = true then (some false) else (if (decide ((z0.size : Int) > 24)) = true then (some false) else (f_kauditref24_name_l1 z0 ((((z0.size : Int) : Int) - (0)).toNat + 1) 0))
set_option maxHeartbeats 4000000 in
set_option maxRecDepth 100000 in
theorem C66 (z0 : ByteArray) (r : Bool) (h : f_kauditref24_name z0 = some r) : FunG Tryd.prog 66 #[.string z0] [g_names] [] (fun (_ : Unit) => .bool r) (fun _ => []) (fun _ => []) := by
  unfold f_kauditref24_name at h
  refine t_begin (args := [.string z0]) Tryd.func66 rfl Tryd.ntmps66 rfl fun c R hR => ?_
  have hQ : ∀ X, X = r → ∀ w2 (_ : Unit), PostG c.w0 w2 c.M c.Y [] [] → R (.returned (.bool X)) w2 := fun X e => by subst e; exact hR
  refine t_seq fun K1 hK2 => ?_
  refine t_region ?_
  refine c_p (r_as rfl) rfl ?_
  refine t_nil ?_
  refine t_then hK2 ?_
  refine t_seq fun K3 hK4 => ?_
  refine t_seq fun K5 hK6 => ?_
  refine t_region ?_
  refine c_p (r_mv rfl) rfl ?_
  refine c_p (r_lenS Tryd.underlying9 rfl) rfl ?_
  refine c_p (r_i rfl rfl rfl) rfl ?_
  refine c_p (r_mv rfl) rfl ?_
  rcases Bool.eq_false_or_eq_true (decide ((z0.size : Int) < 1)) with hb7 | hb7
  · replace h := itT hb7 h
    refine nx (pass rfl rfl hb7 rfl ?_)
    refine nx (pass rfl rfl hb7 rfl ?_)
    refine nx (pass rfl rfl hb7 rfl ?_)
    refine c_p (r_pT rfl hb7 rfl) rfl ?_
    refine t_nil ?_
    refine t_then hK6 ?_
    refine t_T rfl rfl ?_
    refine t_seq fun K8 hK9 => ?_
    refine t_region ?_
    refine c_p (r_as rfl) rfl ?_
    refine t_nil ?_
    refine t_then hK9 ?_
    refine t_ret ?_
    exact tr (ret1 rfl (v_t rfl) (t_leave (hQ _ (Option.some.inj h)) () rfl (fun w Z hA => V0) .nil))
  · replace h := itF hb7 h
    refine nx (gd rfl rfl hb7 (sp (r_mv rfl) rfl ?_))
    refine nx (gd rfl rfl hb7 (sp (r_lenS Tryd.underlying9 rfl) rfl ?_))
    refine nx (gd rfl rfl hb7 (sp (r_i rfl rfl rfl) rfl ?_))
    refine c_p (r_pF rfl hb7 rfl) rfl ?_
    refine t_nil ?_
    refine t_then hK6 ?_
    rcases Bool.eq_false_or_eq_true (decide ((z0.size : Int) > 24)) with hb10 | hb10
    · replace h := itT hb10 h
      refine t_T rfl hb10 ?_
      refine t_seq fun K11 hK12 => ?_
      refine t_region ?_
      refine c_p (r_as rfl) rfl ?_
      refine t_nil ?_
      refine t_then hK12 ?_
      refine t_ret ?_
      exact tr (ret1 rfl (v_t rfl) (t_leave (hQ _ (Option.some.inj h)) () rfl (fun w Z hA => V0) .nil))
    · replace h := itF hb10 h
      refine t_F rfl hb10 ?_
      refine t_skip ?_
      refine t_then hK4 ?_
      refine t_seq fun K13 hK14 => ?_
      refine t_seq fun K15 hK16 => ?_
      refine t_region ?_
      refine c_p (r_as rfl) rfl ?_
      refine t_nil ?_
      refine t_then hK16 ?_
      refine t_block ?_
      refine t_lp fun k87 hk88 => ?_
      have LP90 : ∀ (k92 : Nat) (x89 : Int), f_kauditref24_name_l1 z0 k92 x89 = some r → T 44 c [g_names] [] [(0, .string z0), (3, .int .i64 x89)] k87 := by
        intro k92
        induction k92 with
        | zero => intro x89 h91; rewrite [f_kauditref24_name_l1] at h91; cases h91
        | succ k92 ih93 =>
          intro x89 h91
          rewrite [f_kauditref24_name_l1] at h91
          refine ti hk88 ?_
          refine t_seq fun K94 hK95 => ?_
          refine t_seq fun K96 hK97 => ?_
          refine t_region ?_
          refine c_p (r_mv rfl) rfl ?_
          refine c_p (r_mv rfl) rfl ?_
          refine c_p (r_lenS Tryd.underlying9 rfl) rfl ?_
          refine c_p (r_i rfl rfl rfl) rfl ?_
          refine t_nil ?_
          refine t_then hK97 ?_
          rcases Bool.eq_false_or_eq_true (decide (x89 < (z0.size : Int))) with hb98 | hb98
          · replace h91 := itT hb98 h91
            refine t_T rfl hb98 ?_
            refine t_skip ?_
            refine t_then hK95 ?_
            refine t_seq fun K99 hK100 => ?_
            refine t_block ?_
            refine t_seq fun K101 hK102 => ?_
            refine t_region ?_
            refine c_p (r_mv rfl) rfl ?_
            refine c_p (r_mv rfl) rfl ?_
            obtain ⟨ch103, hch103, h91⟩ := bs h91
            refine c_p (r_at Tryd.underlying9 rfl rfl hch103) rfl ?_
            refine c_p (r_as rfl) rfl ?_
            refine t_nil ?_
            refine t_then hK102 ?_
            refine t_seq fun K104 hK105 => ?_
            refine t_region ?_
            refine c_p (r_mv rfl) rfl ?_
            refine c_p (r_i rfl rfl rfl) rfl ?_
            refine c_p (r_mv rfl) rfl ?_
            rcases Bool.eq_false_or_eq_true (decide (ch103 < 97)) with hb106 | hb106
            · replace h91 := itT hb106 h91
              refine nx (pass rfl rfl hb106 rfl ?_)
              refine nx (pass rfl rfl hb106 rfl ?_)
              refine c_p (r_pT rfl hb106 rfl) rfl ?_
              refine c_p (r_mv rfl) rfl ?_
              refine nx (gd rfl rfl rfl (sp (r_mv rfl) rfl ?_))
              refine nx (gd rfl rfl rfl (sp (r_i rfl rfl rfl) rfl ?_))
              refine nx (gd rfl rfl rfl (sp (r_mv rfl) rfl ?_))
              rcases Bool.eq_false_or_eq_true (decide (ch103 < 48)) with hb108 | hb108
              · replace h91 := itT hb108 h91
                refine nx (pass rfl rfl hb108 rfl ?_)
                refine nx (pass rfl rfl hb108 rfl ?_)
                refine nx (gd rfl rfl rfl (sp (r_pT rfl hb108 rfl) rfl ?_))
                refine c_p (r_pT rfl rfl rfl) rfl ?_
                refine c_p (r_mv rfl) rfl ?_
                refine nx (gd rfl rfl rfl (sp (r_mv rfl) rfl ?_))
                refine nx (gd rfl rfl rfl (sp (r_i rfl rfl rfl) rfl ?_))
                refine c_p (r_pT rfl rfl rfl) rfl ?_
                refine c_p (r_mv rfl) rfl ?_
                rcases Bool.eq_false_or_eq_true (ch103 != 45) with hb112 | hb112
                · replace h91 := itT hb112 h91
                  refine nx (gd rfl rfl hb112 (sp (r_mv rfl) rfl ?_))
                  refine nx (gd rfl rfl hb112 (sp (r_i rfl rfl rfl) rfl ?_))
                  refine c_p (r_pT rfl hb112 rfl) rfl ?_
                  refine t_nil ?_
                  refine t_then hK105 ?_
                  rcases Bool.eq_false_or_eq_true (ch103 != 46) with hb116 | hb116
                  · replace h91 := itT hb116 h91
                    refine t_T rfl hb116 ?_
                    refine t_seq fun K117 hK118 => ?_
                    refine t_region ?_
                    refine c_p (r_as rfl) rfl ?_
                    refine t_nil ?_
                    refine t_then hK118 ?_
                    refine t_ret ?_
                    exact br (tr (tr (br (tr (ret1 rfl (v_t rfl) (t_leave (hQ _ (Option.some.inj h91)) () rfl (fun w Z hA => V0) .nil))))))
                  · replace h91 := itF hb116 h91
                    refine t_F rfl hb116 ?_
                    refine t_skip ?_
                    refine t_blockN ?_
                    refine t_then hK100 ?_
                    refine t_region ?_
                    refine c_p (r_mv rfl) rfl ?_
                    refine c_p (r_i rfl rfl rfl) rfl ?_
                    refine c_p (r_as rfl) rfl ?_
                    refine t_nil ?_
                    exact t_norm (t_go (ih93 (IntKind.wrap .i64 (x89 + 1)) h91) ⟨rfl, rfl, trivial⟩ .nil (fun w Z hA => V1 a0 hA (V0)))
                · replace h91 := itF hb112 h91
                  refine nx (pass rfl rfl hb112 rfl ?_)
                  refine nx (pass rfl rfl hb112 rfl ?_)
                  refine c_p (r_pF rfl hb112 rfl) rfl ?_
                  refine t_nil ?_
                  refine t_then hK105 ?_
                  refine t_F rfl rfl ?_
                  refine t_skip ?_
                  refine t_blockN ?_
                  refine t_then hK100 ?_
                  refine t_region ?_
                  refine c_p (r_mv rfl) rfl ?_
                  refine c_p (r_i rfl rfl rfl) rfl ?_
                  refine c_p (r_as rfl) rfl ?_
                  refine t_nil ?_
                  exact t_norm (t_go (ih93 (IntKind.wrap .i64 (x89 + 1)) h91) ⟨rfl, rfl, trivial⟩ .nil (fun w Z hA => V1 a0 hA (V0)))
              · replace h91 := itF hb108 h91
                refine nx (gd rfl rfl hb108 (sp (r_mv rfl) rfl ?_))
                refine nx (gd rfl rfl hb108 (sp (r_i rfl rfl rfl) rfl ?_))
                refine nx (gd rfl rfl rfl (sp (r_pF rfl hb108 rfl) rfl ?_))
                refine c_p (r_pT rfl rfl rfl) rfl ?_
                refine c_p (r_mv rfl) rfl ?_
                rcases Bool.eq_false_or_eq_true (decide (ch103 > 57)) with hb110 | hb110
                · replace h91 := itT hb110 h91
                  refine nx (gd rfl rfl hb110 (sp (r_mv rfl) rfl ?_))
                  refine nx (gd rfl rfl hb110 (sp (r_i rfl rfl rfl) rfl ?_))
                  refine c_p (r_pT rfl hb110 rfl) rfl ?_
                  refine c_p (r_mv rfl) rfl ?_
                  rcases Bool.eq_false_or_eq_true (ch103 != 45) with hb113 | hb113
                  · replace h91 := itT hb113 h91
                    refine nx (gd rfl rfl hb113 (sp (r_mv rfl) rfl ?_))
                    refine nx (gd rfl rfl hb113 (sp (r_i rfl rfl rfl) rfl ?_))
                    refine c_p (r_pT rfl hb113 rfl) rfl ?_
                    refine t_nil ?_
                    refine t_then hK105 ?_
                    rcases Bool.eq_false_or_eq_true (ch103 != 46) with hb119 | hb119
                    · replace h91 := itT hb119 h91
                      refine t_T rfl hb119 ?_
                      refine t_seq fun K120 hK121 => ?_
                      refine t_region ?_
                      refine c_p (r_as rfl) rfl ?_
                      refine t_nil ?_
                      refine t_then hK121 ?_
                      refine t_ret ?_
                      exact br (tr (tr (br (tr (ret1 rfl (v_t rfl) (t_leave (hQ _ (Option.some.inj h91)) () rfl (fun w Z hA => V0) .nil))))))
                    · replace h91 := itF hb119 h91
                      refine t_F rfl hb119 ?_
                      refine t_skip ?_
                      refine t_blockN ?_
                      refine t_then hK100 ?_
                      refine t_region ?_
                      refine c_p (r_mv rfl) rfl ?_
                      refine c_p (r_i rfl rfl rfl) rfl ?_
                      refine c_p (r_as rfl) rfl ?_
                      refine t_nil ?_
                      exact t_norm (t_go (ih93 (IntKind.wrap .i64 (x89 + 1)) h91) ⟨rfl, rfl, trivial⟩ .nil (fun w Z hA => V1 a0 hA (V0)))
                  · replace h91 := itF hb113 h91
                    refine nx (pass rfl rfl hb113 rfl ?_)
                    refine nx (pass rfl rfl hb113 rfl ?_)
                    refine c_p (r_pF rfl hb113 rfl) rfl ?_
                    refine t_nil ?_
                    refine t_then hK105 ?_
                    refine t_F rfl rfl ?_
                    refine t_skip ?_
                    refine t_blockN ?_
                    refine t_then hK100 ?_
                    refine t_region ?_
                    refine c_p (r_mv rfl) rfl ?_
                    refine c_p (r_i rfl rfl rfl) rfl ?_
                    refine c_p (r_as rfl) rfl ?_
                    refine t_nil ?_
                    exact t_norm (t_go (ih93 (IntKind.wrap .i64 (x89 + 1)) h91) ⟨rfl, rfl, trivial⟩ .nil (fun w Z hA => V1 a0 hA (V0)))
                · replace h91 := itF hb110 h91
                  refine nx (pass rfl rfl hb110 rfl ?_)
                  refine nx (pass rfl rfl hb110 rfl ?_)
                  refine c_p (r_pF rfl hb110 rfl) rfl ?_
                  refine c_p (r_mv rfl) rfl ?_
                  refine nx (pass rfl rfl rfl rfl ?_)
                  refine nx (pass rfl rfl rfl rfl ?_)
                  refine c_p (r_pF rfl rfl rfl) rfl ?_
                  refine t_nil ?_
                  refine t_then hK105 ?_
                  refine t_F rfl rfl ?_
                  refine t_skip ?_
                  refine t_blockN ?_
                  refine t_then hK100 ?_
                  refine t_region ?_
                  refine c_p (r_mv rfl) rfl ?_
                  refine c_p (r_i rfl rfl rfl) rfl ?_
                  refine c_p (r_as rfl) rfl ?_
                  refine t_nil ?_
                  exact t_norm (t_go (ih93 (IntKind.wrap .i64 (x89 + 1)) h91) ⟨rfl, rfl, trivial⟩ .nil (fun w Z hA => V1 a0 hA (V0)))
            · replace h91 := itF hb106 h91
              refine nx (gd rfl rfl hb106 (sp (r_mv rfl) rfl ?_))
              refine nx (gd rfl rfl hb106 (sp (r_i rfl rfl rfl) rfl ?_))
              refine c_p (r_pF rfl hb106 rfl) rfl ?_
              refine c_p (r_mv rfl) rfl ?_
              rcases Bool.eq_false_or_eq_true (decide (ch103 > 122)) with hb107 | hb107
              · replace h91 := itT hb107 h91
                refine nx (gd rfl rfl hb107 (sp (r_mv rfl) rfl ?_))
                refine nx (gd rfl rfl hb107 (sp (r_i rfl rfl rfl) rfl ?_))
                refine nx (gd rfl rfl hb107 (sp (r_mv rfl) rfl ?_))
                rcases Bool.eq_false_or_eq_true (decide (ch103 < 48)) with hb109 | hb109
                · replace h91 := itT hb109 h91
                  refine nx (pass rfl rfl hb109 rfl ?_)
                  refine nx (pass rfl rfl hb109 rfl ?_)
                  refine nx (gd rfl rfl hb107 (sp (r_pT rfl hb109 rfl) rfl ?_))
                  refine c_p (r_pT rfl hb107 rfl) rfl ?_
                  refine c_p (r_mv rfl) rfl ?_
                  refine nx (gd rfl rfl rfl (sp (r_mv rfl) rfl ?_))
                  refine nx (gd rfl rfl rfl (sp (r_i rfl rfl rfl) rfl ?_))
                  refine c_p (r_pT rfl rfl rfl) rfl ?_
                  refine c_p (r_mv rfl) rfl ?_
                  rcases Bool.eq_false_or_eq_true (ch103 != 45) with hb114 | hb114
                  · replace h91 := itT hb114 h91
                    refine nx (gd rfl rfl hb114 (sp (r_mv rfl) rfl ?_))
                    refine nx (gd rfl rfl hb114 (sp (r_i rfl rfl rfl) rfl ?_))
                    refine c_p (r_pT rfl hb114 rfl) rfl ?_
                    refine t_nil ?_
                    refine t_then hK105 ?_
                    rcases Bool.eq_false_or_eq_true (ch103 != 46) with hb122 | hb122
                    · replace h91 := itT hb122 h91
                      refine t_T rfl hb122 ?_
                      refine t_seq fun K123 hK124 => ?_
                      refine t_region ?_
                      refine c_p (r_as rfl) rfl ?_
                      refine t_nil ?_
                      refine t_then hK124 ?_
                      refine t_ret ?_
                      exact br (tr (tr (br (tr (ret1 rfl (v_t rfl) (t_leave (hQ _ (Option.some.inj h91)) () rfl (fun w Z hA => V0) .nil))))))
                    · replace h91 := itF hb122 h91
                      refine t_F rfl hb122 ?_
                      refine t_skip ?_
                      refine t_blockN ?_
                      refine t_then hK100 ?_
                      refine t_region ?_
                      refine c_p (r_mv rfl) rfl ?_
                      refine c_p (r_i rfl rfl rfl) rfl ?_
                      refine c_p (r_as rfl) rfl ?_
                      refine t_nil ?_
                      exact t_norm (t_go (ih93 (IntKind.wrap .i64 (x89 + 1)) h91) ⟨rfl, rfl, trivial⟩ .nil (fun w Z hA => V1 a0 hA (V0)))
                  · replace h91 := itF hb114 h91
                    refine nx (pass rfl rfl hb114 rfl ?_)
                    refine nx (pass rfl rfl hb114 rfl ?_)
                    refine c_p (r_pF rfl hb114 rfl) rfl ?_
                    refine t_nil ?_
                    refine t_then hK105 ?_
                    refine t_F rfl rfl ?_
                    refine t_skip ?_
                    refine t_blockN ?_
                    refine t_then hK100 ?_
                    refine t_region ?_
                    refine c_p (r_mv rfl) rfl ?_
                    refine c_p (r_i rfl rfl rfl) rfl ?_
                    refine c_p (r_as rfl) rfl ?_
                    refine t_nil ?_
                    exact t_norm (t_go (ih93 (IntKind.wrap .i64 (x89 + 1)) h91) ⟨rfl, rfl, trivial⟩ .nil (fun w Z hA => V1 a0 hA (V0)))
                · replace h91 := itF hb109 h91
                  refine nx (gd rfl rfl hb109 (sp (r_mv rfl) rfl ?_))
                  refine nx (gd rfl rfl hb109 (sp (r_i rfl rfl rfl) rfl ?_))
                  refine nx (gd rfl rfl hb107 (sp (r_pF rfl hb109 rfl) rfl ?_))
                  refine c_p (r_pT rfl hb107 rfl) rfl ?_
                  refine c_p (r_mv rfl) rfl ?_
                  rcases Bool.eq_false_or_eq_true (decide (ch103 > 57)) with hb111 | hb111
                  · replace h91 := itT hb111 h91
                    refine nx (gd rfl rfl hb111 (sp (r_mv rfl) rfl ?_))
                    refine nx (gd rfl rfl hb111 (sp (r_i rfl rfl rfl) rfl ?_))
                    refine c_p (r_pT rfl hb111 rfl) rfl ?_
                    refine c_p (r_mv rfl) rfl ?_
                    rcases Bool.eq_false_or_eq_true (ch103 != 45) with hb115 | hb115
                    · replace h91 := itT hb115 h91
                      refine nx (gd rfl rfl hb115 (sp (r_mv rfl) rfl ?_))
                      refine nx (gd rfl rfl hb115 (sp (r_i rfl rfl rfl) rfl ?_))
                      refine c_p (r_pT rfl hb115 rfl) rfl ?_
                      refine t_nil ?_
                      refine t_then hK105 ?_
                      rcases Bool.eq_false_or_eq_true (ch103 != 46) with hb125 | hb125
                      · replace h91 := itT hb125 h91
                        refine t_T rfl hb125 ?_
                        refine t_seq fun K126 hK127 => ?_
                        refine t_region ?_
                        refine c_p (r_as rfl) rfl ?_
                        refine t_nil ?_
                        refine t_then hK127 ?_
                        refine t_ret ?_
                        exact br (tr (tr (br (tr (ret1 rfl (v_t rfl) (t_leave (hQ _ (Option.some.inj h91)) () rfl (fun w Z hA => V0) .nil))))))
                      · replace h91 := itF hb125 h91
                        refine t_F rfl hb125 ?_
                        refine t_skip ?_
                        refine t_blockN ?_
                        refine t_then hK100 ?_
                        refine t_region ?_
                        refine c_p (r_mv rfl) rfl ?_
                        refine c_p (r_i rfl rfl rfl) rfl ?_
                        refine c_p (r_as rfl) rfl ?_
                        refine t_nil ?_
                        exact t_norm (t_go (ih93 (IntKind.wrap .i64 (x89 + 1)) h91) ⟨rfl, rfl, trivial⟩ .nil (fun w Z hA => V1 a0 hA (V0)))
                    · replace h91 := itF hb115 h91
                      refine nx (pass rfl rfl hb115 rfl ?_)
                      refine nx (pass rfl rfl hb115 rfl ?_)
                      refine c_p (r_pF rfl hb115 rfl) rfl ?_
                      refine t_nil ?_
                      refine t_then hK105 ?_
                      refine t_F rfl rfl ?_
                      refine t_skip ?_
                      refine t_blockN ?_
                      refine t_then hK100 ?_
                      refine t_region ?_
                      refine c_p (r_mv rfl) rfl ?_
                      refine c_p (r_i rfl rfl rfl) rfl ?_
                      refine c_p (r_as rfl) rfl ?_
                      refine t_nil ?_
                      exact t_norm (t_go (ih93 (IntKind.wrap .i64 (x89 + 1)) h91) ⟨rfl, rfl, trivial⟩ .nil (fun w Z hA => V1 a0 hA (V0)))
                  · replace h91 := itF hb111 h91
                    refine nx (pass rfl rfl hb111 rfl ?_)
                    refine nx (pass rfl rfl hb111 rfl ?_)
                    refine c_p (r_pF rfl hb111 rfl) rfl ?_
                    refine c_p (r_mv rfl) rfl ?_
                    refine nx (pass rfl rfl rfl rfl ?_)
                    refine nx (pass rfl rfl rfl rfl ?_)
                    refine c_p (r_pF rfl rfl rfl) rfl ?_
                    refine t_nil ?_
                    refine t_then hK105 ?_
                    refine t_F rfl rfl ?_
                    refine t_skip ?_
                    refine t_blockN ?_
                    refine t_then hK100 ?_
                    refine t_region ?_
                    refine c_p (r_mv rfl) rfl ?_
                    refine c_p (r_i rfl rfl rfl) rfl ?_
                    refine c_p (r_as rfl) rfl ?_
                    refine t_nil ?_
                    exact t_norm (t_go (ih93 (IntKind.wrap .i64 (x89 + 1)) h91) ⟨rfl, rfl, trivial⟩ .nil (fun w Z hA => V1 a0 hA (V0)))
              · replace h91 := itF hb107 h91
                refine nx (pass rfl rfl hb107 rfl ?_)
                refine nx (pass rfl rfl hb107 rfl ?_)
                refine nx (pass rfl rfl hb107 rfl ?_)
                refine nx (passU rfl rfl rfl ?_)
                refine nx (passU rfl rfl rfl ?_)
                refine nx (pass rfl rfl hb107 rfl ?_)
                refine c_p (r_pF rfl hb107 rfl) rfl ?_
                refine c_p (r_mv rfl) rfl ?_
                refine nx (pass rfl rfl rfl rfl ?_)
                refine nx (pass rfl rfl rfl rfl ?_)
                refine c_p (r_pF rfl rfl rfl) rfl ?_
                refine c_p (r_mv rfl) rfl ?_
                refine nx (pass rfl rfl rfl rfl ?_)
                refine nx (pass rfl rfl rfl rfl ?_)
                refine c_p (r_pF rfl rfl rfl) rfl ?_
                refine t_nil ?_
                refine t_then hK105 ?_
                refine t_F rfl rfl ?_
                refine t_skip ?_
                refine t_blockN ?_
                refine t_then hK100 ?_
                refine t_region ?_
                refine c_p (r_mv rfl) rfl ?_
                refine c_p (r_i rfl rfl rfl) rfl ?_
                refine c_p (r_as rfl) rfl ?_
                refine t_nil ?_
                exact t_norm (t_go (ih93 (IntKind.wrap .i64 (x89 + 1)) h91) ⟨rfl, rfl, trivial⟩ .nil (fun w Z hA => V1 a0 hA (V0)))
          · replace h91 := itF hb98 h91
            refine t_F rfl hb98 ?_
            refine t_exit ?_
            refine te (te (bx ?_))
            refine t_then hK14 ?_
            refine t_seq fun K128 hK129 => ?_
            refine t_region ?_
            refine c_p (r_as rfl) rfl ?_
            refine t_nil ?_
            refine t_then hK129 ?_
            refine t_ret ?_
            exact ret1 rfl (v_t rfl) (t_leave (hQ _ (Option.some.inj h91)) () rfl (fun w Z hA => V0) .nil)
      exact t_go (LP90 ((((z0.size : Int) : Int) - (0)).toNat + 1) 0 h) ⟨rfl, rfl, trivial⟩ .nil (fun w Z hA => V1 a0 hA (V0))
end Go.Proofs.YtkjeedijloobgaaDoor.Gx
