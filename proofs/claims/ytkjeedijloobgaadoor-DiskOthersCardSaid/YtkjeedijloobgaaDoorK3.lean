/- K3: the texts Y8, Y61, PDisk, Y65, Y58, PDiskB, Y39, Y43, Y15, Y68, Y50, Y17, Y53, Y54, Y19, joined. -/
import Derived.Test.YtkjeedijloobgaaDoorK2
/- Function 8, kaudit/disk.Read: what it answers as a plain function, and that the Go code comes to exactly that (where the plain function gives an answer). -/
set_option linter.unusedVariables false
set_option linter.unusedSimpArgs false
namespace Go.Proofs.YtkjeedijloobgaaDoor.Gx
open Go.Gx Go.RowKit
/-! ### kaudit/disk.Read: function 8 -/
def f_disk_Read (z0 : api_Disk) (z1 : ByteArray) : Option ((List Int) × Bool) := (f_disk_find z0 z1).bind fun y9 => if (decide (y9 < 0)) = true then (some (([] : List Int), false)) else ((at_ z0.Files y9).bind fun el23 => (f_slices_Clone_byte_byte el23.Data).bind fun y27 => some (y27, true))
set_option maxHeartbeats 4000000 in
set_option maxRecDepth 100000 in
theorem C8 (z0 : api_Disk) (z1 : ByteArray) (p1 : Option Addr) (m2 : Nat) (c3 : Nat) (r : (List Int) × Bool) (h : f_disk_Read z0 z1 = some r) : FunG Tryd.prog 8 #[.agg #[.int .i64 z0.Room, .slice p1 m2 c3, .bool z0.Off, .int .i64 z0.Plan], .string z1] [vw (kSlice 34 k_api_DiskFile) z0.Files [.slice p1 m2 c3], g_names] [] (fun t : (Option Addr × Nat × Nat) => .tuple #[.slice t.1 t.2.1 t.2.2, .bool r.2]) (fun t => []) (fun t => [[row 5 (kInt .u8) r.1 (.slice t.1 t.2.1 t.2.2)]]) := by
  unfold f_disk_Read at h
  refine t_begin (args := [.agg #[.int .i64 z0.Room, .slice p1 m2 c3, .bool z0.Off, .int .i64 z0.Plan], .string z1]) Tryd.func8 rfl Tryd.ntmps8 rfl fun c R hR => ?_
  have hQ : ∀ X, X = r → ∀ w2 (t : (Option Addr × Nat × Nat)), PostG c.w0 w2 c.M c.Y [] [[row 5 (kInt .u8) X.1 (.slice t.1 t.2.1 t.2.2)]] → R (.returned (.tuple #[.slice t.1 t.2.1 t.2.2, .bool X.2])) w2 := fun X e => by subst e; exact hR
  refine t_seq fun K4 hK5 => ?_
  refine t_region ?_
  refine nx (t_bx (cs := [.int .i64 z0.Room, .slice p1 m2 c3, .bool z0.Off, .int .i64 z0.Plan]) rfl rfl rfl fun g6 => ?_)
  refine c_p (r_as rfl) rfl ?_
  refine c_p (r_as rfl) rfl ?_
  refine t_nil ?_
  refine t_then hK5 ?_
  refine t_seq fun K7 hK8 => ?_
  refine t_region ?_
  refine c_s (r_ldA a0 Tryd.underlying27 rfl ti27 rfl rfl) rfl ?_
  refine c_p (r_mv rfl) rfl ?_
  obtain ⟨y9, hy9, h⟩ := bs h
  refine nx (t_ca (C34 _ _ _ _ _ _ hy9) Tryd.func34 nm34 rfl rfl rfl .nil (fun w Z hA => (V1 a0 hA (V1 a1 hA V0))) rfl fun t10 => ?_)
  refine c_p (r_as rfl) rfl ?_
  refine t_nil ?_
  refine t_then hK8 ?_
  refine t_seq fun K11 hK12 => ?_
  refine t_seq fun K13 hK14 => ?_
  refine t_region ?_
  refine c_p (r_mv rfl) rfl ?_
  refine c_p (r_i rfl rfl rfl) rfl ?_
  refine t_nil ?_
  refine t_then hK14 ?_
  rcases Bool.eq_false_or_eq_true (decide (y9 < 0)) with hb15 | hb15
  · replace h := itT hb15 h
    refine t_T rfl hb15 ?_
    refine t_seq fun K16 hK17 => ?_
    refine t_region ?_
    refine c_p (r_as rfl) rfl ?_
    refine c_p (r_as rfl) rfl ?_
    refine t_nil ?_
    refine t_then hK17 ?_
    refine t_ret ?_
    refine t_nr 5 (kInt .u8) ?_
    exact tr (ret2 rfl (v_t rfl) (v_t rfl) (t_leave (hQ _ (Option.some.inj h)) (none, 0, 0) rfl (fun w Z hA => V0) (.cons e0 .nil)))
  · replace h := itF hb15 h
    refine t_F rfl hb15 ?_
    refine t_skip ?_
    refine t_then hK12 ?_
    refine t_seq fun K18 hK19 => ?_
    refine t_region ?_
    refine c_p (r_fa (off' := 1) Tryd.underlying27 rfl ti25 rfl rfl) rfl ?_
    refine c_s (r_ld a0 Tryd.underlying25 rfl rfl rfl) rfl ?_
    refine c_p (r_mv rfl) rfl ?_
    obtain ⟨el23, hel23, h⟩ := bs h
    refine t_q a0 hel23 fun q20 hq21 hm22 => ?_
    refine c_p (r_idx hq21 hm22 hel23 Tryd.underlying25 ti34 rfl rfl) rfl ?_
    refine t_qf hq21 1 fun q24 hq25 => ?_
    refine c_p (r_fai hq21 hq25 Tryd.underlying34 rfl ti22 rfl rfl) rfl ?_
    refine t_op k_api_DiskFile_opens a0 hel23 fun t26 => ?_
    refine c_s (r_e1 a1 hq25 Tryd.underlying22 rfl rfl rfl) rfl ?_
    obtain ⟨y27, hy27, h⟩ := bs h
    refine nx (t_ca (C35 _ _ _ _ _ hy27) Tryd.func35 nm35 rfl rfl rfl .nil (fun w Z hA => (V1 a0 hA V0)) rfl fun t28 => ?_)
    refine c_p (r_as rfl) rfl ?_
    refine c_p (r_as rfl) rfl ?_
    refine t_nil ?_
    refine t_then hK19 ?_
    refine t_ret ?_
    exact ret2 rfl (v_t rfl) (v_t rfl) (t_leave (hQ _ (Option.some.inj h)) (t28.1, t28.2.1, t28.2.2) rfl (fun w Z hA => V0) (.cons e0 .nil))
end Go.Proofs.YtkjeedijloobgaaDoor.Gx

/- Function 61, kaudit/fresh.Disk: what it answers as a plain function, and that the Go code comes to exactly that (where the plain function gives an answer). -/
set_option linter.unusedVariables false
set_option linter.unusedSimpArgs false
namespace Go.Proofs.YtkjeedijloobgaaDoor.Gx
open Go.Gx Go.RowKit
/-! ### kaudit/fresh.Disk: function 61 -/
def f_fresh_Disk_l1 (z0 : api_Disk) : Nat → List api_DiskFile → Int → Option (api_Disk)
  | 0, _, _ => none
  | k76 + 1, x72, x73 => if (decide (x73 < (z0.Files.length : Int))) = true then ((at_ z0.Files x73).bind fun el90 => (f_slices_Clone_byte_byte el90.Data).bind fun y95 => (at_ x72 x73).bind fun el100 => f_fresh_Disk_l1 z0 k76 (x72.set x73.toNat (⟨el90.Name, y95, el90.Safe⟩ : api_DiskFile)) (IntKind.wrap .i64 (x73 + 1))) else (some (⟨z0.Room, x72, z0.Off, z0.Plan⟩ : api_Disk))
def f_fresh_Disk (z0 : api_Disk) : Option (api_Disk) := ck (makes (z0.Files.length : Int) 48 = true) <| f_fresh_Disk_l1 z0 ((((z0.Files.length : Int) : Int) - (0)).toNat + 1) (List.replicate (z0.Files.length : Int).toNat (⟨(⟨#[]⟩ : ByteArray), ([] : List Int), 0⟩ : api_DiskFile)) 0
set_option maxHeartbeats 4000000 in
set_option maxRecDepth 100000 in
theorem C61 (z0 : api_Disk) (p1 : Option Addr) (m2 : Nat) (c3 : Nat) (r : api_Disk) (h : f_fresh_Disk z0 = some r) : FunG Tryd.prog 61 #[.agg #[.int .i64 z0.Room, .slice p1 m2 c3, .bool z0.Off, .int .i64 z0.Plan]] [vw (kSlice 34 k_api_DiskFile) z0.Files [.slice p1 m2 c3], g_names] [] (fun t : (Option Addr × Nat × Nat) => .agg #[.int .i64 r.Room, .slice t.1 t.2.1 t.2.2, .bool r.Off, .int .i64 r.Plan]) (fun t => []) (fun t => [[row 34 k_api_DiskFile r.Files (.slice t.1 t.2.1 t.2.2)]]) := by
  unfold f_fresh_Disk at h
  refine t_begin (args := [.agg #[.int .i64 z0.Room, .slice p1 m2 c3, .bool z0.Off, .int .i64 z0.Plan]]) Tryd.func61 rfl Tryd.ntmps61 rfl fun c R hR => ?_
  have hQ : ∀ X, X = r → ∀ w2 (t : (Option Addr × Nat × Nat)), PostG c.w0 w2 c.M c.Y [] [[row 34 k_api_DiskFile X.Files (.slice t.1 t.2.1 t.2.2)]] → R (.returned (.agg #[.int .i64 X.Room, .slice t.1 t.2.1 t.2.2, .bool X.Off, .int .i64 X.Plan])) w2 := fun X e => by subst e; exact hR
  refine t_seq fun K4 hK5 => ?_
  refine t_region ?_
  refine nx (t_bx (cs := [.int .i64 z0.Room, .slice p1 m2 c3, .bool z0.Off, .int .i64 z0.Plan]) rfl rfl rfl fun g6 => ?_)
  refine nx (t_al (cs := [.int .i64 0, .slice none 0 0, .bool false, .int .i64 0]) ti27 rfl rfl fun g7 => ?_)
  refine t_nil ?_
  refine t_then hK5 ?_
  refine t_seq fun K8 hK9 => ?_
  refine t_region ?_
  refine c_p (r_fa (off' := 1) Tryd.underlying27 rfl ti25 rfl rfl) rfl ?_
  refine c_s (r_ld a1 Tryd.underlying25 rfl rfl rfl) rfl ?_
  refine c_s (r_lnA a0 Tryd.underlying25 rfl) rfl ?_
  obtain ⟨hc10, h⟩ := ck_out h
  refine nx (t_mk (Kd := k_api_DiskFile) (zc := [.string (⟨#[]⟩ : ByteArray), .slice none 0 0, .int .i64 0]) Tryd.underlying25 ti34 rfl rfl hc10 rfl rfl (k0 k_api_DiskFile_shutsO (⟨(⟨#[]⟩ : ByteArray), ([] : List Int), 0⟩ : api_DiskFile) (none, 0, 0) (fun _ _ => (hn1 hn0)) (fun _ _ => trivial)) rfl fun t11 => ?_)
  refine c_p (r_as rfl) rfl ?_
  refine t_nil ?_
  refine t_then hK9 ?_
  refine t_seq fun K12 hK13 => ?_
  refine t_seq fun K14 hK15 => ?_
  refine t_region ?_
  refine c_p (r_fa (off' := 1) Tryd.underlying27 rfl ti25 rfl rfl) rfl ?_
  refine c_s (r_ld a2 Tryd.underlying25 rfl rfl rfl) rfl ?_
  refine c_s (r_lnA a0 Tryd.underlying25 rfl) rfl ?_
  refine c_p (r_mv rfl) rfl ?_
  refine t_nil ?_
  refine t_then hK15 ?_
  refine t_block ?_
  refine t_lp fun k70 hk71 => ?_
  have LP74 : ∀ (k76 : Nat) (x72 : List api_DiskFile) (x73 : Int), f_fresh_Disk_l1 z0 k76 x72 x73 = some r → T 33 c [vw (kSlice 34 k_api_DiskFile) z0.Files [.slice p1 m2 c3], g_names] [[blk g6 [.int .i64 z0.Room, .slice p1 m2 c3, .bool z0.Off, .int .i64 z0.Plan] 27], [blk g7 [.int .i64 0, .slice none 0 0, .bool false, .int .i64 0] 27], [row 34 k_api_DiskFile x72 (.slice t11.1 t11.2.1 t11.2.2)]] [(1, .pointer (some ⟨g6, 0, none⟩)), (2, .pointer (some ⟨g7, 0, none⟩)), (3, .slice t11.1 t11.2.1 t11.2.2), (11, .slice p1 m2 c3), (12, .int .i64 (z0.Files.length : Int)), (13, .int .i64 x73)] k70 := by
    intro k76
    induction k76 with
    | zero => intro x72 x73 h75; rewrite [f_fresh_Disk_l1] at h75; cases h75
    | succ k76 ih77 =>
      intro x72 x73 h75
      rewrite [f_fresh_Disk_l1] at h75
      refine ti hk71 ?_
      refine t_seq fun K78 hK79 => ?_
      refine t_region ?_
      refine c_p (r_i rfl rfl rfl) rfl ?_
      refine t_nil ?_
      refine t_then hK79 ?_
      refine t_seq fun K80 hK81 => ?_
      rcases Bool.eq_false_or_eq_true (decide (x73 < (z0.Files.length : Int))) with hb82 | hb82
      · replace h75 := itT hb82 h75
        refine t_T rfl hb82 ?_
        refine t_skip ?_
        refine t_then hK81 ?_
        refine t_seq fun K83 hK84 => ?_
        refine t_block ?_
        refine t_seq fun K85 hK86 => ?_
        refine t_region ?_
        refine c_p (r_mv rfl) rfl ?_
        obtain ⟨el90, hel90, h75⟩ := bs h75
        refine t_q a0 hel90 fun q87 hq88 hm89 => ?_
        refine c_p (r_idx hq88 hm89 hel90 Tryd.underlying25 ti34 rfl rfl) rfl ?_
        refine t_op k_api_DiskFile_opens a0 hel90 fun t91 => ?_
        refine c_s (r_eA a1 hq88 Tryd.underlying34 rfl ti34 rfl rfl) rfl ?_
        refine nx (t_al (cs := [.string (⟨#[]⟩ : ByteArray), .slice none 0 0, .int .i64 0]) ti34 rfl rfl fun g92 => ?_)
        refine c_p (r_as rfl) rfl ?_
        refine nx (t_st u0 ti34 rfl rfl rfl rfl rfl (.t (.s (.s (.s .z)))) ?_)
        refine t_nil ?_
        refine t_then hK86 ?_
        refine t_draw mixed (fun w_ => Bk g92 [.string el90.Name, .slice t91.1 t91.2.1 t91.2.2, .int .i64 el90.Safe] w_ ∧ True) [3, 8] [6, 11] rfl ?_
        refine q_p 0 (panic_block (panic_then (panic_then (panic_block (panic_then panic_body))))) rfl (by kernel_rfl) W0 (r_mv rfl) rfl ?_
        refine q_p 1 (panic_block (panic_then (panic_then (panic_block (panic_then panic_body))))) rfl (by kernel_rfl) W0 (r_mv rfl) rfl ?_
        refine q_p 2 (panic_block (panic_then (panic_then (panic_block (panic_then panic_body))))) rfl (by kernel_rfl) W0 (r_fa (off' := 0) Tryd.underlying34 rfl ti9 rfl rfl) rfl ?_
        refine q_s 3 (panic_block (panic_then (panic_then (panic_block (panic_then panic_body))))) rfl (by kernel_rfl) W0 (by kernel_rfl) (fun w H => ⟨bk a0 H, trivial⟩) (b_ld (fun _ h => h.1) Tryd.underlying9 rfl rfl rfl) rfl ?_
        refine q_p 4 (panic_block (panic_then (panic_then (panic_block (panic_then panic_body))))) rfl (by kernel_rfl) W0 (r_fa (off' := 1) Tryd.underlying34 rfl ti22 rfl rfl) rfl ?_
        refine q_u 5 (panic_block (panic_then (panic_then (panic_block (panic_then panic_body))))) rfl (by kernel_rfl) W0 (by kernel_rfl) (r_ld a0 Tryd.underlying22 rfl rfl rfl) rfl ?_
        refine q_p 7 (panic_block (panic_then (panic_then (panic_block (panic_then panic_body))))) rfl (by kernel_rfl) W0 (r_fa (off' := 2) Tryd.underlying34 rfl ti3 rfl rfl) rfl ?_
        refine q_s 8 (panic_block (panic_then (panic_then (panic_block (panic_then panic_body))))) rfl (by kernel_rfl) W0 (by kernel_rfl) (fun w H => ⟨bk a0 H, trivial⟩) (b_ld (fun _ h => h.1) Tryd.underlying3 rfl rfl rfl) rfl ?_
        refine d1 6 rfl (by kernel_rfl) (by kernel_rfl) ?_
        obtain ⟨y95, hy95, h75⟩ := bs h75
        refine t_ca (C35 _ _ _ _ _ hy95) Tryd.func35 nm35 rfl rfl rfl .nil (fun w Z hA => (V1 a0 hA V0)) rfl fun t96 => ?_
        refine dk (fun w H => ⟨bk a1 H, trivial⟩) ?_
        refine q_p 9 (panic_block (panic_then (panic_then (panic_block (panic_then panic_body))))) rfl (by kernel_rfl) W0 (r_bu (ps := [(0, .string el90.Name), (1, .slice t96.1 t96.2.1 t96.2.2), (2, .int .i64 el90.Safe)]) (cs := [.string el90.Name, .slice t96.1 t96.2.1 t96.2.2, .int .i64 el90.Safe]) rfl (by kernel_rfl)) rfl ?_
        obtain ⟨el100, hel100, h75⟩ := bs h75
        refine t_qL a4 hel100 fun q97 hq98 hm99 => ?_
        refine q_p 10 (panic_block (panic_then (panic_then (panic_block (panic_then panic_body))))) rfl (by kernel_rfl) W0 (r_idx hq98 hm99 hel100 Tryd.underlying25 ti34 rfl rfl) rfl ?_
        refine d1 11 rfl (by kernel_rfl) (by kernel_rfl) ?_
        refine t_oI k_api_DiskFile_opensO e4 hel100 fun t101 => ?_
        refine t_hs u0 hq98 ti34 rfl rfl rfl rfl rfl (.t (.s (.s (.s .z)))) ?_
        refine dn (by kernel_rfl) ?_
        refine dz (by kernel_rfl) ?_
        refine t_blockN ?_
        refine t_then hK84 ?_
        refine t_region ?_
        refine c_p (r_i rfl rfl rfl) rfl ?_
        refine c_p (r_mv rfl) rfl ?_
        refine t_nil ?_
        refine t_cI (u := (⟨el90.Name, y95, el90.Safe⟩ : api_DiskFile)) (t := (t96.1, t96.2.1, t96.2.2)) k_api_DiskFile_shutsO (.cons e0 (.cons e1 .nil)) rfl (fun w Z hA => trivial) ?_
        have hn102 := at_set (u' := (⟨el90.Name, y95, el90.Safe⟩ : api_DiskFile)) hel100
        exact t_norm (t_go (ih77 (x72.set x73.toNat (⟨el90.Name, y95, el90.Safe⟩ : api_DiskFile)) (IntKind.wrap .i64 (x73 + 1)) h75) ⟨rfl, rfl, rfl, rfl, rfl, rfl, trivial⟩ (.cons e3 (.cons e3 (.cons e0 .nil))) (fun w Z hA => V1 a2 hA (V1 a3 hA (V0))))
      · replace h75 := itF hb82 h75
        refine t_F rfl hb82 ?_
        refine t_exit ?_
        refine te (te (bx ?_))
        refine t_then hK13 ?_
        refine t_seq fun K103 hK104 => ?_
        refine t_region ?_
        refine c_p (r_mv rfl) rfl ?_
        refine c_p (r_fa (off' := 1) Tryd.underlying27 rfl ti25 rfl rfl) rfl ?_
        refine nx (t_st u0 ti25 rfl rfl rfl rfl rfl (.s (.t (.s .z))) ?_)
        refine t_nil ?_
        refine t_then hK104 ?_
        refine t_seq fun K105 hK106 => ?_
        refine t_region ?_
        refine c_s (r_ldA a0 Tryd.underlying27 rfl ti27 rfl rfl) rfl ?_
        refine nx (t_st u1 ti27 rfl rfl rfl rfl rfl (.t (.s (.s (.s (.s .z))))) ?_)
        refine t_nil ?_
        refine t_then hK106 ?_
        refine t_ret ?_
        exact ret1 rfl (v_N rfl a1 Tryd.underlying27 rfl ti27 rfl) (t_leave (hQ _ (Option.some.inj h75)) (t11.1, t11.2.1, t11.2.2) rfl (fun w Z hA => V0) (.cons e2 .nil))
  exact t_go (LP74 ((((z0.Files.length : Int) : Int) - (0)).toNat + 1) (List.replicate (z0.Files.length : Int).toNat (⟨(⟨#[]⟩ : ByteArray), ([] : List Int), 0⟩ : api_DiskFile)) 0 h) ⟨rfl, rfl, rfl, rfl, rfl, rfl, trivial⟩ (.cons e2 (.cons e1 (.cons e0 .nil))) (fun w Z hA => V1 a0 hA (V1 a1 hA (V0)))
end Go.Proofs.YtkjeedijloobgaaDoor.Gx

/- The simulated disk: what its functions answer, of valid disks. -/
set_option linter.unusedVariables false
namespace Go.Proofs.YtkjeedijloobgaaDoor.Gx
open Go.Gx Go.RowKit
def Nm (s : ByteArray) : Prop := f_disk_isName s = some true
def usedL (l : List api_DiskFile) : Nat := (l.map fun f => f.Data.length).sum
def SortedN (l : List api_DiskFile) : Prop := (l.map fun f => f.Name.toList).Pairwise fun a b => Op.bytesLess a b = true
structure DOk (d : api_Disk) : Prop where
  room0 : 0 ≤ d.Room
  room : d.Room ≤ 1048576
  len : d.Files.length ≤ 24
  plan0 : 0 ≤ d.Plan
  plan : d.Plan ≤ 10000
  names : ∀ f ∈ d.Files, Nm f.Name
  safe : ∀ f ∈ d.Files, 0 ≤ f.Safe ∧ f.Safe ≤ f.Data.length
  sorted : SortedN d.Files
  used : (usedL d.Files : Int) ≤ d.Room
theorem usedL_mem {l : List api_DiskFile} {f : api_DiskFile} (h : f ∈ l) : f.Data.length ≤ usedL l := by
  induction l with
  | nil => cases h
  | cons g l ih =>
    have e : usedL (g :: l) = g.Data.length + usedL l := by simp [usedL]
    rcases List.mem_cons.1 h with rfl | h
    · omega
    · have := ih h; omega
theorem usedL_take {l : List api_DiskFile} {i : Nat} {f : api_DiskFile} (h : l[i]? = some f) : usedL (l.take (i + 1)) = usedL (l.take i) + f.Data.length := by
  rw [List.take_add_one, h]; simp [usedL]
theorem usedL_take_le (l : List api_DiskFile) (i : Nat) : usedL (l.take i) ≤ usedL l := by
  have : usedL l = usedL (l.take i) + usedL (l.drop i) := by
    unfold usedL
    rw [← List.sum_append, ← List.map_append, List.take_append_drop]
  omega
theorem Used_loop {d : api_Disk} (hl : d.Files.length < 1000000) (hu : usedL d.Files < 4611686018427387904) : ∀ (k i : Nat), i ≤ d.Files.length → d.Files.length < k + i →
    f_disk_Used_l1 d k (usedL (d.Files.take i)) i = some (usedL d.Files : Int) := by
  intro k
  induction k with
  | zero => intro i h1 h2; omega
  | succ k ih =>
    intro i h1 h2
    rw [f_disk_Used_l1]
    by_cases h : i < d.Files.length
    · refine ite_t (dec_t (by omega)) (bind_of (at_get h) ?_)
      have e := usedL_take (List.getElem?_eq_getElem h)
      have := usedL_take_le d.Files (i + 1)
      rw [wrap_up (by omega), wrap_id (by omega) (by omega), ← Int.natCast_add, ← e]
      exact ih (i + 1) (by omega) (by omega)
    · obtain rfl : i = d.Files.length := by omega
      rw [List.take_length]
      exact ite_f (dec_f (by omega)) rfl
theorem Used_ok {d : api_Disk} (hl : d.Files.length < 1000000) (hu : usedL d.Files < 4611686018427387904) : f_disk_Used d = some (usedL d.Files : Int) := by
  unfold f_disk_Used
  have := Used_loop hl hu (((((d.Files.length : Int) : Int) - (0)).toNat + 1)) 0 (by omega) (by omega)
  exact this
theorem find_loop {d : api_Disk} {nm : ByteArray} (hl : d.Files.length < 1000000) : ∀ (k i : Nat), i ≤ d.Files.length → d.Files.length < k + i → (∀ j f, j < i → d.Files[j]? = some f → f.Name ≠ nm) →
    ∃ r, f_disk_find_l1 d nm k i = some r ∧ ((r = -1 ∧ ∀ f ∈ d.Files, f.Name ≠ nm) ∨ ∃ (j : Nat) (f : api_DiskFile), r = j ∧ d.Files[j]? = some f ∧ f.Name = nm) := by
  intro k
  induction k with
  | zero => intro i h1 h2; omega
  | succ k ih =>
    intro i h1 h2 hb
    rw [f_disk_find_l1]
    by_cases h : i < d.Files.length
    · by_cases hn : d.Files[i].Name = nm
      · exact ⟨i, ite_t (dec_t (by omega)) (bind_of (at_get h) (ite_t (by rw [beq_bytes]; exact dec_t hn) rfl)), .inr ⟨i, _, rfl, List.getElem?_eq_getElem h, hn⟩⟩
      · obtain ⟨r, hr, hc⟩ := ih (i + 1) (by omega) (by omega) (by
          intro j f hj hf
          rcases Nat.lt_or_eq_of_le (Nat.le_of_lt_succ hj) with hj | rfl
          · exact hb j f hj hf
          · rw [List.getElem?_eq_getElem h] at hf; obtain rfl := Option.some.inj hf; exact hn)
        refine ⟨r, ite_t (dec_t (by omega)) (bind_of (at_get h) (ite_f (by rw [beq_bytes]; exact dec_f hn) ?_)), hc⟩
        rw [wrap_up (by omega)]; exact hr
    · refine ⟨-1, ite_f (dec_f (by omega)) rfl, .inl ⟨rfl, fun f hf => ?_⟩⟩
      obtain ⟨j, hj⟩ := List.mem_iff_getElem?.1 hf
      have : j < d.Files.length := by
        rcases Nat.lt_or_ge j d.Files.length with h | h
        · exact h
        · rw [List.getElem?_eq_none h] at hj; cases hj
      exact hb j f (by omega) hj
theorem find_ok {d : api_Disk} (nm : ByteArray) (hl : d.Files.length < 1000000) :
    ∃ r, f_disk_find d nm = some r ∧ ((r = -1 ∧ ∀ f ∈ d.Files, f.Name ≠ nm) ∨ ∃ (j : Nat) (f : api_DiskFile), r = j ∧ d.Files[j]? = some f ∧ f.Name = nm) :=
  find_loop hl (((((d.Files.length : Int) : Int) - (0)).toNat + 1)) 0 (by omega) (by omega) (by intro j f h; omega)
theorem sorted_get {l : List api_DiskFile} (h : SortedN l) {i j : Nat} {f g : api_DiskFile} (hij : i < j) (hi : l[i]? = some f) (hj : l[j]? = some g) : Op.bytesLess f.Name.toList g.Name.toList = true := by
  unfold SortedN at h
  rw [List.pairwise_iff_getElem] at h
  have li := (List.getElem?_eq_some_iff.1 hi).1
  have lj := (List.getElem?_eq_some_iff.1 hj).1
  have := h i j (by simpa using li) (by simpa using lj) hij
  rw [List.getElem_map, List.getElem_map, (List.getElem?_eq_some_iff.1 hi).2, (List.getElem?_eq_some_iff.1 hj).2] at this
  exact this
/-- A name is that of one file. -/
theorem sorted_uniq {l : List api_DiskFile} (h : SortedN l) {f g : api_DiskFile} (hf : f ∈ l) (hg : g ∈ l) (e : f.Name = g.Name) : f = g := by
  obtain ⟨i, hi⟩ := List.mem_iff_getElem?.1 hf
  obtain ⟨j, hj⟩ := List.mem_iff_getElem?.1 hg
  rcases Nat.lt_trichotomy i j with hij | rfl | hij
  · exact absurd (by rw [e]) (bl_ne (sorted_get h hij hi hj))
  · rw [hi] at hj; exact Option.some.inj hj
  · exact absurd (by rw [e]) (bl_ne (sorted_get h hij hj hi))
theorem Valid_loop {d : api_Disk} (D : DOk d) : ∀ (k i : Nat), i ≤ d.Files.length → d.Files.length < k + i → f_disk_Valid_l1 d k i = some true := by
  have hl := D.len
  intro k
  induction k with
  | zero => intro i h1 h2; omega
  | succ k ih =>
    intro i h1 h2
    rw [f_disk_Valid_l1]
    by_cases h : i < d.Files.length
    · have hm := List.getElem_mem h
      have hnext : f_disk_Valid_l1 d k (IntKind.wrap .i64 ((i : Int) + 1)) = some true := by rw [wrap_up (by omega)]; exact ih (i + 1) (by omega) (by omega)
      have hs := D.safe _ hm
      refine ite_t (dec_t (by omega)) (bind_of (at_get h) (bind_of (D.names _ hm) (ite_t rfl ?_)))
      cases i with
      | zero => exact ite_f (dec_f (by omega)) (ite_f (dec_f (by omega)) (ite_f (dec_f (by omega)) hnext))
      | succ i =>
        have hi : i < d.Files.length := by omega
        refine ite_t (dec_t (by omega)) (bind_of (by rw [wrap_dn (by omega)]; exact at_get hi) (ite_t ?_ (ite_f (dec_f (by omega)) (ite_f (dec_f (by omega)) hnext))))
        exact sorted_get D.sorted (Nat.lt_succ_self i) (List.getElem?_eq_getElem hi) (List.getElem?_eq_getElem h)
    · refine ite_f (dec_f (by omega)) ?_
      unfold f_disk_Valid_j1
      have := D.used; have := D.room
      exact bind_of (Used_ok (by omega) (by omega)) (by rw [dec_t D.used])
theorem Valid_ok {d : api_Disk} (D : DOk d) : f_disk_Valid d = some true := by
  have := D.room0; have := D.room; have := D.plan0; have := D.plan; have := D.len
  unfold f_disk_Valid
  exact ite_f (dec_f (by omega)) (ite_f (dec_f (by omega)) (ite_f (dec_f (by omega)) (ite_f (dec_f (by omega)) (ite_f (dec_f (by omega)) (Valid_loop D _ 0 (by omega) (by omega))))))
theorem Clone_ok {l : List Int} (h : l.length ≤ 140737488355328) : f_slices_Clone_byte_byte l = some l := by
  unfold f_slices_Clone_byte_byte; exact ck_of (fits_of (by omega)) rfl
theorem fresh_loop {d : api_Disk} (hl : d.Files.length < 1000000) (hd : ∀ f ∈ d.Files, f.Data.length ≤ 140737488355328) (z : api_DiskFile) : ∀ (k i : Nat), i ≤ d.Files.length → d.Files.length < k + i →
    f_fresh_Disk_l1 d k (d.Files.take i ++ List.replicate (d.Files.length - i) z) i = some d := by
  intro k
  induction k with
  | zero => intro i h1 h2; omega
  | succ k ih =>
    intro i h1 h2
    rw [f_fresh_Disk_l1]
    by_cases h : i < d.Files.length
    · have hlen : (d.Files.take i ++ List.replicate (d.Files.length - i) z).length = d.Files.length := by simp; omega
      refine ite_t (dec_t (by omega)) (bind_of (at_get h) (bind_of (Clone_ok (hd _ (List.getElem_mem h))) (bind_of (at_get (by omega)) ?_)))
      rw [wrap_up (by omega)]
      have e : (d.Files.take i ++ List.replicate (d.Files.length - i) z).set (i : Int).toNat (⟨(d.Files[i]).Name, (d.Files[i]).Data, (d.Files[i]).Safe⟩ : api_DiskFile) = d.Files.take (i + 1) ++ List.replicate (d.Files.length - (i + 1)) z := by
        have e1 : d.Files.length - i = (d.Files.length - (i + 1)) + 1 := by omega
        rw [Int.toNat_natCast, List.set_append_right _ _ (by rw [List.length_take]; omega), List.length_take, Nat.min_eq_left h1, Nat.sub_self, e1, List.replicate_succ, List.set_cons_zero, List.take_add_one, List.getElem?_eq_getElem h, List.append_assoc]
        rfl
      rw [e]
      exact ih (i + 1) (by omega) (by omega)
    · obtain rfl : i = d.Files.length := by omega
      refine ite_f (dec_f (by omega)) ?_
      rw [List.take_length, Nat.sub_self, List.replicate_zero, List.append_nil]
theorem fresh_ok {d : api_Disk} (D : DOk d) : f_fresh_Disk d = some d := by
  have := D.len; have := D.used; have := D.room
  unfold f_fresh_Disk
  refine ck_of (makes_of (by omega) (by omega) (by omega)) ?_
  have h := fresh_loop (d := d) (by omega) (fun f hf => by have := usedL_mem hf; omega) (⟨(⟨#[]⟩ : ByteArray), ([] : List Int), 0⟩ : api_DiskFile) ((((d.Files.length : Int) : Int) - (0)).toNat + 1) 0 (by omega) (by omega)
  exact h
theorem Read_ok {d : api_Disk} (D : DOk d) (nm : ByteArray) : ∃ r, f_disk_Read d nm = some r ∧ ((r = ([], false) ∧ ∀ f ∈ d.Files, f.Name ≠ nm) ∨ ∃ f ∈ d.Files, f.Name = nm ∧ r = (f.Data, true)) := by
  have := D.len; have := D.used; have := D.room
  unfold f_disk_Read
  obtain ⟨r, hr, ⟨rfl, h⟩ | ⟨j, f, rfl, h, hn⟩⟩ := find_ok (d := d) nm (by omega)
  · exact ⟨_, bind_of hr (ite_t rfl rfl), .inl ⟨rfl, h⟩⟩
  · have hm := List.mem_iff_getElem?.2 ⟨j, h⟩
    refine ⟨_, bind_of hr (ite_f (dec_f (by omega)) (bind_of (at_nat h) (bind_of (Clone_ok ?_) rfl))), .inr ⟨f, hm, hn, rfl⟩⟩
    have := usedL_mem hm; omega
theorem Read_mem {d : api_Disk} (D : DOk d) {f : api_DiskFile} (hf : f ∈ d.Files) : f_disk_Read d f.Name = some (f.Data, true) := by
  obtain ⟨r, hr, ⟨rfl, h⟩ | ⟨g, hg, hn, rfl⟩⟩ := Read_ok D f.Name
  · exact absurd rfl (h f hf)
  · rw [sorted_uniq D.sorted hf hg hn.symm]; rw [sorted_uniq D.sorted hf hg hn.symm] at hr; exact hr
end Go.Proofs.YtkjeedijloobgaaDoor.Gx

/- Function 65, slices.Insert[[]kaudit/api.DiskFile,kaudit/api.DiskFile]: what it answers as a plain function, and that the Go code comes to exactly that (where the plain function gives an answer). -/
set_option linter.unusedVariables false
set_option linter.unusedSimpArgs false
namespace Go.Proofs.YtkjeedijloobgaaDoor.Gx
open Go.Gx Go.RowKit
/-! ### slices.Insert[[]kaudit/api.DiskFile,kaudit/api.DiskFile]: by hand -/
def f_slices_Insert_api_DiskFile_api_DiskFile (z0 : List api_DiskFile) (z1 : Int) (z2 : List api_DiskFile) : Option (List api_DiskFile) := ck (0 ≤ z1 ∧ z1 ≤ z0.length) <| ck (fits (z0.length + z2.length) 48 = true) <| some (z0.take z1.toNat ++ z2 ++ z0.drop z1.toNat)
set_option maxHeartbeats 4000000 in
set_option maxRecDepth 100000 in
theorem C65 (z0 : List api_DiskFile) (z1 : Int) (z2 : List api_DiskFile) (p : Option Addr) (m c : Nat) (p' : Option Addr) (m' c' : Nat) (r : List api_DiskFile) (h : f_slices_Insert_api_DiskFile_api_DiskFile z0 z1 z2 = some r) : FunG Tryd.prog 65 #[.slice p m c, .int .i64 z1, .slice p' m' c'] [] [[row 34 k_api_DiskFile z0 (.slice p m c)], [row 34 k_api_DiskFile z2 (.slice p' m' c')]] (fun t : Option Addr × Nat × Nat => .slice t.1 t.2.1 t.2.2) (fun _ => []) (fun t => [[row 34 k_api_DiskFile r (.slice t.1 t.2.1 t.2.2)]]) := by
  unfold f_slices_Insert_api_DiskFile_api_DiskFile at h
  obtain ⟨h1, h⟩ := ck_out h
  obtain ⟨hfit, h⟩ := ck_out h
  obtain rfl := Option.some.inj h
  obtain ⟨i, rfl⟩ := Int.eq_ofNat_of_zero_le h1.1
  obtain ⟨X, Y, rfl, rfl⟩ : ∃ X Y, z0 = X ++ Y ∧ X.length = i := ⟨z0.take i, z0.drop i, (List.take_append_drop i z0).symm, by have := h1.2; rw [List.length_take]; omega⟩
  have hr : (X ++ Y).take (X.length : Int).toNat ++ z2 ++ (X ++ Y).drop (X.length : Int).toNat = X ++ z2 ++ Y := by
    rw [Int.toNat_natCast, List.take_left' rfl, List.drop_left' rfl]
  rw [hr]
  have hfit' : ((X ++ Y).length + z2.length) * 48 ≤ 140737488355328 := by simpa [fits] using hfit
  rw [List.length_append] at hfit'
  have hxl : ((X ++ Y).length : Int) = ((X.length + Y.length : Nat) : Int) := by rw [List.length_append]
  have w1 : IntKind.wrap .i64 (((X ++ Y).length : Int) + (z2.length : Int)) = ((X.length + Y.length + z2.length : Nat) : Int) := by rw [hxl, IntKind.wrap_i64]; omega
  have w2 : IntKind.wrap .i64 (((X.length + Y.length + z2.length : Nat) : Int) - (X.length : Int)) = ((z2.length + Y.length : Nat) : Int) := by rw [IntKind.wrap_i64]; omega
  have w3 : IntKind.wrap .i64 ((X.length : Int) + (z2.length : Int)) = ((X.length + z2.length : Nat) : Int) := by rw [IntKind.wrap_i64]; omega
  refine t_begin (args := [.slice p m c, .int .i64 (X.length : Int), .slice p' m' c']) Tryd.func65 rfl Tryd.ntmps65 rfl fun cx R hR => ?_
  refine t_seq fun K1 hK1 => ?_
  refine t_region ?_
  refine c_p (r_as rfl) rfl ?_
  refine t_nil ?_
  refine t_then hK1 ?_
  refine t_seq fun K2 hK2 => ?_
  refine t_region ?_
  refine c_p (r_mv rfl) rfl ?_
  refine c_p (r_mv rfl) rfl ?_
  refine nx (t_vw (i := (X.length : Int)) (j := ((X ++ Y).length : Int)) a0 Tryd.underlying25 ti34 rfl (.inr ⟨_, _, rfl, rfl⟩) (.inl ⟨rfl, rfl⟩) ⟨by omega, by rw [hxl]; omega, by omega⟩ rfl fun t1 hv => ?_)
  refine t_nil ?_
  refine t_then hK2 ?_
  refine t_seq fun K3 hK3 => ?_
  refine t_region ?_
  refine c_p (r_mv rfl) rfl ?_
  refine c_s (r_lnL a1 Tryd.underlying25 rfl) rfl ?_
  refine c_p (r_as rfl) rfl ?_
  refine t_nil ?_
  refine t_then hK3 ?_
  refine t_seq fun K4 hK4 => ?_
  refine t_seq fun K5 hK5 => ?_
  refine t_region ?_
  refine c_p (r_mv rfl) rfl ?_
  refine c_p (r_i rfl rfl rfl) rfl ?_
  refine t_nil ?_
  refine t_then hK5 ?_
  rcases Nat.eq_zero_or_pos z2.length with hz | hz
  · obtain rfl := List.eq_nil_of_length_eq_zero hz
    refine t_T rfl rfl ?_
    refine t_seq fun K6 hK6 => ?_
    refine t_region ?_
    refine c_p (r_mv rfl) rfl ?_
    refine c_p (r_as rfl) rfl ?_
    refine t_nil ?_
    refine t_then hK6 ?_
    refine t_ret ?_
    rw [List.append_nil] at hR
    exact tr (ret1 rfl (v_t rfl) (t_leave hR (p, m, c) rfl (fun w Z hA => V0) (.cons e0 .nil)))
  refine t_F rfl (by simp only [beq_eq_false_iff_ne]; omega) ?_
  refine t_skip ?_
  refine t_then hK4 ?_
  refine t_opnO e1 (fun e => by rw [e] at hz; simp at hz) fun g' pre' ve post' ep' em' l3' hone' hmk' hp' hk' => ?_
  subst ep' em'
  have l3 : ve.length = z2.length * 3 := l3'
  refine t_seq fun K7 hK7 => ?_
  refine t_region ?_
  refine c_p (r_mv rfl) rfl ?_
  refine c_s (r_lnL a2 Tryd.underlying25 rfl) rfl ?_
  refine c_p (r_as rfl) rfl ?_
  refine t_nil ?_
  refine t_then hK7 ?_
  refine t_seq fun K8 hK8 => ?_
  refine t_seq fun K9 hK9 => ?_
  refine t_region ?_
  refine c_p (r_mv rfl) rfl ?_
  refine c_p (r_mv rfl) rfl ?_
  refine c_p (r_i rfl rfl rfl) rfl ?_
  refine t_nil ?_
  refine t_then hK9 ?_
  rcases Nat.eq_zero_or_pos Y.length with hy | hy
  · obtain rfl := List.eq_nil_of_length_eq_zero hy
    refine t_T rfl (by rw [List.append_nil]; simp) ?_
    refine t_seq fun K10 hK10 => ?_
    refine t_region ?_
    refine c_p (r_mv rfl) rfl ?_
    refine c_p (r_mv rfl) rfl ?_
    refine nx (t_app (Kd := k_api_DiskFile) (xs := X ++ []) (ys := z2) (.cons e2 (.cons e1 .nil)) rfl rfl Tryd.underlying25 Tryd.underlying25 ti34 rfl rfl hfit (srcE a0) rfl fun tt => ?_)
    refine c_p (r_as rfl) rfl ?_
    refine t_nil ?_
    refine t_then hK10 ?_
    refine t_ret ?_
    rw [List.append_nil] at hR ⊢
    exact tr (ret1 rfl (v_t rfl) (t_leave hR tt rfl (fun w Z hA => V0) (.cons e0 .nil)))
  refine t_F rfl (by simp only [beq_eq_false_iff_ne]; omega) ?_
  refine t_skip ?_
  refine t_then hK8 ?_
  refine t_opnO e2 (fun e => by simp at e; rw [e.2] at hy; simp at hy) fun g pre el post ep em hlel hone hmk hp hk => ?_
  subst ep em
  refine t_eloS e1 fun c1 c2 hel l1' l2' => ?_
  subst hel
  have l1 : c1.length = X.length * 3 := l1'
  have l2 : c2.length = Y.length * 3 := l2'
  have hone2 : ∀ v ∈ c2, v.oneCell' = true := fun v hv => hone v (List.mem_append_right _ hv)
  have hp : (c - (X ++ Y).length) * 3 ≤ post.length := hp
  rw [List.length_append] at hp hmk
  refine t_ne (.cons e2 (.cons e2 .nil)) fun hne => ?_
  refine t_seq fun K11 hK11 => ?_
  refine t_seq fun K12 hK12 => ?_
  refine t_region ?_
  refine c_p (r_mv rfl) rfl ?_
  refine c_p (r_mv rfl) rfl ?_
  refine c_p (r_i rfl rfl rfl) rfl ?_
  refine t_set (i := 28) rfl (congrArg (Value.int .i64) w1) ?_
  refine c_p (r_mv rfl) rfl ?_
  refine c_p (r_cap Tryd.underlying25 rfl) rfl ?_
  refine c_p (r_i rfl rfl rfl) rfl ?_
  refine t_nil ?_
  refine t_then hK12 ?_
  have hout : ((X ++ z2 ++ Y).length) = X.length + (z2.length + Y.length) := by simp [Nat.add_assoc]
  by_cases hcap : c < X.length + Y.length + z2.length
  · refine t_T rfl (by simp only [decide_eq_true_eq]; omega) ?_
    refine t_seq fun K13 hK13 => ?_
    refine t_region ?_
    refine c_p (r_mv rfl) rfl ?_
    refine c_p (r_mv rfl) rfl ?_
    refine c_p (r_cutE (i := 0) (j := (X.length : Int)) Tryd.underlying25 ti34 rfl (.inl ⟨rfl, rfl⟩) (.inr ⟨_, _, rfl, rfl⟩) 0 X.length (o2 := pre.length) (m2 := X.length) (k2 := c) rfl rfl (by omega) (by omega) (by omega) (by omega) (by omega) (by omega)) rfl ?_
    refine c_p (r_mv rfl) rfl ?_
    refine c_p (r_mv rfl) rfl ?_
    refine c_p (r_i rfl rfl rfl) rfl ?_
    refine t_set (i := 37) rfl (congrArg (Value.int .i64) w1) ?_
    refine c_p (r_mv rfl) rfl ?_
    refine c_p (r_i rfl rfl rfl) rfl ?_
    refine t_set (i := 39) rfl (congrArg (Value.int .i64) w2) ?_
    refine nx (t_apz (el := c1) (el' := c2) (m := z2.length + Y.length) a2 rfl rfl rfl Tryd.underlying25 Tryd.underlying3 ti34 rfl (by decide) (by decide) rfl l1 (by omega) (by omega) (by rw [← Nat.add_assoc, Nat.add_right_comm]; exact hfit') rfl fun g2 k2 rest hk1 hk2 hrest => ?_)
    refine c_p (r_as rfl) rfl ?_
    refine t_nil ?_
    refine t_then hK13 ?_
    refine t_seq fun K14 hK14 => ?_
    refine t_region ?_
    refine c_p (r_mv rfl) rfl ?_
    refine c_p (r_mv rfl) rfl ?_
    refine c_p (r_cutE (i := (X.length : Int)) (j := ((X.length + (z2.length + Y.length) : Nat) : Int)) Tryd.underlying25 ti34 rfl (.inr ⟨_, _, rfl, rfl⟩) (.inl ⟨rfl, rfl⟩) X.length (X.length + (z2.length + Y.length)) (o2 := c1.length) (m2 := z2.length + Y.length) (k2 := k2 - X.length) rfl rfl (by omega) (by omega) (by omega) (by omega) (by omega) (by omega)) rfl ?_
    refine c_p (r_mv rfl) rfl ?_
    refine nx (t_cp (cs' := c1 ++ ve ++ rest.drop ve.length) (el := ve) (pre := pre') (post := post') u0 a4 rfl rfl Tryd.underlying25 ti34 rfl rfl (by rw [l3]; exact congrArg (· * 3) (Nat.min_eq_left (by omega)).symm) hone' (by rw [List.length_append, hrest, l3]; omega) (over_at (b := rest.take ve.length) (by rw [List.append_assoc, List.take_append_drop]) rfl (by rw [List.length_take, hrest]; omega)) rfl ?_)
    refine t_nil ?_
    refine t_then hK14 ?_
    refine t_seq fun K15 hK15 => ?_
    refine t_draw mixed (fun _ => True) [] [8] rfl ?_
    refine q_p 0 (panic_then (panic_then panic_body)) rfl (by kernel_rfl) W0 (r_mv rfl) rfl ?_
    refine q_p 1 (panic_then (panic_then panic_body)) rfl (by kernel_rfl) W0 (r_mv rfl) rfl ?_
    refine q_p 2 (panic_then (panic_then panic_body)) rfl (by kernel_rfl) W0 (r_mv rfl) rfl ?_
    refine q_p 3 (panic_then (panic_then panic_body)) rfl (by kernel_rfl) W0 (r_i rfl rfl rfl) rfl ?_
    refine t_set (i := 49) rfl (congrArg (Value.int .i64) w3) ?_
    refine q_p 4 (panic_then (panic_then panic_body)) rfl (by kernel_rfl) W0 (r_cutE (i := ((X.length + z2.length : Nat) : Int)) (j := ((X.length + (z2.length + Y.length) : Nat) : Int)) Tryd.underlying25 ti34 rfl (.inr ⟨_, _, rfl, rfl⟩) (.inl ⟨rfl, rfl⟩) (X.length + z2.length) (X.length + (z2.length + Y.length)) (o2 := (c1 ++ ve).length) (m2 := Y.length) (k2 := k2 - (X.length + z2.length)) rfl rfl (by omega) (by omega) (by omega) (by rw [List.length_append]; omega) (by omega) (by omega)) rfl ?_
    refine q_p 5 (panic_then (panic_then panic_body)) rfl (by kernel_rfl) W0 (r_mv rfl) rfl ?_
    refine q_p 6 (panic_then (panic_then panic_body)) rfl (by kernel_rfl) W0 (r_mv rfl) rfl ?_
    refine q_p 7 (panic_then (panic_then panic_body)) rfl (by kernel_rfl) W0 (r_cutE (i := (X.length : Int)) (j := ((X ++ Y).length : Int)) Tryd.underlying25 ti34 rfl (.inr ⟨_, _, rfl, rfl⟩) (.inl ⟨rfl, rfl⟩) X.length (X ++ Y).length (o2 := (pre ++ c1).length) (m2 := Y.length) (k2 := c - X.length) rfl rfl (by rw [List.length_append]; omega) (by rw [List.length_append]; omega) (by omega) (by rw [List.length_append]; omega) (by rw [List.length_append]; omega) (by omega)) rfl ?_
    refine d1 8 rfl (by kernel_rfl) (by kernel_rfl) ?_
    refine t_cp (cs' := c1 ++ ve ++ c2 ++ (rest.drop ve.length).drop c2.length) (el := c2) (pre := pre ++ c1) (post := post) u0 a3 rfl rfl Tryd.underlying25 ti34 (by simp [List.append_assoc]) rfl (by rw [l2]; exact congrArg (· * 3) (Nat.min_self _).symm) hone2 (by simp only [List.length_append, List.length_drop, hrest, l2, l3]; omega) (over_at (b := (rest.drop ve.length).take c2.length) (by rw [List.append_assoc, List.append_assoc, List.take_append_drop, ← List.append_assoc]) rfl (by rw [List.length_take, List.length_drop, hrest]; omega)) rfl ?_
    refine dn (by kernel_rfl) ?_
    refine dz (by kernel_rfl) ?_
    refine t_then hK15 ?_
    refine t_seq fun K16 hK16 => ?_
    refine t_region ?_
    refine c_p (r_mv rfl) rfl ?_
    refine c_p (r_as rfl) rfl ?_
    refine t_nil ?_
    refine t_then hK16 ?_
    refine t_ret ?_
    refine tr (ret1 rfl (v_t rfl) ?_)
    refine t_eloJ (.cons e1 (.cons e4 .nil)) ?_
    refine t_eloJ (.cons e0 (.cons e1 .nil)) ?_
    refine t_shuO (Kd := k_api_DiskFile) (xs := X ++ z2 ++ Y) (pre := []) (el := c1 ++ ve ++ c2) (post := (rest.drop ve.length).drop c2.length) (k := k2) (m := X.length + (z2.length + Y.length)) (off := 0) (.cons e1 (.cons e0 .nil)) (by simp [List.append_assoc]) rfl hout.symm hk1 ?_ hk2 ?_
    · show (k2 - (X.length + (z2.length + Y.length))) * 3 ≤ _
      rw [List.length_drop, List.length_drop, hrest, l2, l3]; omega
    · exact t_leave hR (some ⟨g2, 0, none⟩, X.length + (z2.length + Y.length), k2) rfl (fun w Z hA => V0) (.cons e0 .nil)
  refine t_F rfl (by simp only [decide_eq_false_iff_not]; omega) ?_
  refine t_skip ?_
  refine t_then hK11 ?_
  refine t_seq fun K17 hK17 => ?_
  refine t_region ?_
  refine c_p (r_mv rfl) rfl ?_
  refine c_p (r_mv rfl) rfl ?_
  refine c_p (r_mv rfl) rfl ?_
  refine c_p (r_i rfl rfl rfl) rfl ?_
  refine t_set (i := 59) rfl (congrArg (Value.int .i64) w1) ?_
  refine c_p (r_cutE (i := 0) (j := ((X.length + Y.length + z2.length : Nat) : Int)) Tryd.underlying25 ti34 rfl (.inl ⟨rfl, rfl⟩) (.inr ⟨_, _, rfl, rfl⟩) 0 (X.length + Y.length + z2.length) (o2 := pre.length) (m2 := X.length + (z2.length + Y.length)) (k2 := c) rfl rfl (by omega) (by omega) (by omega) (by omega) (by omega) (by omega)) rfl ?_
  refine c_p (r_as rfl) rfl ?_
  refine t_nil ?_
  refine t_then hK17 ?_
  refine t_seq fun K18 hK18 => ?_
  refine t_seq fun K19 hK19 => ?_
  refine t_region ?_
  refine c_p (r_mv rfl) rfl ?_
  refine c_p (r_mv rfl) rfl ?_
  refine c_p (r_mv rfl) rfl ?_
  refine c_p (r_mv rfl) rfl ?_
  refine c_p (r_i rfl rfl rfl) rfl ?_
  refine t_set (i := 65) rfl (congrArg (Value.int .i64) w3) ?_
  refine c_p (r_cutE (i := ((X.length + z2.length : Nat) : Int)) (j := ((X.length + (z2.length + Y.length) : Nat) : Int)) Tryd.underlying25 ti34 rfl (.inr ⟨_, _, rfl, rfl⟩) (.inl ⟨rfl, rfl⟩) (X.length + z2.length) (X.length + (z2.length + Y.length)) (o2 := pre.length + c1.length + ve.length) (m2 := Y.length) (k2 := c - (X.length + z2.length)) rfl rfl (by omega) (by omega) (by omega) (by omega) (by omega) (by omega)) rfl ?_
  refine c_s (r_ov (tS := 25) (tR := 4) rfl rfl rfl Tryd.underlying25 ti34 a3 a2 hne.symm (by simp only [List.length_append]; omega) fun w => run_callFunc_extern Tryd.func70 (by kernel_rfl) (by kernel_rfl) (by kernel_rfl) (e := Extern.SlicesOverlaps.overlaps #[25, 25] #[4]) (by kernel_rfl) _ w) rfl ?_
  refine c_p (r_not rfl) rfl ?_
  refine t_nil ?_
  refine t_then hK19 ?_
  refine t_T rfl rfl ?_
  refine t_seq fun K20 hK20 => ?_
  refine t_draw mixed (fun _ => True) [] [8] rfl ?_
  refine q_p 0 (panic_then (panic_then panic_body)) rfl (by kernel_rfl) W0 (r_mv rfl) rfl ?_
  refine q_p 1 (panic_then (panic_then panic_body)) rfl (by kernel_rfl) W0 (r_mv rfl) rfl ?_
  refine q_p 2 (panic_then (panic_then panic_body)) rfl (by kernel_rfl) W0 (r_mv rfl) rfl ?_
  refine q_p 3 (panic_then (panic_then panic_body)) rfl (by kernel_rfl) W0 (r_i rfl rfl rfl) rfl ?_
  refine t_set (i := 72) rfl (congrArg (Value.int .i64) w3) ?_
  refine q_p 4 (panic_then (panic_then panic_body)) rfl (by kernel_rfl) W0 (r_cutE (i := ((X.length + z2.length : Nat) : Int)) (j := ((X.length + (z2.length + Y.length) : Nat) : Int)) Tryd.underlying25 ti34 rfl (.inr ⟨_, _, rfl, rfl⟩) (.inl ⟨rfl, rfl⟩) (X.length + z2.length) (X.length + (z2.length + Y.length)) (o2 := pre.length + c1.length + ve.length) (m2 := Y.length) (k2 := c - (X.length + z2.length)) rfl rfl (by omega) (by omega) (by omega) (by omega) (by omega) (by omega)) rfl ?_
  refine q_p 5 (panic_then (panic_then panic_body)) rfl (by kernel_rfl) W0 (r_mv rfl) rfl ?_
  refine q_p 6 (panic_then (panic_then panic_body)) rfl (by kernel_rfl) W0 (r_mv rfl) rfl ?_
  refine q_p 7 (panic_then (panic_then panic_body)) rfl (by kernel_rfl) W0 (r_cutE (i := (X.length : Int)) (j := ((X.length + (z2.length + Y.length) : Nat) : Int)) Tryd.underlying25 ti34 rfl (.inr ⟨_, _, rfl, rfl⟩) (.inl ⟨rfl, rfl⟩) X.length (X.length + (z2.length + Y.length)) (o2 := (pre ++ c1).length) (m2 := z2.length + Y.length) (k2 := c - X.length) rfl rfl (by omega) (by omega) (by omega) (by rw [List.length_append]; omega) (by omega) (by omega)) rfl ?_
  refine d1 8 rfl (by kernel_rfl) (by kernel_rfl) ?_
  refine t_cp (cs' := pre ++ c1 ++ (c2 ++ post).take ve.length ++ c2 ++ post.drop ve.length) (el := c2) (pre := pre ++ c1) (post := post) u2 a2 rfl rfl Tryd.underlying25 ti34 (by simp [List.append_assoc]) rfl (by rw [l2]; exact congrArg (· * 3) (Nat.min_eq_right (by omega)).symm) hone2 (by simp only [List.length_append]; omega) (over_shift rfl (by omega)) rfl ?_
  refine dn (by kernel_rfl) ?_
  refine dz (by kernel_rfl) ?_
  refine t_then hK20 ?_
  refine t_seq fun K21 hK21 => ?_
  refine t_region ?_
  refine c_p (r_mv rfl) rfl ?_
  refine c_p (r_mv rfl) rfl ?_
  refine c_p (r_cutE (i := (X.length : Int)) (j := ((X.length + (z2.length + Y.length) : Nat) : Int)) Tryd.underlying25 ti34 rfl (.inr ⟨_, _, rfl, rfl⟩) (.inl ⟨rfl, rfl⟩) X.length (X.length + (z2.length + Y.length)) (o2 := (pre ++ c1).length) (m2 := z2.length + Y.length) (k2 := c - X.length) rfl rfl (by omega) (by omega) (by omega) (by rw [List.length_append]; omega) (by omega) (by omega)) rfl ?_
  refine c_p (r_mv rfl) rfl ?_
  refine nx (t_cp (cs' := (pre ++ c1) ++ ve ++ (c2 ++ post.drop ve.length)) (el := ve) (pre := pre') (post := post') u2 a3 rfl rfl Tryd.underlying25 ti34 rfl rfl (by rw [l3]; exact congrArg (· * 3) (Nat.min_eq_left (by omega)).symm) hone' (by simp only [List.length_append, List.length_take, List.length_drop]; omega) (over_at (b := (c2 ++ post).take ve.length) (by simp only [List.append_assoc]) rfl (by simp only [List.length_append, List.length_take]; omega)) rfl ?_)
  refine t_nil ?_
  refine t_then hK21 ?_
  refine t_seq fun K22 hK22 => ?_
  refine t_region ?_
  refine c_p (r_mv rfl) rfl ?_
  refine c_p (r_as rfl) rfl ?_
  refine t_nil ?_
  refine t_then hK22 ?_
  refine t_ret ?_
  refine tr (ret1 rfl (v_t rfl) ?_)
  refine t_eloJ (.cons e0 (.cons e3 .nil)) ?_
  refine t_eloJ (.cons e0 (.cons e0 .nil)) ?_
  refine t_shuO (Kd := k_api_DiskFile) (xs := X ++ z2 ++ Y) (pre := pre) (el := c1 ++ ve ++ c2) (post := post.drop ve.length) (k := c) (m := X.length + (z2.length + Y.length)) (off := pre.length) (.cons e1 (.cons e0 .nil)) (by simp only [List.append_assoc]) rfl hout.symm (by omega) ?_ hk ?_
  · show (c - (X.length + (z2.length + Y.length))) * 3 ≤ _
    rw [List.length_drop, l3]; omega
  · exact t_leave hR (some ⟨g, pre.length, none⟩, X.length + (z2.length + Y.length), c) rfl (fun w Z hA => V0) (.cons e0 .nil)
set_option maxHeartbeats 4000000 in
set_option maxRecDepth 100000 in
theorem C65s (z0 : List api_DiskFile) (z1 : Int) (z2 : List api_DiskFile) (p : Option Addr) (m c : Nat) (p' : Option Addr) (m' c' : Nat) (r : List api_DiskFile) (h : f_slices_Insert_api_DiskFile_api_DiskFile z0 z1 z2 = some r) : FunG Tryd.prog 65 #[.slice p m c, .int .i64 z1, .slice p' m' c'] [] [[row 34 (kShare k_api_DiskFile) z0 (.slice p m c)], [row 34 (kShare k_api_DiskFile) z2 (.slice p' m' c')]] (fun t : Option Addr × Nat × Nat => .slice t.1 t.2.1 t.2.2) (fun _ => []) (fun t => [[row 34 (kShare k_api_DiskFile) r (.slice t.1 t.2.1 t.2.2)]]) := by
  unfold f_slices_Insert_api_DiskFile_api_DiskFile at h
  obtain ⟨h1, h⟩ := ck_out h
  obtain ⟨hfit, h⟩ := ck_out h
  obtain rfl := Option.some.inj h
  obtain ⟨i, rfl⟩ := Int.eq_ofNat_of_zero_le h1.1
  obtain ⟨X, Y, rfl, rfl⟩ : ∃ X Y, z0 = X ++ Y ∧ X.length = i := ⟨z0.take i, z0.drop i, (List.take_append_drop i z0).symm, by have := h1.2; rw [List.length_take]; omega⟩
  have hr : (X ++ Y).take (X.length : Int).toNat ++ z2 ++ (X ++ Y).drop (X.length : Int).toNat = X ++ z2 ++ Y := by
    rw [Int.toNat_natCast, List.take_left' rfl, List.drop_left' rfl]
  rw [hr]
  have hfit' : ((X ++ Y).length + z2.length) * 48 ≤ 140737488355328 := by simpa [fits] using hfit
  rw [List.length_append] at hfit'
  have hxl : ((X ++ Y).length : Int) = ((X.length + Y.length : Nat) : Int) := by rw [List.length_append]
  have w1 : IntKind.wrap .i64 (((X ++ Y).length : Int) + (z2.length : Int)) = ((X.length + Y.length + z2.length : Nat) : Int) := by rw [hxl, IntKind.wrap_i64]; omega
  have w2 : IntKind.wrap .i64 (((X.length + Y.length + z2.length : Nat) : Int) - (X.length : Int)) = ((z2.length + Y.length : Nat) : Int) := by rw [IntKind.wrap_i64]; omega
  have w3 : IntKind.wrap .i64 ((X.length : Int) + (z2.length : Int)) = ((X.length + z2.length : Nat) : Int) := by rw [IntKind.wrap_i64]; omega
  refine t_begin (args := [.slice p m c, .int .i64 (X.length : Int), .slice p' m' c']) Tryd.func65 rfl Tryd.ntmps65 rfl fun cx R hR => ?_
  refine t_seq fun K1 hK1 => ?_
  refine t_region ?_
  refine c_p (r_as rfl) rfl ?_
  refine t_nil ?_
  refine t_then hK1 ?_
  refine t_seq fun K2 hK2 => ?_
  refine t_region ?_
  refine c_p (r_mv rfl) rfl ?_
  refine c_p (r_mv rfl) rfl ?_
  refine nx (t_vw (i := (X.length : Int)) (j := ((X ++ Y).length : Int)) a0 Tryd.underlying25 ti34 rfl (.inr ⟨_, _, rfl, rfl⟩) (.inl ⟨rfl, rfl⟩) ⟨by omega, by rw [hxl]; omega, by omega⟩ rfl fun t1 hv => ?_)
  refine t_nil ?_
  refine t_then hK2 ?_
  refine t_seq fun K3 hK3 => ?_
  refine t_region ?_
  refine c_p (r_mv rfl) rfl ?_
  refine c_s (r_lnL a1 Tryd.underlying25 rfl) rfl ?_
  refine c_p (r_as rfl) rfl ?_
  refine t_nil ?_
  refine t_then hK3 ?_
  refine t_seq fun K4 hK4 => ?_
  refine t_seq fun K5 hK5 => ?_
  refine t_region ?_
  refine c_p (r_mv rfl) rfl ?_
  refine c_p (r_i rfl rfl rfl) rfl ?_
  refine t_nil ?_
  refine t_then hK5 ?_
  rcases Nat.eq_zero_or_pos z2.length with hz | hz
  · obtain rfl := List.eq_nil_of_length_eq_zero hz
    refine t_T rfl rfl ?_
    refine t_seq fun K6 hK6 => ?_
    refine t_region ?_
    refine c_p (r_mv rfl) rfl ?_
    refine c_p (r_as rfl) rfl ?_
    refine t_nil ?_
    refine t_then hK6 ?_
    refine t_ret ?_
    rw [List.append_nil] at hR
    exact tr (ret1 rfl (v_t rfl) (t_leave hR (p, m, c) rfl (fun w Z hA => V0) (.cons e0 .nil)))
  refine t_F rfl (by simp only [beq_eq_false_iff_ne]; omega) ?_
  refine t_skip ?_
  refine t_then hK4 ?_
  refine t_opnO e1 (fun e => by rw [e] at hz; simp at hz) fun g' pre' ve post' ep' em' l3' hone' hmk' hp' hk' => ?_
  subst ep' em'
  have l3 : ve.length = z2.length * 3 := l3'
  refine t_seq fun K7 hK7 => ?_
  refine t_region ?_
  refine c_p (r_mv rfl) rfl ?_
  refine c_s (r_lnL a2 Tryd.underlying25 rfl) rfl ?_
  refine c_p (r_as rfl) rfl ?_
  refine t_nil ?_
  refine t_then hK7 ?_
  refine t_seq fun K8 hK8 => ?_
  refine t_seq fun K9 hK9 => ?_
  refine t_region ?_
  refine c_p (r_mv rfl) rfl ?_
  refine c_p (r_mv rfl) rfl ?_
  refine c_p (r_i rfl rfl rfl) rfl ?_
  refine t_nil ?_
  refine t_then hK9 ?_
  rcases Nat.eq_zero_or_pos Y.length with hy | hy
  · obtain rfl := List.eq_nil_of_length_eq_zero hy
    refine t_T rfl (by rw [List.append_nil]; simp) ?_
    refine t_seq fun K10 hK10 => ?_
    refine t_region ?_
    refine c_p (r_mv rfl) rfl ?_
    refine c_p (r_mv rfl) rfl ?_
    refine nx (t_app (Kd := (kShare k_api_DiskFile)) (xs := X ++ []) (ys := z2) (.cons e2 (.cons e1 .nil)) rfl rfl Tryd.underlying25 Tryd.underlying25 ti34 rfl rfl hfit (srcE a0) rfl fun tt => ?_)
    refine c_p (r_as rfl) rfl ?_
    refine t_nil ?_
    refine t_then hK10 ?_
    refine t_ret ?_
    rw [List.append_nil] at hR ⊢
    exact tr (ret1 rfl (v_t rfl) (t_leave hR tt rfl (fun w Z hA => V0) (.cons e0 .nil)))
  refine t_F rfl (by simp only [beq_eq_false_iff_ne]; omega) ?_
  refine t_skip ?_
  refine t_then hK8 ?_
  refine t_opnO e2 (fun e => by simp at e; rw [e.2] at hy; simp at hy) fun g pre el post ep em hlel hone hmk hp hk => ?_
  subst ep em
  refine t_eloS e1 fun c1 c2 hel l1' l2' => ?_
  subst hel
  have l1 : c1.length = X.length * 3 := l1'
  have l2 : c2.length = Y.length * 3 := l2'
  have hone2 : ∀ v ∈ c2, v.oneCell' = true := fun v hv => hone v (List.mem_append_right _ hv)
  have hp : (c - (X ++ Y).length) * 3 ≤ post.length := hp
  rw [List.length_append] at hp hmk
  refine t_ne (.cons e2 (.cons e2 .nil)) fun hne => ?_
  refine t_seq fun K11 hK11 => ?_
  refine t_seq fun K12 hK12 => ?_
  refine t_region ?_
  refine c_p (r_mv rfl) rfl ?_
  refine c_p (r_mv rfl) rfl ?_
  refine c_p (r_i rfl rfl rfl) rfl ?_
  refine t_set (i := 28) rfl (congrArg (Value.int .i64) w1) ?_
  refine c_p (r_mv rfl) rfl ?_
  refine c_p (r_cap Tryd.underlying25 rfl) rfl ?_
  refine c_p (r_i rfl rfl rfl) rfl ?_
  refine t_nil ?_
  refine t_then hK12 ?_
  have hout : ((X ++ z2 ++ Y).length) = X.length + (z2.length + Y.length) := by simp [Nat.add_assoc]
  by_cases hcap : c < X.length + Y.length + z2.length
  · refine t_T rfl (by simp only [decide_eq_true_eq]; omega) ?_
    refine t_seq fun K13 hK13 => ?_
    refine t_region ?_
    refine c_p (r_mv rfl) rfl ?_
    refine c_p (r_mv rfl) rfl ?_
    refine c_p (r_cutE (i := 0) (j := (X.length : Int)) Tryd.underlying25 ti34 rfl (.inl ⟨rfl, rfl⟩) (.inr ⟨_, _, rfl, rfl⟩) 0 X.length (o2 := pre.length) (m2 := X.length) (k2 := c) rfl rfl (by omega) (by omega) (by omega) (by omega) (by omega) (by omega)) rfl ?_
    refine c_p (r_mv rfl) rfl ?_
    refine c_p (r_mv rfl) rfl ?_
    refine c_p (r_i rfl rfl rfl) rfl ?_
    refine t_set (i := 37) rfl (congrArg (Value.int .i64) w1) ?_
    refine c_p (r_mv rfl) rfl ?_
    refine c_p (r_i rfl rfl rfl) rfl ?_
    refine t_set (i := 39) rfl (congrArg (Value.int .i64) w2) ?_
    refine nx (t_apz (el := c1) (el' := c2) (m := z2.length + Y.length) a2 rfl rfl rfl Tryd.underlying25 Tryd.underlying3 ti34 rfl (by decide) (by decide) rfl l1 (by omega) (by omega) (by rw [← Nat.add_assoc, Nat.add_right_comm]; exact hfit') rfl fun g2 k2 rest hk1 hk2 hrest => ?_)
    refine c_p (r_as rfl) rfl ?_
    refine t_nil ?_
    refine t_then hK13 ?_
    refine t_seq fun K14 hK14 => ?_
    refine t_region ?_
    refine c_p (r_mv rfl) rfl ?_
    refine c_p (r_mv rfl) rfl ?_
    refine c_p (r_cutE (i := (X.length : Int)) (j := ((X.length + (z2.length + Y.length) : Nat) : Int)) Tryd.underlying25 ti34 rfl (.inr ⟨_, _, rfl, rfl⟩) (.inl ⟨rfl, rfl⟩) X.length (X.length + (z2.length + Y.length)) (o2 := c1.length) (m2 := z2.length + Y.length) (k2 := k2 - X.length) rfl rfl (by omega) (by omega) (by omega) (by omega) (by omega) (by omega)) rfl ?_
    refine c_p (r_mv rfl) rfl ?_
    refine nx (t_cp (cs' := c1 ++ ve ++ rest.drop ve.length) (el := ve) (pre := pre') (post := post') u0 a4 rfl rfl Tryd.underlying25 ti34 rfl rfl (by rw [l3]; exact congrArg (· * 3) (Nat.min_eq_left (by omega)).symm) hone' (by rw [List.length_append, hrest, l3]; omega) (over_at (b := rest.take ve.length) (by rw [List.append_assoc, List.take_append_drop]) rfl (by rw [List.length_take, hrest]; omega)) rfl ?_)
    refine t_nil ?_
    refine t_then hK14 ?_
    refine t_seq fun K15 hK15 => ?_
    refine t_draw mixed (fun _ => True) [] [8] rfl ?_
    refine q_p 0 (panic_then (panic_then panic_body)) rfl (by kernel_rfl) W0 (r_mv rfl) rfl ?_
    refine q_p 1 (panic_then (panic_then panic_body)) rfl (by kernel_rfl) W0 (r_mv rfl) rfl ?_
    refine q_p 2 (panic_then (panic_then panic_body)) rfl (by kernel_rfl) W0 (r_mv rfl) rfl ?_
    refine q_p 3 (panic_then (panic_then panic_body)) rfl (by kernel_rfl) W0 (r_i rfl rfl rfl) rfl ?_
    refine t_set (i := 49) rfl (congrArg (Value.int .i64) w3) ?_
    refine q_p 4 (panic_then (panic_then panic_body)) rfl (by kernel_rfl) W0 (r_cutE (i := ((X.length + z2.length : Nat) : Int)) (j := ((X.length + (z2.length + Y.length) : Nat) : Int)) Tryd.underlying25 ti34 rfl (.inr ⟨_, _, rfl, rfl⟩) (.inl ⟨rfl, rfl⟩) (X.length + z2.length) (X.length + (z2.length + Y.length)) (o2 := (c1 ++ ve).length) (m2 := Y.length) (k2 := k2 - (X.length + z2.length)) rfl rfl (by omega) (by omega) (by omega) (by rw [List.length_append]; omega) (by omega) (by omega)) rfl ?_
    refine q_p 5 (panic_then (panic_then panic_body)) rfl (by kernel_rfl) W0 (r_mv rfl) rfl ?_
    refine q_p 6 (panic_then (panic_then panic_body)) rfl (by kernel_rfl) W0 (r_mv rfl) rfl ?_
    refine q_p 7 (panic_then (panic_then panic_body)) rfl (by kernel_rfl) W0 (r_cutE (i := (X.length : Int)) (j := ((X ++ Y).length : Int)) Tryd.underlying25 ti34 rfl (.inr ⟨_, _, rfl, rfl⟩) (.inl ⟨rfl, rfl⟩) X.length (X ++ Y).length (o2 := (pre ++ c1).length) (m2 := Y.length) (k2 := c - X.length) rfl rfl (by rw [List.length_append]; omega) (by rw [List.length_append]; omega) (by omega) (by rw [List.length_append]; omega) (by rw [List.length_append]; omega) (by omega)) rfl ?_
    refine d1 8 rfl (by kernel_rfl) (by kernel_rfl) ?_
    refine t_cp (cs' := c1 ++ ve ++ c2 ++ (rest.drop ve.length).drop c2.length) (el := c2) (pre := pre ++ c1) (post := post) u0 a3 rfl rfl Tryd.underlying25 ti34 (by simp [List.append_assoc]) rfl (by rw [l2]; exact congrArg (· * 3) (Nat.min_self _).symm) hone2 (by simp only [List.length_append, List.length_drop, hrest, l2, l3]; omega) (over_at (b := (rest.drop ve.length).take c2.length) (by rw [List.append_assoc, List.append_assoc, List.take_append_drop, ← List.append_assoc]) rfl (by rw [List.length_take, List.length_drop, hrest]; omega)) rfl ?_
    refine dn (by kernel_rfl) ?_
    refine dz (by kernel_rfl) ?_
    refine t_then hK15 ?_
    refine t_seq fun K16 hK16 => ?_
    refine t_region ?_
    refine c_p (r_mv rfl) rfl ?_
    refine c_p (r_as rfl) rfl ?_
    refine t_nil ?_
    refine t_then hK16 ?_
    refine t_ret ?_
    refine tr (ret1 rfl (v_t rfl) ?_)
    refine t_eloJ (.cons e1 (.cons e4 .nil)) ?_
    refine t_eloJ (.cons e0 (.cons e1 .nil)) ?_
    refine t_shuO (Kd := (kShare k_api_DiskFile)) (xs := X ++ z2 ++ Y) (pre := []) (el := c1 ++ ve ++ c2) (post := (rest.drop ve.length).drop c2.length) (k := k2) (m := X.length + (z2.length + Y.length)) (off := 0) (.cons e1 (.cons e0 .nil)) (by simp [List.append_assoc]) rfl hout.symm hk1 ?_ hk2 ?_
    · show (k2 - (X.length + (z2.length + Y.length))) * 3 ≤ _
      rw [List.length_drop, List.length_drop, hrest, l2, l3]; omega
    · exact t_leave hR (some ⟨g2, 0, none⟩, X.length + (z2.length + Y.length), k2) rfl (fun w Z hA => V0) (.cons e0 .nil)
  refine t_F rfl (by simp only [decide_eq_false_iff_not]; omega) ?_
  refine t_skip ?_
  refine t_then hK11 ?_
  refine t_seq fun K17 hK17 => ?_
  refine t_region ?_
  refine c_p (r_mv rfl) rfl ?_
  refine c_p (r_mv rfl) rfl ?_
  refine c_p (r_mv rfl) rfl ?_
  refine c_p (r_i rfl rfl rfl) rfl ?_
  refine t_set (i := 59) rfl (congrArg (Value.int .i64) w1) ?_
  refine c_p (r_cutE (i := 0) (j := ((X.length + Y.length + z2.length : Nat) : Int)) Tryd.underlying25 ti34 rfl (.inl ⟨rfl, rfl⟩) (.inr ⟨_, _, rfl, rfl⟩) 0 (X.length + Y.length + z2.length) (o2 := pre.length) (m2 := X.length + (z2.length + Y.length)) (k2 := c) rfl rfl (by omega) (by omega) (by omega) (by omega) (by omega) (by omega)) rfl ?_
  refine c_p (r_as rfl) rfl ?_
  refine t_nil ?_
  refine t_then hK17 ?_
  refine t_seq fun K18 hK18 => ?_
  refine t_seq fun K19 hK19 => ?_
  refine t_region ?_
  refine c_p (r_mv rfl) rfl ?_
  refine c_p (r_mv rfl) rfl ?_
  refine c_p (r_mv rfl) rfl ?_
  refine c_p (r_mv rfl) rfl ?_
  refine c_p (r_i rfl rfl rfl) rfl ?_
  refine t_set (i := 65) rfl (congrArg (Value.int .i64) w3) ?_
  refine c_p (r_cutE (i := ((X.length + z2.length : Nat) : Int)) (j := ((X.length + (z2.length + Y.length) : Nat) : Int)) Tryd.underlying25 ti34 rfl (.inr ⟨_, _, rfl, rfl⟩) (.inl ⟨rfl, rfl⟩) (X.length + z2.length) (X.length + (z2.length + Y.length)) (o2 := pre.length + c1.length + ve.length) (m2 := Y.length) (k2 := c - (X.length + z2.length)) rfl rfl (by omega) (by omega) (by omega) (by omega) (by omega) (by omega)) rfl ?_
  refine c_s (r_ov (tS := 25) (tR := 4) rfl rfl rfl Tryd.underlying25 ti34 a3 a2 hne.symm (by simp only [List.length_append]; omega) fun w => run_callFunc_extern Tryd.func70 (by kernel_rfl) (by kernel_rfl) (by kernel_rfl) (e := Extern.SlicesOverlaps.overlaps #[25, 25] #[4]) (by kernel_rfl) _ w) rfl ?_
  refine c_p (r_not rfl) rfl ?_
  refine t_nil ?_
  refine t_then hK19 ?_
  refine t_T rfl rfl ?_
  refine t_seq fun K20 hK20 => ?_
  refine t_draw mixed (fun _ => True) [] [8] rfl ?_
  refine q_p 0 (panic_then (panic_then panic_body)) rfl (by kernel_rfl) W0 (r_mv rfl) rfl ?_
  refine q_p 1 (panic_then (panic_then panic_body)) rfl (by kernel_rfl) W0 (r_mv rfl) rfl ?_
  refine q_p 2 (panic_then (panic_then panic_body)) rfl (by kernel_rfl) W0 (r_mv rfl) rfl ?_
  refine q_p 3 (panic_then (panic_then panic_body)) rfl (by kernel_rfl) W0 (r_i rfl rfl rfl) rfl ?_
  refine t_set (i := 72) rfl (congrArg (Value.int .i64) w3) ?_
  refine q_p 4 (panic_then (panic_then panic_body)) rfl (by kernel_rfl) W0 (r_cutE (i := ((X.length + z2.length : Nat) : Int)) (j := ((X.length + (z2.length + Y.length) : Nat) : Int)) Tryd.underlying25 ti34 rfl (.inr ⟨_, _, rfl, rfl⟩) (.inl ⟨rfl, rfl⟩) (X.length + z2.length) (X.length + (z2.length + Y.length)) (o2 := pre.length + c1.length + ve.length) (m2 := Y.length) (k2 := c - (X.length + z2.length)) rfl rfl (by omega) (by omega) (by omega) (by omega) (by omega) (by omega)) rfl ?_
  refine q_p 5 (panic_then (panic_then panic_body)) rfl (by kernel_rfl) W0 (r_mv rfl) rfl ?_
  refine q_p 6 (panic_then (panic_then panic_body)) rfl (by kernel_rfl) W0 (r_mv rfl) rfl ?_
  refine q_p 7 (panic_then (panic_then panic_body)) rfl (by kernel_rfl) W0 (r_cutE (i := (X.length : Int)) (j := ((X.length + (z2.length + Y.length) : Nat) : Int)) Tryd.underlying25 ti34 rfl (.inr ⟨_, _, rfl, rfl⟩) (.inl ⟨rfl, rfl⟩) X.length (X.length + (z2.length + Y.length)) (o2 := (pre ++ c1).length) (m2 := z2.length + Y.length) (k2 := c - X.length) rfl rfl (by omega) (by omega) (by omega) (by rw [List.length_append]; omega) (by omega) (by omega)) rfl ?_
  refine d1 8 rfl (by kernel_rfl) (by kernel_rfl) ?_
  refine t_cp (cs' := pre ++ c1 ++ (c2 ++ post).take ve.length ++ c2 ++ post.drop ve.length) (el := c2) (pre := pre ++ c1) (post := post) u2 a2 rfl rfl Tryd.underlying25 ti34 (by simp [List.append_assoc]) rfl (by rw [l2]; exact congrArg (· * 3) (Nat.min_eq_right (by omega)).symm) hone2 (by simp only [List.length_append]; omega) (over_shift rfl (by omega)) rfl ?_
  refine dn (by kernel_rfl) ?_
  refine dz (by kernel_rfl) ?_
  refine t_then hK20 ?_
  refine t_seq fun K21 hK21 => ?_
  refine t_region ?_
  refine c_p (r_mv rfl) rfl ?_
  refine c_p (r_mv rfl) rfl ?_
  refine c_p (r_cutE (i := (X.length : Int)) (j := ((X.length + (z2.length + Y.length) : Nat) : Int)) Tryd.underlying25 ti34 rfl (.inr ⟨_, _, rfl, rfl⟩) (.inl ⟨rfl, rfl⟩) X.length (X.length + (z2.length + Y.length)) (o2 := (pre ++ c1).length) (m2 := z2.length + Y.length) (k2 := c - X.length) rfl rfl (by omega) (by omega) (by omega) (by rw [List.length_append]; omega) (by omega) (by omega)) rfl ?_
  refine c_p (r_mv rfl) rfl ?_
  refine nx (t_cp (cs' := (pre ++ c1) ++ ve ++ (c2 ++ post.drop ve.length)) (el := ve) (pre := pre') (post := post') u2 a3 rfl rfl Tryd.underlying25 ti34 rfl rfl (by rw [l3]; exact congrArg (· * 3) (Nat.min_eq_left (by omega)).symm) hone' (by simp only [List.length_append, List.length_take, List.length_drop]; omega) (over_at (b := (c2 ++ post).take ve.length) (by simp only [List.append_assoc]) rfl (by simp only [List.length_append, List.length_take]; omega)) rfl ?_)
  refine t_nil ?_
  refine t_then hK21 ?_
  refine t_seq fun K22 hK22 => ?_
  refine t_region ?_
  refine c_p (r_mv rfl) rfl ?_
  refine c_p (r_as rfl) rfl ?_
  refine t_nil ?_
  refine t_then hK22 ?_
  refine t_ret ?_
  refine tr (ret1 rfl (v_t rfl) ?_)
  refine t_eloJ (.cons e0 (.cons e3 .nil)) ?_
  refine t_eloJ (.cons e0 (.cons e0 .nil)) ?_
  refine t_shuO (Kd := (kShare k_api_DiskFile)) (xs := X ++ z2 ++ Y) (pre := pre) (el := c1 ++ ve ++ c2) (post := post.drop ve.length) (k := c) (m := X.length + (z2.length + Y.length)) (off := pre.length) (.cons e1 (.cons e0 .nil)) (by simp only [List.append_assoc]) rfl hout.symm (by omega) ?_ hk ?_
  · show (c - (X.length + (z2.length + Y.length))) * 3 ≤ _
    rw [List.length_drop, l3]; omega
  · exact t_leave hR (some ⟨g, pre.length, none⟩, X.length + (z2.length + Y.length), c) rfl (fun w Z hA => V0) (.cons e0 .nil)
end Go.Proofs.YtkjeedijloobgaaDoor.Gx

/- Function 58, slices.Delete[[]kaudit/api.DiskFile,kaudit/api.DiskFile]: what it answers as a plain function, and that the Go code comes to exactly that (where the plain function gives an answer). -/
set_option linter.unusedVariables false
set_option linter.unusedSimpArgs false
namespace Go.Proofs.YtkjeedijloobgaaDoor.Gx
open Go.Gx Go.RowKit
/-! ### slices.Delete[[]kaudit/api.DiskFile,kaudit/api.DiskFile]: by hand -/
def f_slices_Delete_api_DiskFile_api_DiskFile (z0 : List api_DiskFile) (z1 z2 : Int) : Option (List api_DiskFile) := ck (0 ≤ z1 ∧ z1 < z2 ∧ z2 ≤ z0.length) <| some (z0.take z1.toNat ++ z0.drop z2.toNat)
set_option maxHeartbeats 4000000 in
set_option maxRecDepth 100000 in
theorem C58 (z0 : List api_DiskFile) (z1 z2 : Int) (p : Option Addr) (m c : Nat) (r : List api_DiskFile) (h : f_slices_Delete_api_DiskFile_api_DiskFile z0 z1 z2 = some r) : FunG Tryd.prog 58 #[.slice p m c, .int .i64 z1, .int .i64 z2] [] [[row 34 k_api_DiskFile z0 (.slice p m c)]] (fun t : Option Addr × Nat × Nat => .slice t.1 t.2.1 t.2.2) (fun _ => []) (fun t => [[row 34 k_api_DiskFile r (.slice t.1 t.2.1 t.2.2)]]) := by
  unfold f_slices_Delete_api_DiskFile_api_DiskFile at h
  obtain ⟨h1, h⟩ := ck_out h
  obtain rfl := Option.some.inj h
  obtain ⟨i, rfl⟩ := Int.eq_ofNat_of_zero_le h1.1
  obtain ⟨j, rfl⟩ := Int.eq_ofNat_of_zero_le (show 0 ≤ z2 by omega)
  obtain ⟨X, D, Y, rfl, rfl, hj⟩ : ∃ X D Y, z0 = X ++ (D ++ Y) ∧ X.length = i ∧ X.length + D.length = j := ⟨z0.take i, (z0.drop i).take (j - i), (z0.drop i).drop (j - i), by rw [List.take_append_drop, List.take_append_drop], by rw [List.length_take]; omega, by rw [List.length_take, List.length_take, List.length_drop]; omega⟩
  have hd : 0 < D.length := by omega
  subst hj
  have hl3 : (X ++ (D ++ Y)).length = X.length + (D.length + Y.length) := by simp only [List.length_append]
  have hr : (X ++ (D ++ Y)).take (X.length : Int).toNat ++ (X ++ (D ++ Y)).drop ((X.length + D.length : Nat) : Int).toNat = X ++ Y := by
    rw [Int.toNat_natCast, Int.toNat_natCast, List.take_left' rfl, ← List.append_assoc, List.drop_left' (by rw [List.length_append])]
  rw [hr]
  refine t_begin (args := [.slice p m c, .int .i64 (X.length : Int), .int .i64 ((X.length + D.length : Nat) : Int)]) Tryd.func58 rfl Tryd.ntmps58 rfl fun cx R hR => ?_
  refine t_opnO e0 (fun e => by have := congrArg List.length e; rw [hl3] at this; simp only [List.length_nil] at this; omega) fun g pre el post ep em hlel hone hmk hp hk => ?_
  subst ep em
  refine t_eloS e1 fun c1 c23 hel l1' l23' => ?_
  subst hel
  refine t_eloS e1 fun cd c2 hel ld' l2' => ?_
  subst hel
  have l1 : c1.length = X.length * 3 := l1'
  have ld : cd.length = D.length * 3 := ld'
  have l2 : c2.length = Y.length * 3 := l2'
  have hp : (c - (X ++ (D ++ Y)).length) * 3 ≤ post.length := hp
  have hone2 : ∀ v ∈ c2, v.oneCell' = true := fun v hv => hone v (List.mem_append_right _ (List.mem_append_right _ hv))
  rw [hl3] at hp hmk
  refine t_seq fun K1 hK1 => ?_
  refine t_region ?_
  refine c_p (r_as rfl) rfl ?_
  refine t_nil ?_
  refine t_then hK1 ?_
  refine t_seq fun K2 hK2 => ?_
  refine t_region ?_
  refine c_p (r_mv rfl) rfl ?_
  refine c_p (r_mv rfl) rfl ?_
  refine c_p (r_mv rfl) rfl ?_
  refine c_p (r_mv rfl) rfl ?_
  refine c_p (r_ln0 Tryd.underlying25 rfl) rfl ?_
  refine c_p (r_cut3 (i := X.length) (j := X.length + D.length) Tryd.underlying25 ti34 rfl rfl rfl rfl (by omega) (by rw [hl3]; omega) (by rw [hl3]; omega)) rfl ?_
  refine t_nil ?_
  refine t_then hK2 ?_
  refine t_seq fun K3 hK3 => ?_
  refine t_seq fun K4 hK4 => ?_
  refine t_region ?_
  refine c_p (r_mv rfl) rfl ?_
  refine c_p (r_mv rfl) rfl ?_
  refine c_p (r_i rfl rfl rfl) rfl ?_
  refine t_nil ?_
  refine t_then hK4 ?_
  refine t_F rfl (by simp only [beq_eq_false_iff_ne]; omega) ?_
  refine t_skip ?_
  refine t_then hK3 ?_
  refine t_seq fun K5 hK5 => ?_
  refine t_region ?_
  refine c_p (r_mv rfl) rfl ?_
  refine c_p (r_ln0 Tryd.underlying25 rfl) rfl ?_
  refine c_p (r_as rfl) rfl ?_
  refine t_nil ?_
  refine t_then hK5 ?_
  refine t_seq fun K6 hK6 => ?_
  have key : ∃ pre' post', pre ++ (c1 ++ (cd ++ c2)) ++ post = pre' ++ c2 ++ post' ∧ pre'.length = (if c = X.length + D.length then pre.length else pre.length + (X.length + D.length) * 3) := by
    by_cases hc : c = X.length + D.length
    · have : c2 = [] := List.eq_nil_of_length_eq_zero (by rw [l2]; have : Y.length = 0 := by omega
                                                          rw [this])
      subst this
      exact ⟨pre, c1 ++ cd ++ post, by simp, by rw [if_pos hc]⟩
    · exact ⟨pre ++ c1 ++ cd, post, by simp only [List.append_assoc], by rw [if_neg hc, List.length_append, List.length_append, l1, ld]; omega⟩
  obtain ⟨pre', post', hsplit, hlen⟩ := key
  have tl : pre ++ (c1 ++ (cd ++ c2)) ++ post = (pre ++ c1) ++ (cd ++ c2 ++ post).take c2.length ++ (cd ++ c2 ++ post).drop c2.length := by
    rw [List.append_assoc (pre ++ c1), List.take_append_drop]; simp only [List.append_assoc]
  refine t_draw mixed (fun _ => True) [] [6] rfl ?_
  refine q_p 0 (panic_then panic_body) rfl (by kernel_rfl) W0 (r_mv rfl) rfl ?_
  refine q_p 1 (panic_then panic_body) rfl (by kernel_rfl) W0 (r_mv rfl) rfl ?_
  refine q_p 2 (panic_then panic_body) rfl (by kernel_rfl) W0 (r_cutE (i := 0) (j := (X.length : Int)) Tryd.underlying25 ti34 rfl (.inl ⟨rfl, rfl⟩) (.inr ⟨_, _, rfl, rfl⟩) 0 X.length (o2 := pre.length) (m2 := X.length) (k2 := c) rfl rfl (by omega) (by omega) (by omega) (by omega) (by omega) (by omega)) rfl ?_
  refine q_p 3 (panic_then panic_body) rfl (by kernel_rfl) W0 (r_mv rfl) rfl ?_
  refine q_p 4 (panic_then panic_body) rfl (by kernel_rfl) W0 (r_mv rfl) rfl ?_
  refine q_p 5 (panic_then panic_body) rfl (by kernel_rfl) W0 (r_cutG (j := X.length + D.length) Tryd.underlying25 ti34 rfl rfl (by rw [hl3]; omega) (by rw [hl3]; omega)) rfl ?_
  refine d1 6 rfl (by kernel_rfl) (by kernel_rfl) ?_
  refine t_api (cs' := (pre ++ c1) ++ c2 ++ (cd ++ c2 ++ post).drop c2.length) (el := c2) (pre := pre') (post := post') u3 a3 rfl rfl Tryd.underlying25 Tryd.underlying25 ti34 hsplit hlen (by rw [l2, hl3]; congr 1; omega) hone2 (by rw [hl3]; omega) (by simp only [List.length_append]; omega) (over_at (b := (cd ++ c2 ++ post).take c2.length) tl (by rw [List.length_append, l1]) (by rw [List.length_take, List.length_append, List.length_append]; omega)) rfl ?_
  refine dn (by kernel_rfl) ?_
  refine q_p 7 (panic_then panic_body) rfl (by kernel_rfl) W0 (r_as rfl) rfl ?_
  refine dz (by kernel_rfl) ?_
  refine t_then hK6 ?_
  refine t_seq fun K7 hK7 => ?_
  refine t_region ?_
  refine c_p (r_mv rfl) rfl ?_
  refine c_p (r_mv rfl) rfl ?_
  refine c_p (r_ln0 Tryd.underlying25 rfl) rfl ?_
  refine c_p (r_mv rfl) rfl ?_
  have hyl : (X ++ (D ++ Y)).length - (X.length + D.length) = Y.length := by rw [hl3]; omega
  refine c_p (r_cutE (i := ((X.length + ((X ++ (D ++ Y)).length - (X.length + D.length)) : Nat) : Int)) (j := ((X ++ (D ++ Y)).length : Int)) Tryd.underlying25 ti34 rfl (.inr ⟨_, _, rfl, rfl⟩) (.inr ⟨_, _, rfl, rfl⟩) (X.length + Y.length) (X ++ (D ++ Y)).length (o2 := pre.length + (X.length + Y.length) * 3) (m2 := D.length) (k2 := c - (X.length + Y.length)) (by rw [hyl]) rfl (by rw [hl3]; omega) (by rw [hl3]; omega) (by omega) rfl (by rw [hl3]; omega) rfl) rfl ?_
  have hpc : (pre ++ c1 ++ c2).length = pre.length + (X.length + Y.length) * 3 := by rw [List.length_append, List.length_append, l1, l2, Nat.add_mul]; omega
  refine nx (t_clr (fun _ => u3) rfl hd Tryd.underlying25 ti34 rfl (by decide) (by simp only [List.length_append, List.length_drop, l1, l2, ld]; rw [Nat.add_mul]; omega) fun zs hzs => ?_)
  refine t_nil ?_
  refine t_then hK7 ?_
  refine t_seq fun K8 hK8 => ?_
  refine t_region ?_
  refine c_p (r_mv rfl) rfl ?_
  refine c_p (r_as rfl) rfl ?_
  refine t_nil ?_
  refine t_then hK8 ?_
  refine t_ret ?_
  refine ret1 rfl (v_t rfl) ?_
  refine t_eloJ (.cons e2 (.cons e1 .nil)) ?_
  have ho2 : X.length + ((X ++ (D ++ Y)).length - (X.length + D.length)) = X.length + Y.length := by rw [hyl]
  refine t_shuO (Kd := k_api_DiskFile) (xs := X ++ Y) (pre := pre) (el := c1 ++ c2) (post := zs ++ ((pre ++ c1) ++ c2 ++ (cd ++ c2 ++ post).drop c2.length).drop (pre.length + (X.length + Y.length) * 3 + zs.length)) (k := c) (m := X.length + ((X ++ (D ++ Y)).length - (X.length + D.length))) (off := pre.length) (.cons e2 (.cons e0 .nil)) (by rw [List.take_left' hpc]; simp only [List.append_assoc]) rfl (by rw [ho2, List.length_append]) (by rw [ho2]; omega) ?_ hk ?_
  · show (c - (X.length + ((X ++ (D ++ Y)).length - (X.length + D.length)))) * 3 ≤ _
    rw [ho2, List.length_append, hzs, List.length_drop]
    simp only [List.length_append, List.length_drop, l1, l2, ld]
    have e1 : c - (X.length + Y.length) = (c - (X.length + (D.length + Y.length))) + D.length := by omega
    rw [e1, Nat.add_mul, Nat.add_mul]
    omega
  · exact t_leave hR (some ⟨g, pre.length, none⟩, X.length + ((X ++ (D ++ Y)).length - (X.length + D.length)), c) rfl (fun w Z hA => V0) (.cons e0 .nil)

set_option maxHeartbeats 4000000 in
set_option maxRecDepth 100000 in
theorem C58s (z0 : List api_DiskFile) (z1 z2 : Int) (p : Option Addr) (m c : Nat) (r : List api_DiskFile) (h : f_slices_Delete_api_DiskFile_api_DiskFile z0 z1 z2 = some r) : FunG Tryd.prog 58 #[.slice p m c, .int .i64 z1, .int .i64 z2] [] [[row 34 (kShare k_api_DiskFile) z0 (.slice p m c)]] (fun t : Option Addr × Nat × Nat => .slice t.1 t.2.1 t.2.2) (fun _ => []) (fun t => [[row 34 (kShare k_api_DiskFile) r (.slice t.1 t.2.1 t.2.2)]]) := by
  unfold f_slices_Delete_api_DiskFile_api_DiskFile at h
  obtain ⟨h1, h⟩ := ck_out h
  obtain rfl := Option.some.inj h
  obtain ⟨i, rfl⟩ := Int.eq_ofNat_of_zero_le h1.1
  obtain ⟨j, rfl⟩ := Int.eq_ofNat_of_zero_le (show 0 ≤ z2 by omega)
  obtain ⟨X, D, Y, rfl, rfl, hj⟩ : ∃ X D Y, z0 = X ++ (D ++ Y) ∧ X.length = i ∧ X.length + D.length = j := ⟨z0.take i, (z0.drop i).take (j - i), (z0.drop i).drop (j - i), by rw [List.take_append_drop, List.take_append_drop], by rw [List.length_take]; omega, by rw [List.length_take, List.length_take, List.length_drop]; omega⟩
  have hd : 0 < D.length := by omega
  subst hj
  have hl3 : (X ++ (D ++ Y)).length = X.length + (D.length + Y.length) := by simp only [List.length_append]
  have hr : (X ++ (D ++ Y)).take (X.length : Int).toNat ++ (X ++ (D ++ Y)).drop ((X.length + D.length : Nat) : Int).toNat = X ++ Y := by
    rw [Int.toNat_natCast, Int.toNat_natCast, List.take_left' rfl, ← List.append_assoc, List.drop_left' (by rw [List.length_append])]
  rw [hr]
  refine t_begin (args := [.slice p m c, .int .i64 (X.length : Int), .int .i64 ((X.length + D.length : Nat) : Int)]) Tryd.func58 rfl Tryd.ntmps58 rfl fun cx R hR => ?_
  refine t_opnO e0 (fun e => by have := congrArg List.length e; rw [hl3] at this; simp only [List.length_nil] at this; omega) fun g pre el post ep em hlel hone hmk hp hk => ?_
  subst ep em
  refine t_eloS e1 fun c1 c23 hel l1' l23' => ?_
  subst hel
  refine t_eloS e1 fun cd c2 hel ld' l2' => ?_
  subst hel
  have l1 : c1.length = X.length * 3 := l1'
  have ld : cd.length = D.length * 3 := ld'
  have l2 : c2.length = Y.length * 3 := l2'
  have hp : (c - (X ++ (D ++ Y)).length) * 3 ≤ post.length := hp
  have hone2 : ∀ v ∈ c2, v.oneCell' = true := fun v hv => hone v (List.mem_append_right _ (List.mem_append_right _ hv))
  rw [hl3] at hp hmk
  refine t_seq fun K1 hK1 => ?_
  refine t_region ?_
  refine c_p (r_as rfl) rfl ?_
  refine t_nil ?_
  refine t_then hK1 ?_
  refine t_seq fun K2 hK2 => ?_
  refine t_region ?_
  refine c_p (r_mv rfl) rfl ?_
  refine c_p (r_mv rfl) rfl ?_
  refine c_p (r_mv rfl) rfl ?_
  refine c_p (r_mv rfl) rfl ?_
  refine c_p (r_ln0 Tryd.underlying25 rfl) rfl ?_
  refine c_p (r_cut3 (i := X.length) (j := X.length + D.length) Tryd.underlying25 ti34 rfl rfl rfl rfl (by omega) (by rw [hl3]; omega) (by rw [hl3]; omega)) rfl ?_
  refine t_nil ?_
  refine t_then hK2 ?_
  refine t_seq fun K3 hK3 => ?_
  refine t_seq fun K4 hK4 => ?_
  refine t_region ?_
  refine c_p (r_mv rfl) rfl ?_
  refine c_p (r_mv rfl) rfl ?_
  refine c_p (r_i rfl rfl rfl) rfl ?_
  refine t_nil ?_
  refine t_then hK4 ?_
  refine t_F rfl (by simp only [beq_eq_false_iff_ne]; omega) ?_
  refine t_skip ?_
  refine t_then hK3 ?_
  refine t_seq fun K5 hK5 => ?_
  refine t_region ?_
  refine c_p (r_mv rfl) rfl ?_
  refine c_p (r_ln0 Tryd.underlying25 rfl) rfl ?_
  refine c_p (r_as rfl) rfl ?_
  refine t_nil ?_
  refine t_then hK5 ?_
  refine t_seq fun K6 hK6 => ?_
  have key : ∃ pre' post', pre ++ (c1 ++ (cd ++ c2)) ++ post = pre' ++ c2 ++ post' ∧ pre'.length = (if c = X.length + D.length then pre.length else pre.length + (X.length + D.length) * 3) := by
    by_cases hc : c = X.length + D.length
    · have : c2 = [] := List.eq_nil_of_length_eq_zero (by rw [l2]; have : Y.length = 0 := by omega
                                                          rw [this])
      subst this
      exact ⟨pre, c1 ++ cd ++ post, by simp, by rw [if_pos hc]⟩
    · exact ⟨pre ++ c1 ++ cd, post, by simp only [List.append_assoc], by rw [if_neg hc, List.length_append, List.length_append, l1, ld]; omega⟩
  obtain ⟨pre', post', hsplit, hlen⟩ := key
  have tl : pre ++ (c1 ++ (cd ++ c2)) ++ post = (pre ++ c1) ++ (cd ++ c2 ++ post).take c2.length ++ (cd ++ c2 ++ post).drop c2.length := by
    rw [List.append_assoc (pre ++ c1), List.take_append_drop]; simp only [List.append_assoc]
  refine t_draw mixed (fun _ => True) [] [6] rfl ?_
  refine q_p 0 (panic_then panic_body) rfl (by kernel_rfl) W0 (r_mv rfl) rfl ?_
  refine q_p 1 (panic_then panic_body) rfl (by kernel_rfl) W0 (r_mv rfl) rfl ?_
  refine q_p 2 (panic_then panic_body) rfl (by kernel_rfl) W0 (r_cutE (i := 0) (j := (X.length : Int)) Tryd.underlying25 ti34 rfl (.inl ⟨rfl, rfl⟩) (.inr ⟨_, _, rfl, rfl⟩) 0 X.length (o2 := pre.length) (m2 := X.length) (k2 := c) rfl rfl (by omega) (by omega) (by omega) (by omega) (by omega) (by omega)) rfl ?_
  refine q_p 3 (panic_then panic_body) rfl (by kernel_rfl) W0 (r_mv rfl) rfl ?_
  refine q_p 4 (panic_then panic_body) rfl (by kernel_rfl) W0 (r_mv rfl) rfl ?_
  refine q_p 5 (panic_then panic_body) rfl (by kernel_rfl) W0 (r_cutG (j := X.length + D.length) Tryd.underlying25 ti34 rfl rfl (by rw [hl3]; omega) (by rw [hl3]; omega)) rfl ?_
  refine d1 6 rfl (by kernel_rfl) (by kernel_rfl) ?_
  refine t_api (cs' := (pre ++ c1) ++ c2 ++ (cd ++ c2 ++ post).drop c2.length) (el := c2) (pre := pre') (post := post') u3 a3 rfl rfl Tryd.underlying25 Tryd.underlying25 ti34 hsplit hlen (by rw [l2, hl3]; congr 1; omega) hone2 (by rw [hl3]; omega) (by simp only [List.length_append]; omega) (over_at (b := (cd ++ c2 ++ post).take c2.length) tl (by rw [List.length_append, l1]) (by rw [List.length_take, List.length_append, List.length_append]; omega)) rfl ?_
  refine dn (by kernel_rfl) ?_
  refine q_p 7 (panic_then panic_body) rfl (by kernel_rfl) W0 (r_as rfl) rfl ?_
  refine dz (by kernel_rfl) ?_
  refine t_then hK6 ?_
  refine t_seq fun K7 hK7 => ?_
  refine t_region ?_
  refine c_p (r_mv rfl) rfl ?_
  refine c_p (r_mv rfl) rfl ?_
  refine c_p (r_ln0 Tryd.underlying25 rfl) rfl ?_
  refine c_p (r_mv rfl) rfl ?_
  have hyl : (X ++ (D ++ Y)).length - (X.length + D.length) = Y.length := by rw [hl3]; omega
  refine c_p (r_cutE (i := ((X.length + ((X ++ (D ++ Y)).length - (X.length + D.length)) : Nat) : Int)) (j := ((X ++ (D ++ Y)).length : Int)) Tryd.underlying25 ti34 rfl (.inr ⟨_, _, rfl, rfl⟩) (.inr ⟨_, _, rfl, rfl⟩) (X.length + Y.length) (X ++ (D ++ Y)).length (o2 := pre.length + (X.length + Y.length) * 3) (m2 := D.length) (k2 := c - (X.length + Y.length)) (by rw [hyl]) rfl (by rw [hl3]; omega) (by rw [hl3]; omega) (by omega) rfl (by rw [hl3]; omega) rfl) rfl ?_
  have hpc : (pre ++ c1 ++ c2).length = pre.length + (X.length + Y.length) * 3 := by rw [List.length_append, List.length_append, l1, l2, Nat.add_mul]; omega
  refine nx (t_clr (fun _ => u3) rfl hd Tryd.underlying25 ti34 rfl (by decide) (by simp only [List.length_append, List.length_drop, l1, l2, ld]; rw [Nat.add_mul]; omega) fun zs hzs => ?_)
  refine t_nil ?_
  refine t_then hK7 ?_
  refine t_seq fun K8 hK8 => ?_
  refine t_region ?_
  refine c_p (r_mv rfl) rfl ?_
  refine c_p (r_as rfl) rfl ?_
  refine t_nil ?_
  refine t_then hK8 ?_
  refine t_ret ?_
  refine ret1 rfl (v_t rfl) ?_
  refine t_eloJ (.cons e2 (.cons e1 .nil)) ?_
  have ho2 : X.length + ((X ++ (D ++ Y)).length - (X.length + D.length)) = X.length + Y.length := by rw [hyl]
  refine t_shuO (Kd := (kShare k_api_DiskFile)) (xs := X ++ Y) (pre := pre) (el := c1 ++ c2) (post := zs ++ ((pre ++ c1) ++ c2 ++ (cd ++ c2 ++ post).drop c2.length).drop (pre.length + (X.length + Y.length) * 3 + zs.length)) (k := c) (m := X.length + ((X ++ (D ++ Y)).length - (X.length + D.length))) (off := pre.length) (.cons e2 (.cons e0 .nil)) (by rw [List.take_left' hpc]; simp only [List.append_assoc]) rfl (by rw [ho2, List.length_append]) (by rw [ho2]; omega) ?_ hk ?_
  · show (c - (X.length + ((X ++ (D ++ Y)).length - (X.length + D.length)))) * 3 ≤ _
    rw [ho2, List.length_append, hzs, List.length_drop]
    simp only [List.length_append, List.length_drop, l1, l2, ld]
    have e1 : c - (X.length + Y.length) = (c - (X.length + (D.length + Y.length))) + D.length := by omega
    rw [e1, Nat.add_mul, Nat.add_mul]
    omega
  · exact t_leave hR (some ⟨g, pre.length, none⟩, X.length + ((X ++ (D ++ Y)).length - (X.length + D.length)), c) rfl (fun w Z hA => V0) (.cons e0 .nil)

end Go.Proofs.YtkjeedijloobgaaDoor.Gx

/- The simulated disk: the changes of its list of files, as plain laws. -/
set_option linter.unusedVariables false
namespace Go.Proofs.YtkjeedijloobgaaDoor.Gx
open Go.Gx Go.RowKit
/-- A file comes to its place; it replaces one with its name. -/
def plc : List api_DiskFile → api_DiskFile → List api_DiskFile
  | [], x => [x]
  | g :: l, x => if Op.bytesLess g.Name.toList x.Name.toList = true then g :: plc l x else if g.Name = x.Name then x :: l else x :: g :: l
theorem plc_cons (g x : api_DiskFile) (l : List api_DiskFile) : plc (g :: l) x = if Op.bytesLess g.Name.toList x.Name.toList = true then g :: plc l x else if g.Name = x.Name then x :: l else x :: g :: l := rfl
def upd (l : List api_DiskFile) (nm : ByteArray) (g : api_DiskFile → api_DiskFile) : List api_DiskFile := l.map fun f => if f.Name = nm then g f else f
def del (l : List api_DiskFile) (nm : ByteArray) : List api_DiskFile := l.filter fun f => decide (f.Name ≠ nm)
theorem sortedN_cons {g : api_DiskFile} {l : List api_DiskFile} : SortedN (g :: l) ↔ (∀ f ∈ l, Op.bytesLess g.Name.toList f.Name.toList = true) ∧ SortedN l := by
  unfold SortedN
  rw [List.map_cons, List.pairwise_cons]
  simp
theorem plc_mem {x : api_DiskFile} : ∀ {l : List api_DiskFile}, SortedN l → ∀ g, g ∈ plc l x ↔ g = x ∨ (g ∈ l ∧ g.Name ≠ x.Name)
  | [], _, g => by simp [plc]
  | h :: l, hs, g => by
    obtain ⟨h1, h2⟩ := sortedN_cons.1 hs
    unfold plc
    have ih := plc_mem (x := x) h2 g
    by_cases hb : Op.bytesLess h.Name.toList x.Name.toList = true
    · rw [if_pos hb]
      simp only [List.mem_cons, ih]
      constructor
      · rintro (rfl | rfl | ⟨k, n⟩)
        · exact .inr ⟨.inl rfl, fun e => bl_ne hb (by rw [e])⟩
        · exact .inl rfl
        · exact .inr ⟨.inr k, n⟩
      · rintro (rfl | ⟨rfl | k, n⟩)
        · exact .inr (.inl rfl)
        · exact .inl rfl
        · exact .inr (.inr ⟨k, n⟩)
    · rw [if_neg hb]
      have hl : ∀ f ∈ l, f.Name ≠ x.Name ∨ h.Name = x.Name ∨ True := fun _ _ => .inr (.inr trivial)
      by_cases e : h.Name = x.Name
      · rw [if_pos e]
        have hne : ∀ f ∈ l, f.Name ≠ x.Name := fun f hf e' => bl_ne (h1 f hf) (by rw [e, e'])
        simp only [List.mem_cons]
        constructor
        · rintro (rfl | k)
          · exact .inl rfl
          · exact .inr ⟨.inr k, hne g k⟩
        · rintro (rfl | ⟨rfl | k, n⟩)
          · exact .inl rfl
          · exact absurd e n
          · exact .inr k
      · rw [if_neg e]
        have hlt : Op.bytesLess x.Name.toList h.Name.toList = true := bl_tot (by simpa using hb) (fun k => e (bext k))
        have hne : ∀ f ∈ l, f.Name ≠ x.Name := fun f hf e' => bl_ne (bl_trans hlt (h1 f hf)) (by rw [e'])
        simp only [List.mem_cons]
        constructor
        · rintro (rfl | rfl | k)
          · exact .inl rfl
          · exact .inr ⟨.inl rfl, e⟩
          · exact .inr ⟨.inr k, hne g k⟩
        · rintro (rfl | ⟨rfl | k, n⟩)
          · exact .inl rfl
          · exact .inr (.inl rfl)
          · exact .inr (.inr k)
theorem plc_sorted {x : api_DiskFile} : ∀ {l : List api_DiskFile}, SortedN l → SortedN (plc l x)
  | [], _ => by simp [plc, SortedN]
  | h :: l, hs => by
    obtain ⟨h1, h2⟩ := sortedN_cons.1 hs
    unfold plc
    by_cases hb : Op.bytesLess h.Name.toList x.Name.toList = true
    · rw [if_pos hb, sortedN_cons]
      refine ⟨fun f hf => ?_, plc_sorted h2⟩
      rcases (plc_mem h2 f).1 hf with rfl | ⟨k, _⟩
      · exact hb
      · exact h1 f k
    · rw [if_neg hb]
      by_cases e : h.Name = x.Name
      · rw [if_pos e, sortedN_cons]
        exact ⟨fun f hf => by rw [← e]; exact h1 f hf, h2⟩
      · rw [if_neg e, sortedN_cons]
        have hlt : Op.bytesLess x.Name.toList h.Name.toList = true := bl_tot (by simpa using hb) (fun k => e (bext k))
        refine ⟨fun f hf => ?_, hs⟩
        rcases List.mem_cons.1 hf with rfl | hf
        · exact hlt
        · exact bl_trans hlt (h1 f hf)
theorem usedL_cons (g : api_DiskFile) (l : List api_DiskFile) : usedL (g :: l) = g.Data.length + usedL l := by simp [usedL]
theorem plc_used (x : api_DiskFile) : ∀ l : List api_DiskFile, usedL (plc l x) ≤ usedL l + x.Data.length
  | [] => by simp [plc, usedL]
  | h :: l => by
    have := plc_used x l
    unfold plc
    split
    · simp only [usedL_cons]; omega
    · split <;> simp only [usedL_cons] <;> omega
theorem plc_len (x : api_DiskFile) : ∀ l : List api_DiskFile, (plc l x).length ≤ l.length + 1
  | [] => by simp [plc]
  | h :: l => by
    have := plc_len x l
    unfold plc
    split
    · simp only [List.length_cons]; omega
    · split <;> simp only [List.length_cons] <;> omega
theorem upd_sorted {l : List api_DiskFile} {nm : ByteArray} {g : api_DiskFile → api_DiskFile} (hg : ∀ f, (g f).Name = f.Name) (h : SortedN l) : SortedN (upd l nm g) := by
  unfold SortedN upd at *
  rw [List.map_map]
  have e : ((fun f : api_DiskFile => f.Name.toList) ∘ fun f => if f.Name = nm then g f else f) = fun f => f.Name.toList := by
    funext f
    simp only [Function.comp]
    split
    · rw [hg]
    · rfl
  rw [e]; exact h
theorem upd_mem {l : List api_DiskFile} {nm : ByteArray} {g : api_DiskFile → api_DiskFile} {f : api_DiskFile} (h : f ∈ upd l nm g) : (∃ f' ∈ l, f'.Name = nm ∧ f = g f') ∨ (f ∈ l ∧ f.Name ≠ nm) := by
  unfold upd at h
  obtain ⟨f', hf, e⟩ := List.mem_map.1 h
  by_cases hn : f'.Name = nm
  · rw [if_pos hn] at e; exact .inl ⟨f', hf, hn, e.symm⟩
  · rw [if_neg hn] at e; subst e; exact .inr ⟨hf, hn⟩
theorem mem_upd {l : List api_DiskFile} {nm : ByteArray} {g : api_DiskFile → api_DiskFile} {f : api_DiskFile} (h : f ∈ l) (hn : f.Name ≠ nm) : f ∈ upd l nm g :=
  List.mem_map.2 ⟨f, h, if_neg hn⟩
theorem mem_upd' {l : List api_DiskFile} {nm : ByteArray} {g : api_DiskFile → api_DiskFile} {f : api_DiskFile} (h : f ∈ l) (hn : f.Name = nm) : g f ∈ upd l nm g :=
  List.mem_map.2 ⟨f, h, if_pos hn⟩
theorem set_upd {l : List api_DiskFile} (hs : SortedN l) {j : Nat} {f : api_DiskFile} (h : l[j]? = some f) {nm : ByteArray} (hn : f.Name = nm) (g : api_DiskFile → api_DiskFile) : l.set j (g f) = upd l nm g := by
  apply List.ext_getElem?
  intro m
  unfold upd
  rw [List.getElem?_map, List.getElem?_set]
  have hj := (List.getElem?_eq_some_iff.1 h).1
  by_cases e : j = m
  · subst e
    rw [if_pos rfl, if_pos hj, h]
    simp [hn]
  · rw [if_neg e]
    cases hm : l[m]? with
    | none => rfl
    | some f' =>
      have : f'.Name ≠ nm := by
        rintro e'
        rcases Nat.lt_or_gt_of_ne e with hlt | hlt
        · exact bl_ne (sorted_get hs hlt h hm) (by rw [hn, e'])
        · exact bl_ne (sorted_get hs hlt hm h) (by rw [hn, e'])
      simp [this]
theorem del_at {l : List api_DiskFile} (hs : SortedN l) {j : Nat} {f : api_DiskFile} (h : l[j]? = some f) {nm : ByteArray} (hn : f.Name = nm) : l.take j ++ l.drop (j + 1) = del l nm := by
  have hj := (List.getElem?_eq_some_iff.1 h).1
  have e : l = l.take j ++ f :: l.drop (j + 1) := by
    have hf := (List.getElem?_eq_some_iff.1 h).2
    rw [← hf, List.getElem_cons_drop, List.take_append_drop]
  unfold del
  conv => rhs; rw [e]
  rw [List.filter_append, List.filter_cons_of_neg (by simp [hn])]
  congr 1
  · refine (List.filter_eq_self.2 fun f' hf' => ?_).symm
    obtain ⟨m, hm⟩ := List.mem_iff_getElem?.1 hf'
    have hmj : m < j := by
      have := (List.getElem?_eq_some_iff.1 hm).1
      rw [List.length_take] at this; omega
    rw [List.getElem?_take_of_lt hmj] at hm
    rw [decide_eq_true_eq]
    exact fun e' => bl_ne (sorted_get hs hmj hm h) (by rw [hn, e'])
  · refine (List.filter_eq_self.2 fun f' hf' => ?_).symm
    obtain ⟨m, hm⟩ := List.mem_iff_getElem?.1 hf'
    rw [List.getElem?_drop] at hm
    rw [decide_eq_true_eq]
    exact fun e' => bl_ne (sorted_get hs (show j < j + 1 + m by omega) h hm) (by rw [hn, e'])
theorem del_sorted {l : List api_DiskFile} (h : SortedN l) (nm : ByteArray) : SortedN (del l nm) := by
  unfold SortedN del at *
  exact h.sublist ((List.filter_sublist).map _)
theorem usedL_sub {l l' : List api_DiskFile} (h : l.Sublist l') : usedL l ≤ usedL l' := by
  induction h with
  | slnil => exact Nat.le_refl _
  | cons _ _ ih => rw [usedL_cons]; omega
  | cons_cons _ _ ih => rw [usedL_cons, usedL_cons]; omega
theorem del_used (l : List api_DiskFile) (nm : ByteArray) : usedL (del l nm) ≤ usedL l := usedL_sub List.filter_sublist
/-- Less by the one that is taken away. -/
theorem del_used' {l : List api_DiskFile} {f : api_DiskFile} (hf : f ∈ l) : usedL (del l f.Name) + f.Data.length ≤ usedL l := by
  induction l with
  | nil => cases hf
  | cons g l ih =>
    unfold del
    by_cases e : g.Name = f.Name
    · rw [List.filter_cons_of_neg (by simp [e])]
      have := del_used l f.Name
      unfold del at this
      rcases List.mem_cons.1 hf with rfl | hf
      · rw [usedL_cons]; omega
      · have := ih hf; unfold del at this; rw [usedL_cons]; omega
    · rw [List.filter_cons_of_pos (by simp [e]), usedL_cons, usedL_cons]
      rcases List.mem_cons.1 hf with rfl | hf
      · exact absurd rfl e
      · have := ih hf; unfold del at this; omega
theorem Insert_ok {l : List api_DiskFile} {i : Nat} (x : api_DiskFile) (hi : i ≤ l.length) (hl : l.length < 1000000) : f_slices_Insert_api_DiskFile_api_DiskFile l i [x] = some (l.take i ++ [x] ++ l.drop i) := by
  unfold f_slices_Insert_api_DiskFile_api_DiskFile
  exact ck_of ⟨by omega, by omega⟩ (ck_of (fits_of (by simp; omega)) rfl)
theorem Delete_ok {l : List api_DiskFile} {i : Nat} (hi : i < l.length) (hl : l.length < 1000000) : f_slices_Delete_api_DiskFile_api_DiskFile l i (IntKind.wrap .i64 ((i : Int) + 1)) = some (l.take i ++ l.drop (i + 1)) := by
  unfold f_slices_Delete_api_DiskFile_api_DiskFile
  rw [wrap_up (by omega)]
  exact ck_of ⟨by omega, by omega, by omega⟩ rfl
end Go.Proofs.YtkjeedijloobgaaDoor.Gx

/- Function 39, kaudit/disk.Create$1: what it answers as a plain function, and that the Go code comes to exactly that (where the plain function gives an answer). -/
set_option linter.unusedVariables false
set_option linter.unusedSimpArgs false
namespace Go.Proofs.YtkjeedijloobgaaDoor.Gx
open Go.Gx Go.RowKit
/-! ### kaudit/disk.Create$1: function 39 -/
def f_disk_Create_1 (z0 : api_Disk) (z1 : Int) : Option (Int) := if (decide ((z0.Files.length : Int) ≥ 24)) = true then (some 247) else (some 0)
set_option maxHeartbeats 4000000 in
set_option maxRecDepth 100000 in
theorem C39 (z0 : api_Disk) (z1 : Int) (p1 : Option Addr) (m2 : Nat) (c3 : Nat) (r : Int) (h : f_disk_Create_1 z0 z1 = some r) : FunG Tryd.prog 39 #[.agg #[.int .i64 z0.Room, .slice p1 m2 c3, .bool z0.Off, .int .i64 z0.Plan], .int .i64 z1] [vw (kSlice 34 k_api_DiskFile) z0.Files [.slice p1 m2 c3], g_names] [] (fun (_ : Unit) => .int .i64 r) (fun _ => []) (fun _ => []) := by
  unfold f_disk_Create_1 at h
  refine t_begin (args := [.agg #[.int .i64 z0.Room, .slice p1 m2 c3, .bool z0.Off, .int .i64 z0.Plan], .int .i64 z1]) Tryd.func39 rfl Tryd.ntmps39 rfl fun c R hR => ?_
  have hQ : ∀ X, X = r → ∀ w2 (_ : Unit), PostG c.w0 w2 c.M c.Y [] [] → R (.returned (.int .i64 X)) w2 := fun X e => by subst e; exact hR
  refine t_seq fun K4 hK5 => ?_
  refine t_region ?_
  refine nx (t_bx (cs := [.int .i64 z0.Room, .slice p1 m2 c3, .bool z0.Off, .int .i64 z0.Plan]) rfl rfl rfl fun g6 => ?_)
  refine c_p (r_as rfl) rfl ?_
  refine t_nil ?_
  refine t_then hK5 ?_
  refine t_seq fun K7 hK8 => ?_
  refine t_seq fun K9 hK10 => ?_
  refine t_region ?_
  refine c_p (r_fa (off' := 1) Tryd.underlying27 rfl ti25 rfl rfl) rfl ?_
  refine c_s (r_ld a0 Tryd.underlying25 rfl rfl rfl) rfl ?_
  refine c_s (r_lnA a0 Tryd.underlying25 rfl) rfl ?_
  refine c_p (r_i rfl rfl rfl) rfl ?_
  refine t_nil ?_
  refine t_then hK10 ?_
  rcases Bool.eq_false_or_eq_true (decide ((z0.Files.length : Int) ≥ 24)) with hb11 | hb11
  · replace h := itT hb11 h
    refine t_T rfl hb11 ?_
    refine t_seq fun K12 hK13 => ?_
    refine t_region ?_
    refine c_p (r_as rfl) rfl ?_
    refine t_nil ?_
    refine t_then hK13 ?_
    refine t_ret ?_
    exact tr (ret1 rfl (v_t rfl) (t_leave (hQ _ (Option.some.inj h)) () rfl (fun w Z hA => V0) .nil))
  · replace h := itF hb11 h
    refine t_F rfl hb11 ?_
    refine t_skip ?_
    refine t_then hK8 ?_
    refine t_seq fun K14 hK15 => ?_
    refine t_region ?_
    refine c_p (r_as rfl) rfl ?_
    refine t_nil ?_
    refine t_then hK15 ?_
    refine t_ret ?_
    exact ret1 rfl (v_t rfl) (t_leave (hQ _ (Option.some.inj h)) () rfl (fun w Z hA => V0) .nil)
end Go.Proofs.YtkjeedijloobgaaDoor.Gx

/- Function 43, kaudit/disk.nothing: what it answers as a plain function, and that the Go code comes to exactly that (where the plain function gives an answer). -/
set_option linter.unusedVariables false
set_option linter.unusedSimpArgs false
namespace Go.Proofs.YtkjeedijloobgaaDoor.Gx
open Go.Gx Go.RowKit
/-! ### kaudit/disk.nothing: function 43 -/
def f_disk_nothing (z0 : api_Disk) (z1 : Int) : Option (Unit) := some ()
set_option maxHeartbeats 4000000 in
set_option maxRecDepth 100000 in
theorem C43 (z0 : api_Disk) (z1 : Int) (g_ : Nat) (p1 : Option Addr) (m2 : Nat) (c3 : Nat) (r : Unit) (h : f_disk_nothing z0 z1 = some r) : FunG Tryd.prog 43 #[.pointer (some ⟨g_, 0, none⟩), .int .i64 z1] [vw (kSlice 34 k_api_DiskFile) z0.Files [.slice p1 m2 c3], g_names] [[blk g_ [.int .i64 z0.Room, .slice p1 m2 c3, .bool z0.Off, .int .i64 z0.Plan] 27]] (fun (_ : Unit) => .tuple #[]) (fun _ => []) (fun _ => [[blk g_ [.int .i64 z0.Room, .slice p1 m2 c3, .bool z0.Off, .int .i64 z0.Plan] 27]]) := by
  unfold f_disk_nothing at h
  refine t_begin (args := [.pointer (some ⟨g_, 0, none⟩), .int .i64 z1]) Tryd.func43 rfl Tryd.ntmps43 rfl fun c R hR => ?_
  have hQ : ∀ X, X = r → ∀ w2 (_ : Unit), PostG c.w0 w2 c.M c.Y [] [[blk g_ [.int .i64 z0.Room, .slice p1 m2 c3, .bool z0.Off, .int .i64 z0.Plan] 27]] → R (.returned (.tuple #[])) w2 := fun X e => by subst e; exact hR
  refine t_skip ?_
  exact end0 rfl  (t_leave (hQ _ (Option.some.inj h)) () rfl (fun w Z hA => V0) (.cons e0 .nil))
end Go.Proofs.YtkjeedijloobgaaDoor.Gx

/- Function 15, kaudit/disk.Create: what it answers as a plain function, and that the Go code comes to exactly that (where the plain function gives an answer). -/
set_option linter.unusedVariables false
set_option linter.unusedSimpArgs false
namespace Go.Proofs.YtkjeedijloobgaaDoor.Gx
open Go.Gx Go.RowKit
/-! ### kaudit/disk.Create: function 15 -/
def f_disk_Create_j9 (x289 : Int) (x293 : List api_DiskFile) (x294 : Bool) (x295 : Int) (x296 : Int) : Option (api_Disk × Int) := some ((⟨x289, x293, x294, x295⟩ : api_Disk), x296)
def f_disk_Create_j8 (y151 : api_Disk) (x172 : Int) (x280 : List api_DiskFile) : Option (api_Disk × Int) := f_disk_Create_j9 y151.Room x280 y151.Off x172 0
def f_disk_Create_j7 (y151 : api_Disk) (x172 : Int) (x274 : List api_DiskFile) : Option (api_Disk × Int) := f_disk_Create_j8 y151 x172 x274
def f_disk_Create_j6 (z1 : ByteArray) (y151 : api_Disk) (x172 : Int) (x240 : Int) : Option (api_Disk × Int) := (f_slices_Insert_api_DiskFile_api_DiskFile y151.Files x240 [(⟨z1, ([] : List Int), 0⟩ : api_DiskFile)]).bind fun y268 => f_disk_Create_j7 y151 x172 y268
def f_disk_Create_j5 (z1 : ByteArray) (y151 : api_Disk) (x172 : Int) (x240 : Int) : Option (api_Disk × Int) := if (decide (x240 < (y151.Files.length : Int))) = true then ((at_ y151.Files x240).bind fun el251 => if (el251.Name.toList == z1.toList) = true then (f_disk_Create_j7 y151 x172 (y151.Files.set x240.toNat (⟨z1, ([] : List Int), 0⟩ : api_DiskFile))) else (f_disk_Create_j6 z1 y151 x172 x240)) else (f_disk_Create_j6 z1 y151 x172 x240)
def f_disk_Create_l2 (z1 : ByteArray) (y151 : api_Disk) (x172 : Int) : Nat → Int → Option (api_Disk × Int)
  | 0, _ => none
  | k225 + 1, x222 => if (decide (x222 < (y151.Files.length : Int))) = true then ((at_ y151.Files x222).bind fun el235 => if (Op.bytesLess el235.Name.toList z1.toList) = true then (f_disk_Create_l2 z1 y151 x172 k225 (IntKind.wrap .i64 (x222 + 1))) else (f_disk_Create_j5 z1 y151 x172 x222)) else (f_disk_Create_j5 z1 y151 x172 x222)
def f_disk_Create_j4 (z1 : ByteArray) (y151 : api_Disk) (x172 : Int) : Option (api_Disk × Int) := f_disk_Create_l2 z1 y151 x172 ((((y151.Files.length : Int) : Int) - (0)).toNat + 1) 0
def f_disk_Create_j3 (z0 : api_Disk) (z1 : ByteArray) (y122 : Int) : Option (api_Disk × Int) := (f_disk_Create_1 z0 y122).bind fun y142 => if (y142 != 0) = true then (f_disk_Create_j9 0 ([] : List api_DiskFile) false 0 y142) else ((f_fresh_Disk z0).bind fun y151 => if (decide (y151.Plan > 0)) = true then (if ((IntKind.wrap .i64 (y151.Plan - 1)) == 0) = true then ((f_disk_nothing (⟨y151.Room, y151.Files, true, (IntKind.wrap .i64 (y151.Plan - 1))⟩ : api_Disk) y122).bind fun y168 => f_disk_Create_j9 y151.Room y151.Files true (IntKind.wrap .i64 (y151.Plan - 1)) 242) else (f_disk_Create_j4 z1 y151 (IntKind.wrap .i64 (y151.Plan - 1)))) else (f_disk_Create_j4 z1 y151 y151.Plan))
def f_disk_Create_j2 (z0 : api_Disk) (z1 : ByteArray) (y122 : Int) : Option (api_Disk × Int) := if (decide (y122 ≥ 0)) = true then (f_disk_Create_j9 0 ([] : List api_DiskFile) false 0 245) else (f_disk_Create_j3 z0 z1 y122)
def f_disk_Create_j1 (z0 : api_Disk) (z1 : ByteArray) : Option (api_Disk × Int) := (f_disk_find z0 z1).bind fun y122 => if (decide (y122 < 0)) = true then (f_disk_Create_j2 z0 z1 y122) else (f_disk_Create_j2 z0 z1 y122)
def f_disk_Create_l1 (z0 : api_Disk) (z1 : ByteArray) : Nat → Int → Option (api_Disk × Int)
  | 0, _ => none
  | k95 + 1, x92 => if (decide (x92 < (([z1] ++ ([] : List ByteArray)).length : Int))) = true then ((at_ ([z1] ++ ([] : List ByteArray)) x92).bind fun el109 => (f_disk_isName el109).bind fun y113 => if y113 = true then (f_disk_Create_l1 z0 z1 k95 (IntKind.wrap .i64 (x92 + 1))) else (f_disk_Create_j9 0 ([] : List api_DiskFile) false 0 243)) else (f_disk_Create_j1 z0 z1)
def f_disk_Create (z0 : api_Disk) (z1 : ByteArray) : Option (api_Disk × Int) := (f_disk_Valid z0).bind fun y25 => if y25 = true then (if z0.Off = true then ((f_fresh_Disk z0).bind fun y37 => f_disk_Create_j9 y37.Room y37.Files y37.Off y37.Plan 242) else (ck (fits ([z1].length + ([] : List ByteArray).length) 16 = true) <| f_disk_Create_l1 z0 z1 ((((([z1] ++ ([] : List ByteArray)).length : Int) : Int) - (0)).toNat + 1) 0)) else (f_disk_Create_j9 0 ([] : List api_DiskFile) false 0 241)
set_option maxHeartbeats 4000000 in
set_option maxRecDepth 100000 in
theorem C15 (z0 : api_Disk) (z1 : ByteArray) (p1 : Option Addr) (m2 : Nat) (c3 : Nat) (r : api_Disk × Int) (h : f_disk_Create z0 z1 = some r) : FunG Tryd.prog 15 #[.agg #[.int .i64 z0.Room, .slice p1 m2 c3, .bool z0.Off, .int .i64 z0.Plan], .string z1] [vw (kSlice 34 k_api_DiskFile) z0.Files [.slice p1 m2 c3], g_names] [] (fun t : (Option Addr × Nat × Nat) => .tuple #[.agg #[.int .i64 r.1.Room, .slice t.1 t.2.1 t.2.2, .bool r.1.Off, .int .i64 r.1.Plan], .int .i64 r.2]) (fun t => []) (fun t => [[row 34 k_api_DiskFile r.1.Files (.slice t.1 t.2.1 t.2.2)]]) := by
  unfold f_disk_Create at h
  refine t_begin (args := [.agg #[.int .i64 z0.Room, .slice p1 m2 c3, .bool z0.Off, .int .i64 z0.Plan], .string z1]) Tryd.func15 rfl Tryd.ntmps15 rfl fun c R hR => ?_
  have hQ : ∀ X, X = r → ∀ w2 (t : (Option Addr × Nat × Nat)), PostG c.w0 w2 c.M c.Y [] [[row 34 k_api_DiskFile X.1.Files (.slice t.1 t.2.1 t.2.2)]] → R (.returned (.tuple #[.agg #[.int .i64 X.1.Room, .slice t.1 t.2.1 t.2.2, .bool X.1.Off, .int .i64 X.1.Plan], .int .i64 X.2])) w2 := fun X e => by subst e; exact hR
  refine t_seq fun K4 hK5 => ?_
  refine t_region ?_
  refine nx (t_bx (cs := [.int .i64 z0.Room, .slice p1 m2 c3, .bool z0.Off, .int .i64 z0.Plan]) rfl rfl rfl fun g6 => ?_)
  refine nx (t_bx (cs := [.string z1]) rfl rfl rfl fun g7 => ?_)
  refine nx (t_al (cs := [.int .i64 0, .slice none 0 0, .bool false, .int .i64 0]) ti27 rfl rfl fun g8 => ?_)
  refine c_p (r_as rfl) rfl ?_
  refine t_nil ?_
  refine t_then hK5 ?_
  refine t_seq fun K9 hK10 => ?_
  refine t_region ?_
  refine c_p (r_as rfl) rfl ?_
  refine t_nil ?_
  refine t_then hK10 ?_
  refine t_seq fun K11 hK12 => ?_
  refine t_region ?_
  refine c_s (r_ldA a2 Tryd.underlying27 rfl ti27 rfl rfl) rfl ?_
  refine c_s (r_ld a1 Tryd.underlying9 rfl rfl rfl) rfl ?_
  refine c_p (r_mv rfl) rfl ?_
  refine c_p (r_mf (vs := [.pointer (some ⟨g7, 0, none⟩)]) rfl) rfl ?_
  refine nx (t_in (args := [.agg #[.int .i64 z0.Room, .slice p1 m2 c3, .bool z0.Off, .int .i64 z0.Plan], .string z1, .slice none 0 0, .bool true, .func (.func 39) #[] #[], .func (.func 41) #[] #[.pointer (some ⟨g7, 0, none⟩)], .func (.func 43) #[] #[]]) (cap := []) (all := [.agg #[.int .i64 z0.Room, .slice p1 m2 c3, .bool z0.Off, .int .i64 z0.Plan], .string z1, .slice none 0 0, .bool true, .func (.func 39) #[] #[], .func (.func 41) #[] #[.pointer (some ⟨g7, 0, none⟩)], .func (.func 43) #[] #[]]) rfl rfl Tryd.func40 nm40 rfl rfl rfl Tryd.ntmps40 rfl fun R13 k14 hk15 hR16 => ?_)
  have J297 : ∀ (x289 : Int) (p290 : Option Addr) (m291 : Nat) (c292 : Nat) (x293 : List api_DiskFile) (x294 : Bool) (x295 : Int) (x296 : Int), f_disk_Create_j9 x289 x293 x294 x295 x296 = some r → T 14 c [g_names] [[blk g8 [.int .i64 0, .slice none 0 0, .bool false, .int .i64 0] 27], [row 34 k_api_DiskFile x293 (.slice p290 m291 c292)]] [(4, .pointer (some ⟨g8, 0, none⟩)), (5, .int .i64 0), (11, .tuple #[.agg #[.int .i64 x289, .slice p290 m291 c292, .bool x294, .int .i64 x295], .int .i64 x296])] k14 := by
    intro x289 p290 m291 c292 x293 x294 x295 x296 h298
    unfold f_disk_Create_j9 at h298
    refine ti hk15 ?_
    refine c_p (r_ex rfl rfl) rfl ?_
    refine c_p (r_ex rfl rfl) rfl ?_
    refine nx (t_st u0 ti27 rfl rfl rfl rfl rfl (.t (.s (.s (.s (.s .z))))) ?_)
    refine c_p (r_as rfl) rfl ?_
    refine t_nil ?_
    refine t_then hK12 ?_
    refine t_ret ?_
    exact ret2 rfl (v_N rfl a0 Tryd.underlying27 rfl ti27 rfl) (v_t rfl) (t_leave (hQ _ (Option.some.inj h298)) (p290, m291, c292) rfl (fun w Z hA => V0) (.cons e1 .nil))
  refine t_seq fun K17 hK18 => ?_
  refine t_region ?_
  refine nx (t_bx (cs := [.int .i64 z0.Room, .slice p1 m2 c3, .bool z0.Off, .int .i64 z0.Plan]) rfl rfl rfl fun g19 => ?_)
  refine nx (t_al (cs := [.int .i64 0, .slice none 0 0, .bool false, .int .i64 0]) ti27 rfl rfl fun g20 => ?_)
  refine c_p (r_as rfl) rfl ?_
  refine t_nil ?_
  refine t_then hK18 ?_
  refine t_seq fun K21 hK22 => ?_
  refine t_seq fun K23 hK24 => ?_
  refine t_region ?_
  refine c_s (r_ldA a1 Tryd.underlying27 rfl ti27 rfl rfl) rfl ?_
  obtain ⟨y25, hy25, h⟩ := bs h
  refine nx (t_ca (C10 _ _ _ _ _ hy25) Tryd.func10 nm10 rfl rfl rfl .nil (fun w Z hA => (V1 a0 hA (V1 a1 hA V0))) rfl fun t26 => ?_)
  refine c_p (r_not rfl) rfl ?_
  refine t_nil ?_
  refine t_then hK24 ?_
  rcases Bool.eq_false_or_eq_true y25 with hb27 | hb27
  · replace h := itT hb27 h
    refine t_F rfl (congrArg Bool.not hb27) ?_
    refine t_skip ?_
    refine t_then hK22 ?_
    refine t_seq fun K30 hK31 => ?_
    refine t_seq fun K32 hK33 => ?_
    refine t_region ?_
    refine c_p (r_fa (off' := 2) Tryd.underlying27 rfl ti4 rfl rfl) rfl ?_
    refine c_s (r_ld a1 Tryd.underlying4 rfl rfl rfl) rfl ?_
    refine t_nil ?_
    refine t_then hK33 ?_
    rcases Bool.eq_false_or_eq_true z0.Off with hb34 | hb34
    · replace h := itT hb34 h
      refine t_T rfl hb34 ?_
      refine t_seq fun K35 hK36 => ?_
      refine t_region ?_
      refine c_s (r_ldA a1 Tryd.underlying27 rfl ti27 rfl rfl) rfl ?_
      obtain ⟨y37, hy37, h⟩ := bs h
      refine nx (t_ca (C61 _ _ _ _ _ hy37) Tryd.func61 nm61 rfl rfl rfl .nil (fun w Z hA => (V1 a0 hA (V1 a1 hA V0))) rfl fun t38 => ?_)
      refine nx (t_st u1 ti27 rfl rfl rfl rfl rfl (.t (.s (.s (.s (.s .z))))) ?_)
      refine c_p (r_as rfl) rfl ?_
      refine t_nil ?_
      refine t_then hK36 ?_
      refine t_ret ?_
      refine tr (ret2 rfl (v_N rfl a1 Tryd.underlying27 rfl ti27 rfl) (v_t rfl) (t_bk hR16 ?_))
      exact t_go (J297 y37.Room t38.1 t38.2.1 t38.2.2 y37.Files y37.Off y37.Plan 242 h) ⟨rfl, rfl, rfl, trivial⟩ (.cons e3 (.cons e0 .nil)) (fun w Z hA => V1 a1 hA (V0))
    · replace h := itF hb34 h
      refine t_F rfl hb34 ?_
      refine t_skip ?_
      refine t_then hK31 ?_
      refine t_seq fun K39 hK40 => ?_
      have J118 : f_disk_Create_j1 z0 z1 = some r → T 90 c [vw (kSlice 34 k_api_DiskFile) z0.Files [.slice p1 m2 c3], g_names] [[blk g7 [.string z1] 9], [blk g19 [.int .i64 z0.Room, .slice p1 m2 c3, .bool z0.Off, .int .i64 z0.Plan] 27], [blk g20 [.int .i64 0, .slice none 0 0, .bool false, .int .i64 0] 27], [blk g8 [.int .i64 0, .slice none 0 0, .bool false, .int .i64 0] 27]] [(1, .string z1), (3, .bool true), (4, .func (.func 39) #[] #[]), (5, .func (.func 41) #[] #[.pointer (some ⟨g7, 0, none⟩)]), (6, .func (.func 43) #[] #[]), (7, .pointer (some ⟨g19, 0, none⟩)), (14, .pointer (some ⟨g20, 0, none⟩))] K39 := by
        intro h119
        unfold f_disk_Create_j1 at h119
        refine ti hK40 ?_
        refine t_seq fun K120 hK121 => ?_
        refine t_region ?_
        refine c_s (r_ldA a1 Tryd.underlying27 rfl ti27 rfl rfl) rfl ?_
        refine c_p (r_mv rfl) rfl ?_
        obtain ⟨y122, hy122, h119⟩ := bs h119
        refine nx (t_ca (C34 _ _ _ _ _ _ hy122) Tryd.func34 nm34 rfl rfl rfl .nil (fun w Z hA => (V1 a0 hA (V1 a1 hA V0))) rfl fun t123 => ?_)
        refine c_p (r_as rfl) rfl ?_
        refine t_nil ?_
        refine t_then hK121 ?_
        refine t_seq fun K124 hK125 => ?_
        have J136 : f_disk_Create_j3 z0 z1 y122 = some r → T 90 c [vw (kSlice 34 k_api_DiskFile) z0.Files [.slice p1 m2 c3], g_names] [[blk g7 [.string z1] 9], [blk g19 [.int .i64 z0.Room, .slice p1 m2 c3, .bool z0.Off, .int .i64 z0.Plan] 27], [blk g20 [.int .i64 0, .slice none 0 0, .bool false, .int .i64 0] 27], [blk g8 [.int .i64 0, .slice none 0 0, .bool false, .int .i64 0] 27]] [(4, .func (.func 39) #[] #[]), (5, .func (.func 41) #[] #[.pointer (some ⟨g7, 0, none⟩)]), (6, .func (.func 43) #[] #[]), (7, .pointer (some ⟨g19, 0, none⟩)), (14, .pointer (some ⟨g20, 0, none⟩)), (18, .int .i64 y122)] K124 := by
          intro h137
          unfold f_disk_Create_j3 at h137
          refine ti hK125 ?_
          refine t_seq fun K138 hK139 => ?_
          refine t_seq fun K140 hK141 => ?_
          refine t_region ?_
          refine c_p (r_mv rfl) rfl ?_
          refine c_s (r_ldA a1 Tryd.underlying27 rfl ti27 rfl rfl) rfl ?_
          refine c_p (r_mv rfl) rfl ?_
          obtain ⟨y142, hy142, h137⟩ := bs h137
          refine nx (t_ca (C39 _ _ _ _ _ _ hy142) Tryd.func39 nm39 rfl rfl rfl .nil (fun w Z hA => (V1 a0 hA (V1 a1 hA V0))) rfl fun t143 => ?_)
          refine c_p (r_as rfl) rfl ?_
          refine t_nil ?_
          refine t_then hK141 ?_
          refine t_seq fun K144 hK145 => ?_
          refine t_region ?_
          refine c_p (r_mv rfl) rfl ?_
          refine c_p (r_i rfl rfl rfl) rfl ?_
          refine t_nil ?_
          refine t_then hK145 ?_
          rcases Bool.eq_false_or_eq_true (y142 != 0) with hb146 | hb146
          · replace h137 := itT hb146 h137
            refine t_T rfl hb146 ?_
            refine t_seq fun K147 hK148 => ?_
            refine t_region ?_
            refine c_p (r_bu (ps := []) (cs := [.int .i64 0, .slice none 0 0, .bool false, .int .i64 0]) rfl (by kernel_rfl)) rfl ?_
            refine c_p (r_mv rfl) rfl ?_
            refine nx (t_st u2 ti27 rfl rfl rfl rfl rfl (.t (.s (.s (.s (.s .z))))) ?_)
            refine c_p (r_as rfl) rfl ?_
            refine t_nil ?_
            refine t_then hK148 ?_
            refine t_ret ?_
            refine tr (ret2 rfl (v_N rfl a2 Tryd.underlying27 rfl ti27 rfl) (v_t rfl) (t_bk hR16 ?_))
            refine t_nr 34 k_api_DiskFile ?_
            exact t_go (J297 0 none 0 0 ([] : List api_DiskFile) false 0 y142 h137) ⟨rfl, rfl, rfl, trivial⟩ (.cons e4 (.cons e0 .nil)) (fun w Z hA => V1 a1 hA (V0))
          · replace h137 := itF hb146 h137
            refine t_F rfl hb146 ?_
            refine t_skip ?_
            refine t_then hK139 ?_
            refine t_seq fun K149 hK150 => ?_
            refine t_region ?_
            refine c_s (r_ldA a1 Tryd.underlying27 rfl ti27 rfl rfl) rfl ?_
            obtain ⟨y151, hy151, h137⟩ := bs h137
            refine nx (t_ca (C61 _ _ _ _ _ hy151) Tryd.func61 nm61 rfl rfl rfl .nil (fun w Z hA => (V1 a0 hA (V1 a1 hA V0))) rfl fun t152 => ?_)
            refine nx (t_al (cs := [.int .i64 0, .slice none 0 0, .bool false, .int .i64 0]) ti27 rfl rfl fun g153 => ?_)
            refine nx (t_st u0 ti27 rfl rfl rfl rfl rfl (.t (.s (.s (.s (.s .z))))) ?_)
            refine t_nil ?_
            refine t_then hK150 ?_
            refine t_seq fun K154 hK155 => ?_
            have J173 : ∀ (x172 : Int), f_disk_Create_j4 z1 y151 x172 = some r → T 90 c [g_names] [[blk g7 [.string z1] 9], [blk g20 [.int .i64 0, .slice none 0 0, .bool false, .int .i64 0] 27], [row 34 k_api_DiskFile y151.Files (.slice t152.1 t152.2.1 t152.2.2)], [blk g153 [.int .i64 y151.Room, .slice t152.1 t152.2.1 t152.2.2, .bool y151.Off, .int .i64 x172] 27], [blk g8 [.int .i64 0, .slice none 0 0, .bool false, .int .i64 0] 27]] [(5, .func (.func 41) #[] #[.pointer (some ⟨g7, 0, none⟩)]), (14, .pointer (some ⟨g20, 0, none⟩)), (18, .int .i64 y122), (20, .pointer (some ⟨g153, 0, none⟩))] K154 := by
              intro x172 h174
              unfold f_disk_Create_j4 at h174
              refine ti hK155 ?_
              refine t_seq fun K175 hK176 => ?_
              refine t_region ?_
              refine c_p (r_mv rfl) rfl ?_
              refine c_p (r_mv rfl) rfl ?_
              refine nx (t_in (args := [.pointer (some ⟨g153, 0, none⟩), .int .i64 y122]) (cap := [.pointer (some ⟨g7, 0, none⟩)]) (all := [.pointer (some ⟨g153, 0, none⟩), .int .i64 y122, .pointer (some ⟨g7, 0, none⟩)]) rfl rfl Tryd.func41 nm41 rfl rfl rfl Tryd.ntmps41 rfl fun R177 k178 hk179 hR180 => ?_)
              have J281 : ∀ (p277 : Option Addr) (m278 : Nat) (c279 : Nat) (x280 : List api_DiskFile), f_disk_Create_j8 y151 x172 x280 = some r → T 90 c [g_names] [[blk g20 [.int .i64 0, .slice none 0 0, .bool false, .int .i64 0] 27], [row 34 k_api_DiskFile x280 (.slice p277 m278 c279)], [blk g153 [.int .i64 y151.Room, .slice p277 m278 c279, .bool y151.Off, .int .i64 x172] 27], [blk g8 [.int .i64 0, .slice none 0 0, .bool false, .int .i64 0] 27]] [(14, .pointer (some ⟨g20, 0, none⟩)), (20, .pointer (some ⟨g153, 0, none⟩)), (88, .tuple #[])] k178 := by
                intro p277 m278 c279 x280 h282
                unfold f_disk_Create_j8 at h282
                refine ti hk179 ?_
                refine t_nil ?_
                refine t_then hK176 ?_
                refine t_seq fun K283 hK284 => ?_
                refine t_region ?_
                refine c_s (r_ldA a2 Tryd.underlying27 rfl ti27 rfl rfl) rfl ?_
                refine nx (t_st u0 ti27 rfl rfl rfl rfl rfl (.t (.s (.s (.s (.s .z))))) ?_)
                refine c_p (r_as rfl) rfl ?_
                refine t_nil ?_
                refine t_then hK284 ?_
                refine t_ret ?_
                refine ret2 rfl (v_N rfl a0 Tryd.underlying27 rfl ti27 rfl) (v_t rfl) (t_bk hR16 ?_)
                exact t_go (J297 y151.Room p277 m278 c279 x280 y151.Off x172 0 h282) ⟨rfl, rfl, rfl, trivial⟩ (.cons e3 (.cons e1 .nil)) (fun w Z hA => V1 a0 hA (V0))
              refine t_region ?_
              refine c_p (r_mv rfl) rfl ?_
              refine c_s (r_ld a0 Tryd.underlying9 rfl rfl rfl) rfl ?_
              refine c_p (r_bu (ps := [(0, .string z1)]) (cs := [.string z1, .slice none 0 0, .int .i64 0]) rfl (by kernel_rfl)) rfl ?_
              refine nx (t_in (args := [.pointer (some ⟨g153, 0, none⟩), .agg #[.string z1, .slice none 0 0, .int .i64 0]]) (cap := []) (all := [.pointer (some ⟨g153, 0, none⟩), .agg #[.string z1, .slice none 0 0, .int .i64 0]]) rfl rfl Tryd.func42 nm42 rfl rfl rfl Tryd.ntmps42 rfl fun R181 k182 hk183 hR184 => ?_)
              have J275 : ∀ (p271 : Option Addr) (m272 : Nat) (c273 : Nat) (x274 : List api_DiskFile), f_disk_Create_j7 y151 x172 x274 = some r → T 9 c [g_names] [[blk g20 [.int .i64 0, .slice none 0 0, .bool false, .int .i64 0] 27], [row 34 k_api_DiskFile x274 (.slice p271 m272 c273)], [blk g153 [.int .i64 y151.Room, .slice p271 m272 c273, .bool y151.Off, .int .i64 x172] 27], [blk g8 [.int .i64 0, .slice none 0 0, .bool false, .int .i64 0] 27]] [(8, .tuple #[])] k182 := by
                intro p271 m272 c273 x274 h276
                unfold f_disk_Create_j7 at h276
                refine ti hk183 ?_
                refine t_nil ?_
                refine end0 rfl  (t_bk hR180 ?_)
                exact t_go (J281 p271 m272 c273 x274 h276) ⟨rfl, rfl, rfl, trivial⟩ (.cons e0 (.cons e0 (.cons e0 (.cons e0 .nil)))) (fun w Z hA => V1 a0 hA (V0))
              refine t_seq fun K185 hK186 => ?_
              refine t_region ?_
              refine nx (t_bx (cs := [.string z1, .slice none 0 0, .int .i64 0]) rfl rfl rfl fun g187 => ?_)
              refine t_nil ?_
              refine t_then hK186 ?_
              refine t_seq fun K188 hK189 => ?_
              refine t_region ?_
              refine c_p (r_as rfl) rfl ?_
              refine t_nil ?_
              refine t_then hK189 ?_
              refine t_seq fun K190 hK191 => ?_
              have J241 : ∀ (x240 : Int), f_disk_Create_j5 z1 y151 x172 x240 = some r → T 65 c [g_names] [[row 34 k_api_DiskFile y151.Files (.slice t152.1 t152.2.1 t152.2.2)], [blk g153 [.int .i64 y151.Room, .slice t152.1 t152.2.1 t152.2.2, .bool y151.Off, .int .i64 x172] 27], [blk g187 [.string z1, .slice none 0 0, .int .i64 0] 34], [blk g20 [.int .i64 0, .slice none 0 0, .bool false, .int .i64 0] 27], [blk g8 [.int .i64 0, .slice none 0 0, .bool false, .int .i64 0] 27]] [(0, .pointer (some ⟨g153, 0, none⟩)), (3, .pointer (some ⟨g187, 0, none⟩)), (4, .int .i64 x240)] K190 := by
                intro x240 h242
                unfold f_disk_Create_j5 at h242
                refine ti hK191 ?_
                refine t_seq fun K243 hK244 => ?_
                have J263 : f_disk_Create_j6 z1 y151 x172 x240 = some r → T 65 c [g_names] [[row 34 k_api_DiskFile y151.Files (.slice t152.1 t152.2.1 t152.2.2)], [blk g153 [.int .i64 y151.Room, .slice t152.1 t152.2.1 t152.2.2, .bool y151.Off, .int .i64 x172] 27], [blk g187 [.string z1, .slice none 0 0, .int .i64 0] 34], [blk g20 [.int .i64 0, .slice none 0 0, .bool false, .int .i64 0] 27], [blk g8 [.int .i64 0, .slice none 0 0, .bool false, .int .i64 0] 27]] [(0, .pointer (some ⟨g153, 0, none⟩)), (3, .pointer (some ⟨g187, 0, none⟩)), (4, .int .i64 x240)] K243 := by
                  intro h264
                  unfold f_disk_Create_j6 at h264
                  refine ti hK244 ?_
                  refine t_draw mixed (fun w_ => Bk g153 [.int .i64 y151.Room, .slice t152.1 t152.2.1 t152.2.2, .bool y151.Off, .int .i64 x172] w_ ∧ True) [4] [7, 8, 11] rfl ?_
                  refine q_p 0 panic_body rfl (by kernel_rfl) W0 (r_mv rfl) rfl ?_
                  refine q_p 1 panic_body rfl (by kernel_rfl) W0 (r_mv rfl) rfl ?_
                  refine q_p 2 panic_body rfl (by kernel_rfl) W0 (r_nc rfl) rfl ?_
                  refine q_p 3 panic_body rfl (by kernel_rfl) W0 (r_fa (off' := 1) Tryd.underlying27 rfl ti25 rfl rfl) rfl ?_
                  refine q_s 4 panic_body rfl (by kernel_rfl) W0 (by kernel_rfl) (fun w H => ⟨bk a1 H, trivial⟩) (b_ld (fun _ h => h.1) Tryd.underlying25 rfl rfl rfl) rfl ?_
                  refine q_p 5 panic_body rfl (by kernel_rfl) W0 (r_mv rfl) rfl ?_
                  refine q_u 6 panic_body rfl (by kernel_rfl) W0 (by kernel_rfl) (r_ldA a2 Tryd.underlying34 rfl ti34 rfl rfl) rfl ?_
                  refine d1 7 rfl (by kernel_rfl) (by kernel_rfl) ?_
                  refine t_bs (ps := [(0, .agg #[.string z1, .slice none 0 0, .int .i64 0])]) (cs := [.string z1, .slice none 0 0, .int .i64 0]) Tryd.underlying25 ti34 rfl rfl (by kernel_rfl) rfl fun g267 => ?_
                  refine dk (fun w H => ⟨bk a2 H, trivial⟩) ?_
                  refine d1 8 rfl (by kernel_rfl) (by kernel_rfl) ?_
                  refine t_nr 5 (kInt .u8) ?_
                  refine t_tr (Kd := k_api_DiskFile) (xs := [(⟨z1, ([] : List Int), 0⟩ : api_DiskFile)]) (.cons e1 (.cons e0 .nil)) rfl (fun w Z S hA hN => (eoC (x := (⟨z1, ([] : List Int), 0⟩ : api_DiskFile)) (t := (none, 0, 0)) k_api_DiskFile_shutsO trivial eoN) S hN) ?_
                  obtain ⟨y268, hy268, h264⟩ := bs h264
                  refine t_ca (C65 _ _ _ _ _ _ _ _ _ _ hy268) Tryd.func65 nm65 rfl rfl rfl (.cons e1 (.cons e0 .nil)) (fun w Z hA => V0) rfl fun t269 => ?_
                  refine dn (by kernel_rfl) ?_
                  refine q_p 9 panic_body rfl (by kernel_rfl) W0 (r_nc rfl) rfl ?_
                  refine q_p 10 panic_body rfl (by kernel_rfl) W0 (r_fa (off' := 1) Tryd.underlying27 rfl ti25 rfl rfl) rfl ?_
                  refine d1 11 rfl (by kernel_rfl) (by kernel_rfl) ?_
                  refine t_st u1 ti25 rfl rfl rfl rfl rfl (.s (.t (.s .z))) ?_
                  refine dn (by kernel_rfl) ?_
                  refine dz (by kernel_rfl) ?_
                  refine end0 rfl  (t_bk hR184 ?_)
                  exact t_go (J275 t269.1 t269.2.1 t269.2.2 y268 h264) ⟨rfl, trivial⟩ (.cons e3 (.cons e0 (.cons e0 (.cons e1 .nil)))) (fun w Z hA => V1 a0 hA (V0))
                refine t_seq fun K245 hK246 => ?_
                refine t_quiet mixed (by kernel_rfl) (panic_then (panic_then panic_body)) ?_
                refine k_p (r_mv rfl) rfl ?_
                refine k_p (r_mv rfl) rfl ?_
                refine k_p (r_nc rfl) rfl ?_
                refine k_p (r_fa (off' := 1) Tryd.underlying27 rfl ti25 rfl rfl) rfl ?_
                refine k_s (r_ld a1 Tryd.underlying25 rfl rfl rfl) rfl ?_
                refine k_s (r_lnL a0 Tryd.underlying25 rfl) rfl ?_
                refine k_p (r_i rfl rfl rfl) rfl ?_
                refine k_p (r_mv rfl) rfl ?_
                rcases Bool.eq_false_or_eq_true (decide (x240 < (y151.Files.length : Int))) with hb247 | hb247
                · replace h242 := itT hb247 h242
                  refine kg_p rfl rfl hb247 (r_mv rfl) rfl ?_
                  refine kg_p rfl rfl hb247 (r_nc rfl) rfl ?_
                  refine kg_p rfl rfl hb247 (r_fa (off' := 1) Tryd.underlying27 rfl ti25 rfl rfl) rfl ?_
                  refine kg_s rfl rfl hb247 (r_ld a1 Tryd.underlying25 rfl rfl rfl) rfl ?_
                  refine kg_p rfl rfl hb247 (r_mv rfl) rfl ?_
                  obtain ⟨el251, hel251, h242⟩ := bs h242
                  refine t_qL a0 hel251 fun q248 hq249 hm250 => ?_
                  refine kg_p rfl rfl hb247 (r_idx hq249 hm250 hel251 Tryd.underlying25 ti34 rfl rfl) rfl ?_
                  refine t_qf hq249 0 fun q252 hq253 => ?_
                  refine kg_p rfl rfl hb247 (r_fai hq249 hq253 Tryd.underlying34 rfl ti9 rfl rfl) rfl ?_
                  refine t_oI k_api_DiskFile_opensO e0 hel251 fun t254 => ?_
                  refine kg_s rfl rfl hb247 (r_h1 a0 hq253 Tryd.underlying9 rfl rfl rfl) rfl ?_
                  refine kg_p rfl rfl hb247 (r_fa (off' := 0) Tryd.underlying34 rfl ti9 rfl rfl) rfl ?_
                  refine kg_s rfl rfl hb247 (r_ld a3 Tryd.underlying9 rfl rfl rfl) rfl ?_
                  refine kg_p rfl rfl hb247 (r_s rfl rfl rfl) rfl ?_
                  refine k_p (r_pT rfl hb247 rfl) rfl ?_
                  refine k_z ?_
                  refine t_then hK246 ?_
                  rcases Bool.eq_false_or_eq_true (el251.Name.toList == z1.toList) with hb255 | hb255
                  · replace h242 := itT hb255 h242
                    refine t_T rfl hb255 ?_
                    refine t_seq fun K256 hK257 => ?_
                    refine t_draw mixed (fun w_ => True) [] [7] rfl ?_
                    refine q_p 0 (panic_then (panic_then panic_body)) rfl (by kernel_rfl) W0 (r_mv rfl) rfl ?_
                    refine q_p 1 (panic_then (panic_then panic_body)) rfl (by kernel_rfl) W0 (r_nc rfl) rfl ?_
                    refine q_p 2 (panic_then (panic_then panic_body)) rfl (by kernel_rfl) W0 (r_fa (off' := 1) Tryd.underlying27 rfl ti25 rfl rfl) rfl ?_
                    refine q_u 3 (panic_then (panic_then panic_body)) rfl (by kernel_rfl) W0 (by kernel_rfl) (r_ld a2 Tryd.underlying25 rfl rfl rfl) rfl ?_
                    refine q_p 4 (panic_then (panic_then panic_body)) rfl (by kernel_rfl) W0 (r_mv rfl) rfl ?_
                    refine q_u 5 (panic_then (panic_then panic_body)) rfl (by kernel_rfl) W0 (by kernel_rfl) (r_ldA a3 Tryd.underlying34 rfl ti34 rfl rfl) rfl ?_
                    refine t_qH a0 hel251 fun q260 hq261 hm262 => ?_
                    refine q_p 6 (panic_then (panic_then panic_body)) rfl (by kernel_rfl) W0 (r_idx hq261 hm262 hel251 Tryd.underlying25 ti34 rfl rfl) rfl ?_
                    refine d1 7 rfl (by kernel_rfl) (by kernel_rfl) ?_
                    refine t_hs u0 hq261 ti34 rfl rfl rfl rfl rfl (.t (.s (.s (.s .z)))) ?_
                    refine dn (by kernel_rfl) ?_
                    refine dz (by kernel_rfl) ?_
                    refine t_then hK257 ?_
                    refine t_ret ?_
                    refine tr (ret0 rfl  (t_bk hR184 ?_))
                    refine t_nr 5 (kInt .u8) ?_
                    refine t_cI (u := (⟨z1, ([] : List Int), 0⟩ : api_DiskFile)) (t := (none, 0, 0)) k_api_DiskFile_shutsO (.cons e1 (.cons e0 .nil)) rfl (fun w Z hA => trivial) ?_
                    have hn270 := at_set (u' := (⟨z1, ([] : List Int), 0⟩ : api_DiskFile)) hel251
                    exact t_go (J275 t152.1 t152.2.1 t152.2.2 (y151.Files.set x240.toNat (⟨z1, ([] : List Int), 0⟩ : api_DiskFile)) h242) ⟨rfl, trivial⟩ (.cons e4 (.cons e0 (.cons e1 (.cons e2 .nil)))) (fun w Z hA => V1 a0 hA (V0))
                  · replace h242 := itF hb255 h242
                    refine t_F rfl hb255 ?_
                    refine t_skip ?_
                    refine t_cS (u := el251) (t := (t254.1, t254.2.1, t254.2.2)) k_api_DiskFile_shutsO hel251 (.cons e0 (.cons e0 .nil)) rfl (fun w Z hA => trivial) ?_
                    exact t_norm (t_go (J263 h242) ⟨rfl, rfl, rfl, trivial⟩ (.cons e0 (.cons e0 (.cons e0 (.cons e0 (.cons e0 .nil))))) (fun w Z hA => V1 a0 hA (V0)))
                · replace h242 := itF hb247 h242
                  refine k_x rfl rfl hb247 rfl ?_
                  refine k_x rfl rfl hb247 rfl ?_
                  refine k_x rfl rfl hb247 rfl ?_
                  refine k_x rfl rfl hb247 rfl ?_
                  refine k_x rfl rfl hb247 rfl ?_
                  refine k_x rfl rfl hb247 rfl ?_
                  refine k_x rfl rfl hb247 rfl ?_
                  refine k_x rfl rfl hb247 rfl ?_
                  refine k_x rfl rfl hb247 rfl ?_
                  refine k_x rfl rfl hb247 rfl ?_
                  refine k_x rfl rfl hb247 rfl ?_
                  refine k_p (r_pF rfl hb247 rfl) rfl ?_
                  refine k_z ?_
                  refine t_then hK246 ?_
                  refine t_F rfl rfl ?_
                  refine t_skip ?_
                  exact t_norm (t_go (J263 h242) ⟨rfl, rfl, rfl, trivial⟩ (.cons e0 (.cons e0 (.cons e0 (.cons e0 (.cons e0 .nil))))) (fun w Z hA => V1 a0 hA (V0)))
              refine t_block ?_
              refine t_lp fun k220 hk221 => ?_
              have LP223 : ∀ (k225 : Nat) (x222 : Int), f_disk_Create_l2 z1 y151 x172 k225 x222 = some r → T 65 c [g_names] [[row 34 k_api_DiskFile y151.Files (.slice t152.1 t152.2.1 t152.2.2)], [blk g153 [.int .i64 y151.Room, .slice t152.1 t152.2.1 t152.2.2, .bool y151.Off, .int .i64 x172] 27], [blk g187 [.string z1, .slice none 0 0, .int .i64 0] 34], [blk g20 [.int .i64 0, .slice none 0 0, .bool false, .int .i64 0] 27], [blk g8 [.int .i64 0, .slice none 0 0, .bool false, .int .i64 0] 27]] [(0, .pointer (some ⟨g153, 0, none⟩)), (3, .pointer (some ⟨g187, 0, none⟩)), (4, .int .i64 x222)] k220 := by
                intro k225
                induction k225 with
                | zero => intro x222 h224; rewrite [f_disk_Create_l2] at h224; cases h224
                | succ k225 ih226 =>
                  intro x222 h224
                  rewrite [f_disk_Create_l2] at h224
                  refine ti hk221 ?_
                  refine t_seq fun K227 hK228 => ?_
                  refine t_seq fun K229 hK230 => ?_
                  refine t_quiet mixed (by kernel_rfl) (panic_then (panic_then (panic_then (panic_block (panic_then panic_body))))) ?_
                  refine k_p (r_mv rfl) rfl ?_
                  refine k_p (r_mv rfl) rfl ?_
                  refine k_p (r_nc rfl) rfl ?_
                  refine k_p (r_fa (off' := 1) Tryd.underlying27 rfl ti25 rfl rfl) rfl ?_
                  refine k_s (r_ld a1 Tryd.underlying25 rfl rfl rfl) rfl ?_
                  refine k_s (r_lnL a0 Tryd.underlying25 rfl) rfl ?_
                  refine k_p (r_i rfl rfl rfl) rfl ?_
                  refine k_p (r_mv rfl) rfl ?_
                  rcases Bool.eq_false_or_eq_true (decide (x222 < (y151.Files.length : Int))) with hb231 | hb231
                  · replace h224 := itT hb231 h224
                    refine kg_p rfl rfl hb231 (r_mv rfl) rfl ?_
                    refine kg_p rfl rfl hb231 (r_nc rfl) rfl ?_
                    refine kg_p rfl rfl hb231 (r_fa (off' := 1) Tryd.underlying27 rfl ti25 rfl rfl) rfl ?_
                    refine kg_s rfl rfl hb231 (r_ld a1 Tryd.underlying25 rfl rfl rfl) rfl ?_
                    refine kg_p rfl rfl hb231 (r_mv rfl) rfl ?_
                    obtain ⟨el235, hel235, h224⟩ := bs h224
                    refine t_qL a0 hel235 fun q232 hq233 hm234 => ?_
                    refine kg_p rfl rfl hb231 (r_idx hq233 hm234 hel235 Tryd.underlying25 ti34 rfl rfl) rfl ?_
                    refine t_qf hq233 0 fun q236 hq237 => ?_
                    refine kg_p rfl rfl hb231 (r_fai hq233 hq237 Tryd.underlying34 rfl ti9 rfl rfl) rfl ?_
                    refine t_oI k_api_DiskFile_opensO e0 hel235 fun t238 => ?_
                    refine kg_s rfl rfl hb231 (r_h1 a0 hq237 Tryd.underlying9 rfl rfl rfl) rfl ?_
                    refine kg_p rfl rfl hb231 (r_fa (off' := 0) Tryd.underlying34 rfl ti9 rfl rfl) rfl ?_
                    refine kg_s rfl rfl hb231 (r_ld a3 Tryd.underlying9 rfl rfl rfl) rfl ?_
                    refine kg_p rfl rfl hb231 (r_s rfl rfl rfl) rfl ?_
                    refine k_p (r_pT rfl hb231 rfl) rfl ?_
                    refine k_z ?_
                    refine t_then hK230 ?_
                    rcases Bool.eq_false_or_eq_true (Op.bytesLess el235.Name.toList z1.toList) with hb239 | hb239
                    · replace h224 := itT hb239 h224
                      refine t_T rfl hb239 ?_
                      refine t_skip ?_
                      refine t_then hK228 ?_
                      refine t_block ?_
                      refine t_region ?_
                      refine c_p (r_mv rfl) rfl ?_
                      refine c_p (r_i rfl rfl rfl) rfl ?_
                      refine c_p (r_as rfl) rfl ?_
                      refine t_nil ?_
                      refine t_blockN ?_
                      refine t_cS (u := el235) (t := (t238.1, t238.2.1, t238.2.2)) k_api_DiskFile_shutsO hel235 (.cons e0 (.cons e0 .nil)) rfl (fun w Z hA => trivial) ?_
                      exact t_norm (t_go (ih226 (IntKind.wrap .i64 (x222 + 1)) h224) ⟨rfl, rfl, rfl, trivial⟩ (.cons e0 (.cons e0 (.cons e0 (.cons e0 (.cons e0 .nil))))) (fun w Z hA => V1 a0 hA (V0)))
                    · replace h224 := itF hb239 h224
                      refine t_F rfl hb239 ?_
                      refine t_exit ?_
                      refine te (te (bx ?_))
                      refine t_cS (u := el235) (t := (t238.1, t238.2.1, t238.2.2)) k_api_DiskFile_shutsO hel235 (.cons e0 (.cons e0 .nil)) rfl (fun w Z hA => trivial) ?_
                      exact t_norm (t_go (J241 x222 h224) ⟨rfl, rfl, rfl, trivial⟩ (.cons e0 (.cons e0 (.cons e0 (.cons e0 (.cons e0 .nil))))) (fun w Z hA => V1 a0 hA (V0)))
                  · replace h224 := itF hb231 h224
                    refine k_x rfl rfl hb231 rfl ?_
                    refine k_x rfl rfl hb231 rfl ?_
                    refine k_x rfl rfl hb231 rfl ?_
                    refine k_x rfl rfl hb231 rfl ?_
                    refine k_x rfl rfl hb231 rfl ?_
                    refine k_x rfl rfl hb231 rfl ?_
                    refine k_x rfl rfl hb231 rfl ?_
                    refine k_x rfl rfl hb231 rfl ?_
                    refine k_x rfl rfl hb231 rfl ?_
                    refine k_x rfl rfl hb231 rfl ?_
                    refine k_x rfl rfl hb231 rfl ?_
                    refine k_p (r_pF rfl hb231 rfl) rfl ?_
                    refine k_z ?_
                    refine t_then hK230 ?_
                    refine t_F rfl rfl ?_
                    refine t_exit ?_
                    refine te (te (bx ?_))
                    exact t_norm (t_go (J241 x222 h224) ⟨rfl, rfl, rfl, trivial⟩ (.cons e0 (.cons e0 (.cons e0 (.cons e0 (.cons e0 .nil))))) (fun w Z hA => V1 a0 hA (V0)))
              exact t_go (LP223 ((((y151.Files.length : Int) : Int) - (0)).toNat + 1) 0 h174) ⟨rfl, rfl, rfl, trivial⟩ (.cons e3 (.cons e3 (.cons e0 (.cons e1 (.cons e1 .nil))))) (fun w Z hA => V1 a0 hA (V0))
            refine t_seq fun K156 hK157 => ?_
            refine t_region ?_
            refine c_p (r_fa (off' := 3) Tryd.underlying27 rfl ti3 rfl rfl) rfl ?_
            refine c_s (r_ld a0 Tryd.underlying3 rfl rfl rfl) rfl ?_
            refine c_p (r_i rfl rfl rfl) rfl ?_
            refine t_nil ?_
            refine t_then hK157 ?_
            rcases Bool.eq_false_or_eq_true (decide (y151.Plan > 0)) with hb158 | hb158
            · replace h137 := itT hb158 h137
              refine t_T rfl hb158 ?_
              refine t_seq fun K159 hK160 => ?_
              refine t_region ?_
              refine c_p (r_fa (off' := 3) Tryd.underlying27 rfl ti3 rfl rfl) rfl ?_
              refine c_s (r_ld a0 Tryd.underlying3 rfl rfl rfl) rfl ?_
              refine c_p (r_i rfl rfl rfl) rfl ?_
              refine c_p (r_fa (off' := 3) Tryd.underlying27 rfl ti3 rfl rfl) rfl ?_
              refine nx (t_st u0 ti3 rfl rfl rfl rfl rfl (.s (.s (.s (.t (.s .z))))) ?_)
              refine t_nil ?_
              refine t_then hK160 ?_
              refine t_seq fun K161 hK162 => ?_
              refine t_region ?_
              refine c_p (r_fa (off' := 3) Tryd.underlying27 rfl ti3 rfl rfl) rfl ?_
              refine c_s (r_ld a0 Tryd.underlying3 rfl rfl rfl) rfl ?_
              refine c_p (r_i rfl rfl rfl) rfl ?_
              refine t_nil ?_
              refine t_then hK162 ?_
              rcases Bool.eq_false_or_eq_true ((IntKind.wrap .i64 (y151.Plan - 1)) == 0) with hb163 | hb163
              · replace h137 := itT hb163 h137
                refine t_T rfl hb163 ?_
                refine t_seq fun K164 hK165 => ?_
                refine t_region ?_
                refine c_p (r_fa (off' := 2) Tryd.underlying27 rfl ti4 rfl rfl) rfl ?_
                refine nx (t_st u0 ti4 rfl rfl rfl rfl rfl (.s (.s (.t (.s .z)))) ?_)
                refine t_nil ?_
                refine t_then hK165 ?_
                refine t_seq fun K166 hK167 => ?_
                refine t_region ?_
                refine c_p (r_mv rfl) rfl ?_
                refine c_p (r_mv rfl) rfl ?_
                obtain ⟨y168, hy168, h137⟩ := bs h137
                refine nx (t_cf (C43 _ _ _ _ _ _ _ hy168) (fun _ => (flat_blk flat_nil)) Tryd.func43 nm43 rfl rfl rfl (.cons e0 .nil) (fun w Z S hA hL => (FL a0 hL (F1 a1 hA F0))) rfl fun t169 => ?_)
                refine t_nil ?_
                refine t_then hK167 ?_
                refine t_seq fun K170 hK171 => ?_
                refine t_region ?_
                refine c_s (r_ldA a0 Tryd.underlying27 rfl ti27 rfl rfl) rfl ?_
                refine nx (t_st u4 ti27 rfl rfl rfl rfl rfl (.t (.s (.s (.s (.s .z))))) ?_)
                refine c_p (r_as rfl) rfl ?_
                refine t_nil ?_
                refine t_then hK171 ?_
                refine t_ret ?_
                refine tr (ret2 rfl (v_N rfl a4 Tryd.underlying27 rfl ti27 rfl) (v_t rfl) (t_bk hR16 ?_))
                exact t_go (J297 y151.Room t152.1 t152.2.1 t152.2.2 y151.Files true (IntKind.wrap .i64 (y151.Plan - 1)) 242 h137) ⟨rfl, rfl, rfl, trivial⟩ (.cons e5 (.cons e1 .nil)) (fun w Z hA => V1 a1 hA (V0))
              · replace h137 := itF hb163 h137
                refine t_F rfl hb163 ?_
                refine t_skip ?_
                exact t_norm (t_go (J173 (IntKind.wrap .i64 (y151.Plan - 1)) h137) ⟨rfl, rfl, rfl, rfl, trivial⟩ (.cons e2 (.cons e3 (.cons e1 (.cons e0 (.cons e1 .nil))))) (fun w Z hA => V1 a1 hA (V0)))
            · replace h137 := itF hb158 h137
              refine t_F rfl hb158 ?_
              refine t_skip ?_
              exact t_norm (t_go (J173 y151.Plan h137) ⟨rfl, rfl, rfl, rfl, trivial⟩ (.cons e2 (.cons e3 (.cons e1 (.cons e0 (.cons e1 .nil))))) (fun w Z hA => V1 a1 hA (V0)))
        refine t_block ?_
        refine t_seq fun K126 hK127 => ?_
        have J129 : f_disk_Create_j2 z0 z1 y122 = some r → T 90 c [vw (kSlice 34 k_api_DiskFile) z0.Files [.slice p1 m2 c3], g_names] [[blk g7 [.string z1] 9], [blk g19 [.int .i64 z0.Room, .slice p1 m2 c3, .bool z0.Off, .int .i64 z0.Plan] 27], [blk g20 [.int .i64 0, .slice none 0 0, .bool false, .int .i64 0] 27], [blk g8 [.int .i64 0, .slice none 0 0, .bool false, .int .i64 0] 27]] [(3, .bool true), (4, .func (.func 39) #[] #[]), (5, .func (.func 41) #[] #[.pointer (some ⟨g7, 0, none⟩)]), (6, .func (.func 43) #[] #[]), (7, .pointer (some ⟨g19, 0, none⟩)), (14, .pointer (some ⟨g20, 0, none⟩)), (18, .int .i64 y122), (46, .bool false)] K126 := by
          intro h130
          unfold f_disk_Create_j2 at h130
          refine ti hK127 ?_
          refine t_F rfl rfl ?_
          refine t_seq fun K131 hK132 => ?_
          refine t_region ?_
          refine c_p (r_mv rfl) rfl ?_
          refine c_p (r_i rfl rfl rfl) rfl ?_
          refine c_p (r_mv rfl) rfl ?_
          rcases Bool.eq_false_or_eq_true (decide (y122 ≥ 0)) with hb133 | hb133
          · replace h130 := itT hb133 h130
            refine nx (gd rfl rfl hb133 (sp (r_mv rfl) rfl ?_))
            refine c_p (r_pT rfl hb133 rfl) rfl ?_
            refine c_p (r_as rfl) rfl ?_
            refine t_nil ?_
            refine t_then hK132 ?_
            refine t_T rfl rfl ?_
            refine t_seq fun K134 hK135 => ?_
            refine t_region ?_
            refine c_p (r_bu (ps := []) (cs := [.int .i64 0, .slice none 0 0, .bool false, .int .i64 0]) rfl (by kernel_rfl)) rfl ?_
            refine nx (t_st u2 ti27 rfl rfl rfl rfl rfl (.t (.s (.s (.s (.s .z))))) ?_)
            refine c_p (r_as rfl) rfl ?_
            refine t_nil ?_
            refine t_then hK135 ?_
            refine t_ret ?_
            refine br (tr (ret2 rfl (v_N rfl a2 Tryd.underlying27 rfl ti27 rfl) (v_t rfl) (t_bk hR16 ?_)))
            refine t_nr 34 k_api_DiskFile ?_
            exact t_go (J297 0 none 0 0 ([] : List api_DiskFile) false 0 245 h130) ⟨rfl, rfl, rfl, trivial⟩ (.cons e4 (.cons e0 .nil)) (fun w Z hA => V1 a1 hA (V0))
          · replace h130 := itF hb133 h130
            refine nx (pass rfl rfl hb133 rfl ?_)
            refine c_p (r_pF rfl hb133 rfl) rfl ?_
            refine c_p (r_as rfl) rfl ?_
            refine t_nil ?_
            refine t_then hK132 ?_
            refine t_F rfl rfl ?_
            refine t_skip ?_
            refine t_blockN ?_
            exact t_norm (t_go (J136 h130) ⟨rfl, rfl, rfl, rfl, rfl, rfl, trivial⟩ (.cons e0 (.cons e0 (.cons e0 (.cons e0 .nil)))) (fun w Z hA => V1 a0 hA (V1 a1 hA (V0))))
        refine t_region ?_
        refine c_p (r_mv rfl) rfl ?_
        refine c_p (r_i rfl rfl rfl) rfl ?_
        refine c_p (r_mv rfl) rfl ?_
        rcases Bool.eq_false_or_eq_true (decide (y122 < 0)) with hb128 | hb128
        · replace h119 := itT hb128 h119
          refine nx (gd rfl rfl hb128 (sp (r_mv rfl) rfl ?_))
          refine nx (gd rfl rfl hb128 (sp (r_not rfl) rfl ?_))
          refine c_p (r_pT rfl hb128 rfl) rfl ?_
          refine c_p (r_as rfl) rfl ?_
          refine t_nil ?_
          exact t_norm (t_go (J129 h119) ⟨rfl, rfl, rfl, rfl, rfl, rfl, rfl, rfl, trivial⟩ (.cons e0 (.cons e0 (.cons e0 (.cons e0 .nil)))) (fun w Z hA => V1 a0 hA (V1 a1 hA (V0))))
        · replace h119 := itF hb128 h119
          refine nx (pass rfl rfl hb128 rfl ?_)
          refine nx (pass rfl rfl hb128 rfl ?_)
          refine c_p (r_pF rfl hb128 rfl) rfl ?_
          refine c_p (r_as rfl) rfl ?_
          refine t_nil ?_
          exact t_norm (t_go (J129 h119) ⟨rfl, rfl, rfl, rfl, rfl, rfl, rfl, rfl, trivial⟩ (.cons e0 (.cons e0 (.cons e0 (.cons e0 .nil)))) (fun w Z hA => V1 a0 hA (V1 a1 hA (V0))))
      refine t_seq fun K41 hK42 => ?_
      refine t_region ?_
      refine c_p (r_mv rfl) rfl ?_
      refine nx (t_bs (ps := [(0, .string z1)]) (cs := [.string z1]) Tryd.underlying72 ti9 rfl rfl (by kernel_rfl) rfl fun g43 => ?_)
      refine c_p (r_mv rfl) rfl ?_
      refine t_tr (Kd := kStr) (xs := [z1]) (.cons e0 .nil) rfl (fun w Z S hA hN => flat_EO (S := Nil) flatK_str (er1 (c1 := [.string z1]) rfl er0)) ?_
      obtain ⟨hc44, h⟩ := ck_out h
      refine nx (t_app (Kd := kStr) (xs := [z1]) (ys := ([] : List ByteArray)) (.cons e0 .nil) rfl rfl Tryd.underlying72 Tryd.underlying72 ti9 rfl rfl hc44 (srcN kStr) rfl fun t45 => ?_)
      refine c_s (r_lnL a0 Tryd.underlying72 rfl) rfl ?_
      refine c_p (r_mv rfl) rfl ?_
      refine t_nil ?_
      refine t_then hK42 ?_
      refine t_block ?_
      refine t_lp fun k90 hk91 => ?_
      have LP93 : ∀ (k95 : Nat) (x92 : Int), f_disk_Create_l1 z0 z1 k95 x92 = some r → T 90 c [vw (kSlice 34 k_api_DiskFile) z0.Files [.slice p1 m2 c3], g_names] [[blk g7 [.string z1] 9], [blk g19 [.int .i64 z0.Room, .slice p1 m2 c3, .bool z0.Off, .int .i64 z0.Plan] 27], [blk g20 [.int .i64 0, .slice none 0 0, .bool false, .int .i64 0] 27], [row 9 kStr ([z1] ++ ([] : List ByteArray)) (.slice t45.1 t45.2.1 t45.2.2)], [blk g8 [.int .i64 0, .slice none 0 0, .bool false, .int .i64 0] 27]] [(1, .string z1), (3, .bool true), (4, .func (.func 39) #[] #[]), (5, .func (.func 41) #[] #[.pointer (some ⟨g7, 0, none⟩)]), (6, .func (.func 43) #[] #[]), (7, .pointer (some ⟨g19, 0, none⟩)), (14, .pointer (some ⟨g20, 0, none⟩)), (32, .slice t45.1 t45.2.1 t45.2.2), (33, .int .i64 (([z1] ++ ([] : List ByteArray)).length : Int)), (34, .int .i64 x92)] k90 := by
        intro k95
        induction k95 with
        | zero => intro x92 h94; rewrite [f_disk_Create_l1] at h94; cases h94
        | succ k95 ih96 =>
          intro x92 h94
          rewrite [f_disk_Create_l1] at h94
          refine ti hk91 ?_
          refine t_seq fun K97 hK98 => ?_
          refine t_region ?_
          refine c_p (r_i rfl rfl rfl) rfl ?_
          refine t_nil ?_
          refine t_then hK98 ?_
          refine t_seq fun K99 hK100 => ?_
          rcases Bool.eq_false_or_eq_true (decide (x92 < (([z1] ++ ([] : List ByteArray)).length : Int))) with hb101 | hb101
          · replace h94 := itT hb101 h94
            refine t_T rfl hb101 ?_
            refine t_skip ?_
            refine t_then hK100 ?_
            refine t_seq fun K102 hK103 => ?_
            refine t_block ?_
            refine t_seq fun K104 hK105 => ?_
            refine t_region ?_
            obtain ⟨el109, hel109, h94⟩ := bs h94
            refine t_qL a3 hel109 fun q106 hq107 hm108 => ?_
            refine c_p (r_idx hq107 hm108 hel109 Tryd.underlying72 ti9 rfl rfl) rfl ?_
            refine t_oI opensO_str e3 hel109 fun t110 => ?_
            refine c_s (r_h1 a0 hq107 Tryd.underlying9 rfl rfl rfl) rfl ?_
            refine c_p (r_as rfl) rfl ?_
            refine t_nil ?_
            refine t_then hK105 ?_
            refine t_seq fun K111 hK112 => ?_
            refine t_region ?_
            refine c_p (r_mv rfl) rfl ?_
            obtain ⟨y113, hy113, h94⟩ := bs h94
            refine nx (t_ca (C36 _ _ hy113) Tryd.func36 nm36 rfl rfl rfl .nil (fun w Z hA => (V1 a1 hA V0)) rfl fun t114 => ?_)
            refine c_p (r_not rfl) rfl ?_
            refine t_nil ?_
            refine t_then hK112 ?_
            rcases Bool.eq_false_or_eq_true y113 with hb115 | hb115
            · replace h94 := itT hb115 h94
              refine t_F rfl (congrArg Bool.not hb115) ?_
              refine t_skip ?_
              refine t_blockN ?_
              refine t_then hK103 ?_
              refine t_region ?_
              refine c_p (r_i rfl rfl rfl) rfl ?_
              refine c_p (r_mv rfl) rfl ?_
              refine t_nil ?_
              refine t_cS (u := el109) (t := ()) shutsO_str hel109 (.cons e0 .nil) rfl (fun w Z hA => trivial) ?_
              exact t_norm (t_go (ih96 (IntKind.wrap .i64 (x92 + 1)) h94) ⟨rfl, rfl, rfl, rfl, rfl, rfl, rfl, rfl, rfl, rfl, trivial⟩ (.cons e1 (.cons e1 (.cons e1 (.cons e0 (.cons e0 .nil))))) (fun w Z hA => V1 a0 hA (V1 a1 hA (V0))))
            · replace h94 := itF hb115 h94
              refine t_T rfl (congrArg Bool.not hb115) ?_
              refine t_seq fun K116 hK117 => ?_
              refine t_region ?_
              refine c_p (r_bu (ps := []) (cs := [.int .i64 0, .slice none 0 0, .bool false, .int .i64 0]) rfl (by kernel_rfl)) rfl ?_
              refine nx (t_st u3 ti27 rfl rfl rfl rfl rfl (.t (.s (.s (.s (.s .z))))) ?_)
              refine c_p (r_as rfl) rfl ?_
              refine t_nil ?_
              refine t_then hK117 ?_
              refine t_ret ?_
              refine br (tr (tr (br (tr (ret2 rfl (v_N rfl a3 Tryd.underlying27 rfl ti27 rfl) (v_t rfl) (t_bk hR16 ?_))))))
              refine t_nr 34 k_api_DiskFile ?_
              exact t_go (J297 0 none 0 0 ([] : List api_DiskFile) false 0 243 h94) ⟨rfl, rfl, rfl, trivial⟩ (.cons e5 (.cons e0 .nil)) (fun w Z hA => V1 a1 hA (V0))
          · replace h94 := itF hb101 h94
            refine t_F rfl hb101 ?_
            refine t_exit ?_
            refine te (te (bx ?_))
            exact t_norm (t_go (J118 h94) ⟨rfl, rfl, rfl, rfl, rfl, rfl, rfl, trivial⟩ (.cons e0 (.cons e0 (.cons e0 (.cons e1 .nil)))) (fun w Z hA => V1 a0 hA (V1 a1 hA (V0))))
      exact t_go (LP93 ((((([z1] ++ ([] : List ByteArray)).length : Int) : Int) - (0)).toNat + 1) 0 h) ⟨rfl, rfl, rfl, rfl, rfl, rfl, rfl, rfl, rfl, rfl, trivial⟩ (.cons e4 (.cons e2 (.cons e1 (.cons e0 (.cons e0 .nil))))) (fun w Z hA => V1 a0 hA (V1 a1 hA (V0)))
  · replace h := itF hb27 h
    refine t_T rfl (congrArg Bool.not hb27) ?_
    refine t_seq fun K28 hK29 => ?_
    refine t_region ?_
    refine c_p (r_bu (ps := []) (cs := [.int .i64 0, .slice none 0 0, .bool false, .int .i64 0]) rfl (by kernel_rfl)) rfl ?_
    refine nx (t_st u0 ti27 rfl rfl rfl rfl rfl (.t (.s (.s (.s (.s .z))))) ?_)
    refine c_p (r_as rfl) rfl ?_
    refine t_nil ?_
    refine t_then hK29 ?_
    refine t_ret ?_
    refine tr (ret2 rfl (v_N rfl a0 Tryd.underlying27 rfl ti27 rfl) (v_t rfl) (t_bk hR16 ?_))
    refine t_nr 34 k_api_DiskFile ?_
    exact t_go (J297 0 none 0 0 ([] : List api_DiskFile) false 0 241 h) ⟨rfl, rfl, rfl, trivial⟩ (.cons e3 (.cons e0 .nil)) (fun w Z hA => V1 a1 hA (V0))
end Go.Proofs.YtkjeedijloobgaaDoor.Gx

/- Function 68, kaudit/disk.less: what it answers as a plain function, and that the Go code comes to exactly that (where the plain function gives an answer). -/
set_option linter.unusedVariables false
set_option linter.unusedSimpArgs false
namespace Go.Proofs.YtkjeedijloobgaaDoor.Gx
open Go.Gx Go.RowKit
/-! ### kaudit/disk.less: function 68 -/
def f_disk_less (z0 : Int) (z1 : Int) : Option (Int) := if (decide (z0 < 0)) = true then (some (-1)) else (some (IntKind.wrap .i64 (z0 - z1)))
set_option maxHeartbeats 4000000 in
set_option maxRecDepth 100000 in
theorem C68 (z0 : Int) (z1 : Int) (r : Int) (h : f_disk_less z0 z1 = some r) : FunG Tryd.prog 68 #[.int .i64 z0, .int .i64 z1] [g_names] [] (fun (_ : Unit) => .int .i64 r) (fun _ => []) (fun _ => []) := by
  unfold f_disk_less at h
  refine t_begin (args := [.int .i64 z0, .int .i64 z1]) Tryd.func68 rfl Tryd.ntmps68 rfl fun c R hR => ?_
  have hQ : ∀ X, X = r → ∀ w2 (_ : Unit), PostG c.w0 w2 c.M c.Y [] [] → R (.returned (.int .i64 X)) w2 := fun X e => by subst e; exact hR
  refine t_seq fun K1 hK2 => ?_
  refine t_region ?_
  refine c_p (r_as rfl) rfl ?_
  refine t_nil ?_
  refine t_then hK2 ?_
  refine t_seq fun K3 hK4 => ?_
  refine t_seq fun K5 hK6 => ?_
  refine t_region ?_
  refine c_p (r_mv rfl) rfl ?_
  refine c_p (r_i rfl rfl rfl) rfl ?_
  refine t_nil ?_
  refine t_then hK6 ?_
  rcases Bool.eq_false_or_eq_true (decide (z0 < 0)) with hb7 | hb7
  · replace h := itT hb7 h
    refine t_T rfl hb7 ?_
    refine t_seq fun K8 hK9 => ?_
    refine t_region ?_
    refine c_p (r_as rfl) rfl ?_
    refine t_nil ?_
    refine t_then hK9 ?_
    refine t_ret ?_
    exact tr (ret1 rfl (v_t rfl) (t_leave (hQ _ (Option.some.inj h)) () rfl (fun w Z hA => V0) .nil))
  · replace h := itF hb7 h
    refine t_F rfl hb7 ?_
    refine t_skip ?_
    refine t_then hK4 ?_
    refine t_seq fun K10 hK11 => ?_
    refine t_region ?_
    refine c_p (r_mv rfl) rfl ?_
    refine c_p (r_mv rfl) rfl ?_
    refine c_p (r_i rfl rfl rfl) rfl ?_
    refine c_p (r_as rfl) rfl ?_
    refine t_nil ?_
    refine t_then hK11 ?_
    refine t_ret ?_
    exact ret1 rfl (v_t rfl) (t_leave (hQ _ (Option.some.inj h)) () rfl (fun w Z hA => V0) .nil)
end Go.Proofs.YtkjeedijloobgaaDoor.Gx

/- Function 50, kaudit/disk.Free: what it answers as a plain function, and that the Go code comes to exactly that (where the plain function gives an answer). -/
set_option linter.unusedVariables false
set_option linter.unusedSimpArgs false
namespace Go.Proofs.YtkjeedijloobgaaDoor.Gx
open Go.Gx Go.RowKit
/-! ### kaudit/disk.Free: function 50 -/
def f_disk_Free (z0 : api_Disk) : Option (Int) := (f_disk_Used z0).bind fun y11 => (f_disk_less z0.Room y11).bind fun y13 => some (max (0 : Int) y13)
set_option maxHeartbeats 4000000 in
set_option maxRecDepth 100000 in
theorem C50 (z0 : api_Disk) (p1 : Option Addr) (m2 : Nat) (c3 : Nat) (r : Int) (h : f_disk_Free z0 = some r) : FunG Tryd.prog 50 #[.agg #[.int .i64 z0.Room, .slice p1 m2 c3, .bool z0.Off, .int .i64 z0.Plan]] [vw (kSlice 34 k_api_DiskFile) z0.Files [.slice p1 m2 c3], g_names] [] (fun (_ : Unit) => .int .i64 r) (fun _ => []) (fun _ => []) := by
  unfold f_disk_Free at h
  refine t_begin (args := [.agg #[.int .i64 z0.Room, .slice p1 m2 c3, .bool z0.Off, .int .i64 z0.Plan]]) Tryd.func50 rfl Tryd.ntmps50 rfl fun c R hR => ?_
  have hQ : ∀ X, X = r → ∀ w2 (_ : Unit), PostG c.w0 w2 c.M c.Y [] [] → R (.returned (.int .i64 X)) w2 := fun X e => by subst e; exact hR
  refine t_seq fun K4 hK5 => ?_
  refine t_region ?_
  refine nx (t_bx (cs := [.int .i64 z0.Room, .slice p1 m2 c3, .bool z0.Off, .int .i64 z0.Plan]) rfl rfl rfl fun g6 => ?_)
  refine c_p (r_as rfl) rfl ?_
  refine t_nil ?_
  refine t_then hK5 ?_
  refine t_seq fun K7 hK8 => ?_
  refine t_draw mixed (fun w_ => Bk g6 [.int .i64 z0.Room, .slice p1 m2 c3, .bool z0.Off, .int .i64 z0.Plan] w_ ∧ True) [1] [3, 4] rfl ?_
  refine q_p 0 (panic_then panic_body) rfl (by kernel_rfl) W0 (r_fa (off' := 0) Tryd.underlying27 rfl ti3 rfl rfl) rfl ?_
  refine q_s 1 (panic_then panic_body) rfl (by kernel_rfl) W0 (by kernel_rfl) (fun w H => ⟨bk a0 H, trivial⟩) (b_ld (fun _ h => h.1) Tryd.underlying3 rfl rfl rfl) rfl ?_
  refine q_u 2 (panic_then panic_body) rfl (by kernel_rfl) W0 (by kernel_rfl) (r_ldA a0 Tryd.underlying27 rfl ti27 rfl rfl) rfl ?_
  refine d1 3 rfl (by kernel_rfl) (by kernel_rfl) ?_
  obtain ⟨y11, hy11, h⟩ := bs h
  refine t_ca (C37 _ _ _ _ _ hy11) Tryd.func37 nm37 rfl rfl rfl .nil (fun w Z hA => (V1 a0 hA (V1 a1 hA V0))) rfl fun t12 => ?_
  refine dk (fun w H => ⟨bk a0 H, trivial⟩) ?_
  refine d1 4 rfl (by kernel_rfl) (by kernel_rfl) ?_
  obtain ⟨y13, hy13, h⟩ := bs h
  refine t_ca (C68 _ _ _ hy13) Tryd.func68 nm68 rfl rfl rfl .nil (fun w Z hA => (V1 a1 hA V0)) rfl fun t14 => ?_
  refine dn (by kernel_rfl) ?_
  refine q_p 5 (panic_then panic_body) rfl (by kernel_rfl) W0 (r_max rfl rfl) rfl ?_
  refine q_p 6 (panic_then panic_body) rfl (by kernel_rfl) W0 (r_as rfl) rfl ?_
  refine dz (by kernel_rfl) ?_
  refine t_then hK8 ?_
  refine t_ret ?_
  exact ret1 rfl (v_t rfl) (t_leave (hQ _ (Option.some.inj h)) () rfl (fun w Z hA => V0) .nil)
end Go.Proofs.YtkjeedijloobgaaDoor.Gx

/- Function 17, kaudit/disk.Append: what it answers as a plain function, and that the Go code comes to exactly that (where the plain function gives an answer). -/
set_option linter.unusedVariables false
set_option linter.unusedSimpArgs false
namespace Go.Proofs.YtkjeedijloobgaaDoor.Gx
open Go.Gx Go.RowKit
/-! ### kaudit/disk.Append: function 17 -/
def f_disk_Append_j6 (x252 : Int) (x256 : List api_DiskFile) (x257 : Bool) (x258 : Int) (x259 : Int) : Option (api_Disk × Int) := some ((⟨x252, x256, x257, x258⟩ : api_Disk), x259)
def f_disk_Append_j5 (z2 : (List Int)) (y127 : Int) (y178 : api_Disk) (x217 : Int) : Option (api_Disk × Int) := (at_ y178.Files y127).bind fun el231 => ck (fits (el231.Data.length + z2.length) 1 = true) <| f_disk_Append_j6 y178.Room (y178.Files.set y127.toNat (⟨el231.Name, (el231.Data ++ z2), el231.Safe⟩ : api_DiskFile)) y178.Off x217 0
def f_disk_Append_j4 (z0 : api_Disk) (z2 : (List Int)) (y127 : Int) : Option (api_Disk × Int) := (f_fresh_Disk z0).bind fun y178 => if (decide (y178.Plan > 0)) = true then (if ((IntKind.wrap .i64 (y178.Plan - 1)) == 0) = true then ((at_ y178.Files y127).bind fun el204 => ck (fits (el204.Data.length + z2.length) 1 = true) <| f_disk_Append_j6 y178.Room (y178.Files.set y127.toNat (⟨el204.Name, (el204.Data ++ z2), el204.Safe⟩ : api_DiskFile)) true (IntKind.wrap .i64 (y178.Plan - 1)) 242) else (f_disk_Append_j5 z2 y127 y178 (IntKind.wrap .i64 (y178.Plan - 1)))) else (f_disk_Append_j5 z2 y127 y178 y178.Plan)
def f_disk_Append_j3 (z0 : api_Disk) (z2 : (List Int)) (y127 : Int) (x166 : Int) : Option (api_Disk × Int) := if (x166 != 0) = true then (f_disk_Append_j6 0 ([] : List api_DiskFile) false 0 x166) else (f_disk_Append_j4 z0 z2 y127)
def f_disk_Append_j2 (z0 : api_Disk) (z2 : (List Int)) (y127 : Int) : Option (api_Disk × Int) := (f_disk_Free z0).bind fun y159 => if (decide ((z2.length : Int) > y159)) = true then (f_disk_Append_j3 z0 z2 y127 247) else (f_disk_Append_j3 z0 z2 y127 0)
def f_disk_Append_j1 (z0 : api_Disk) (z1 : ByteArray) (z2 : (List Int)) : Option (api_Disk × Int) := (f_disk_find z0 z1).bind fun y127 => if (decide (y127 < 0)) = true then (f_disk_Append_j6 0 ([] : List api_DiskFile) false 0 244) else (if (decide (y127 ≥ 0)) = true then (f_disk_Append_j2 z0 z2 y127) else (f_disk_Append_j2 z0 z2 y127))
def f_disk_Append_l1 (z0 : api_Disk) (z1 : ByteArray) (z2 : (List Int)) : Nat → Int → Option (api_Disk × Int)
  | 0, _ => none
  | k100 + 1, x97 => if (decide (x97 < (([z1] ++ ([] : List ByteArray)).length : Int))) = true then ((at_ ([z1] ++ ([] : List ByteArray)) x97).bind fun el114 => (f_disk_isName el114).bind fun y118 => if y118 = true then (f_disk_Append_l1 z0 z1 z2 k100 (IntKind.wrap .i64 (x97 + 1))) else (f_disk_Append_j6 0 ([] : List api_DiskFile) false 0 243)) else (f_disk_Append_j1 z0 z1 z2)
def f_disk_Append (z0 : api_Disk) (z1 : ByteArray) (z2 : (List Int)) : Option (api_Disk × Int) := (f_disk_Valid z0).bind fun y30 => if y30 = true then (if z0.Off = true then ((f_fresh_Disk z0).bind fun y42 => f_disk_Append_j6 y42.Room y42.Files y42.Off y42.Plan 242) else (ck (fits ([z1].length + ([] : List ByteArray).length) 16 = true) <| f_disk_Append_l1 z0 z1 z2 ((((([z1] ++ ([] : List ByteArray)).length : Int) : Int) - (0)).toNat + 1) 0)) else (f_disk_Append_j6 0 ([] : List api_DiskFile) false 0 241)
set_option maxHeartbeats 4000000 in
set_option maxRecDepth 100000 in
theorem C17 (z0 : api_Disk) (z1 : ByteArray) (z2 : (List Int)) (p1 : Option Addr) (m2 : Nat) (c3 : Nat) (p4 : Option Addr) (m5 : Nat) (c6 : Nat) (r : api_Disk × Int) (h : f_disk_Append z0 z1 z2 = some r) : FunG Tryd.prog 17 #[.agg #[.int .i64 z0.Room, .slice p1 m2 c3, .bool z0.Off, .int .i64 z0.Plan], .string z1, .slice p4 m5 c6] [vw (kSlice 34 k_api_DiskFile) z0.Files [.slice p1 m2 c3], vw (kSlice 5 (kInt .u8)) z2 [.slice p4 m5 c6], g_names] [] (fun t : (Option Addr × Nat × Nat) => .tuple #[.agg #[.int .i64 r.1.Room, .slice t.1 t.2.1 t.2.2, .bool r.1.Off, .int .i64 r.1.Plan], .int .i64 r.2]) (fun t => []) (fun t => [[row 34 k_api_DiskFile r.1.Files (.slice t.1 t.2.1 t.2.2)]]) := by
  unfold f_disk_Append at h
  refine t_begin (args := [.agg #[.int .i64 z0.Room, .slice p1 m2 c3, .bool z0.Off, .int .i64 z0.Plan], .string z1, .slice p4 m5 c6]) Tryd.func17 rfl Tryd.ntmps17 rfl fun c R hR => ?_
  have hQ : ∀ X, X = r → ∀ w2 (t : (Option Addr × Nat × Nat)), PostG c.w0 w2 c.M c.Y [] [[row 34 k_api_DiskFile X.1.Files (.slice t.1 t.2.1 t.2.2)]] → R (.returned (.tuple #[.agg #[.int .i64 X.1.Room, .slice t.1 t.2.1 t.2.2, .bool X.1.Off, .int .i64 X.1.Plan], .int .i64 X.2])) w2 := fun X e => by subst e; exact hR
  refine t_seq fun K7 hK8 => ?_
  refine t_region ?_
  refine nx (t_bx (cs := [.int .i64 z0.Room, .slice p1 m2 c3, .bool z0.Off, .int .i64 z0.Plan]) rfl rfl rfl fun g9 => ?_)
  refine nx (t_bx (cs := [.slice p4 m5 c6]) rfl rfl rfl fun g10 => ?_)
  refine nx (t_al (cs := [.int .i64 0, .slice none 0 0, .bool false, .int .i64 0]) ti27 rfl rfl fun g11 => ?_)
  refine c_p (r_as rfl) rfl ?_
  refine t_nil ?_
  refine t_then hK8 ?_
  refine t_seq fun K12 hK13 => ?_
  refine t_region ?_
  refine c_p (r_mf (vs := [.pointer (some ⟨g10, 0, none⟩)]) rfl) rfl ?_
  refine c_p (r_as rfl) rfl ?_
  refine t_nil ?_
  refine t_then hK13 ?_
  refine t_seq fun K14 hK15 => ?_
  refine t_region ?_
  refine c_p (r_mf (vs := [.pointer (some ⟨g10, 0, none⟩)]) rfl) rfl ?_
  refine c_p (r_as rfl) rfl ?_
  refine t_nil ?_
  refine t_then hK15 ?_
  refine t_seq fun K16 hK17 => ?_
  refine t_region ?_
  refine c_s (r_ldA a2 Tryd.underlying27 rfl ti27 rfl rfl) rfl ?_
  refine c_p (r_mv rfl) rfl ?_
  refine c_p (r_mv rfl) rfl ?_
  refine c_p (r_mv rfl) rfl ?_
  refine c_p (r_mv rfl) rfl ?_
  refine nx (t_in (args := [.agg #[.int .i64 z0.Room, .slice p1 m2 c3, .bool z0.Off, .int .i64 z0.Plan], .string z1, .slice none 0 0, .bool false, .func (.func 49) #[] #[.pointer (some ⟨g10, 0, none⟩)], .func (.func 51) #[] #[.pointer (some ⟨g10, 0, none⟩)], .func (.func 51) #[] #[.pointer (some ⟨g10, 0, none⟩)]]) (cap := []) (all := [.agg #[.int .i64 z0.Room, .slice p1 m2 c3, .bool z0.Off, .int .i64 z0.Plan], .string z1, .slice none 0 0, .bool false, .func (.func 49) #[] #[.pointer (some ⟨g10, 0, none⟩)], .func (.func 51) #[] #[.pointer (some ⟨g10, 0, none⟩)], .func (.func 51) #[] #[.pointer (some ⟨g10, 0, none⟩)]]) rfl rfl Tryd.func40 nm40 rfl rfl rfl Tryd.ntmps40 rfl fun R18 k19 hk20 hR21 => ?_)
  have J260 : ∀ (x252 : Int) (p253 : Option Addr) (m254 : Nat) (c255 : Nat) (x256 : List api_DiskFile) (x257 : Bool) (x258 : Int) (x259 : Int), f_disk_Append_j6 x252 x256 x257 x258 x259 = some r → T 20 c [g_names] [[blk g11 [.int .i64 0, .slice none 0 0, .bool false, .int .i64 0] 27], [row 34 k_api_DiskFile x256 (.slice p253 m254 c255)]] [(6, .pointer (some ⟨g11, 0, none⟩)), (7, .int .i64 0), (17, .tuple #[.agg #[.int .i64 x252, .slice p253 m254 c255, .bool x257, .int .i64 x258], .int .i64 x259])] k19 := by
    intro x252 p253 m254 c255 x256 x257 x258 x259 h261
    unfold f_disk_Append_j6 at h261
    refine ti hk20 ?_
    refine c_p (r_ex rfl rfl) rfl ?_
    refine c_p (r_ex rfl rfl) rfl ?_
    refine nx (t_st u0 ti27 rfl rfl rfl rfl rfl (.t (.s (.s (.s (.s .z))))) ?_)
    refine c_p (r_as rfl) rfl ?_
    refine t_nil ?_
    refine t_then hK17 ?_
    refine t_ret ?_
    exact ret2 rfl (v_N rfl a0 Tryd.underlying27 rfl ti27 rfl) (v_t rfl) (t_leave (hQ _ (Option.some.inj h261)) (p253, m254, c255) rfl (fun w Z hA => V0) (.cons e1 .nil))
  refine t_seq fun K22 hK23 => ?_
  refine t_region ?_
  refine nx (t_bx (cs := [.int .i64 z0.Room, .slice p1 m2 c3, .bool z0.Off, .int .i64 z0.Plan]) rfl rfl rfl fun g24 => ?_)
  refine nx (t_al (cs := [.int .i64 0, .slice none 0 0, .bool false, .int .i64 0]) ti27 rfl rfl fun g25 => ?_)
  refine c_p (r_as rfl) rfl ?_
  refine t_nil ?_
  refine t_then hK23 ?_
  refine t_seq fun K26 hK27 => ?_
  refine t_seq fun K28 hK29 => ?_
  refine t_region ?_
  refine c_s (r_ldA a1 Tryd.underlying27 rfl ti27 rfl rfl) rfl ?_
  obtain ⟨y30, hy30, h⟩ := bs h
  refine nx (t_ca (C10 _ _ _ _ _ hy30) Tryd.func10 nm10 rfl rfl rfl .nil (fun w Z hA => (V1 a0 hA (V1 a2 hA V0))) rfl fun t31 => ?_)
  refine c_p (r_not rfl) rfl ?_
  refine t_nil ?_
  refine t_then hK29 ?_
  rcases Bool.eq_false_or_eq_true y30 with hb32 | hb32
  · replace h := itT hb32 h
    refine t_F rfl (congrArg Bool.not hb32) ?_
    refine t_skip ?_
    refine t_then hK27 ?_
    refine t_seq fun K35 hK36 => ?_
    refine t_seq fun K37 hK38 => ?_
    refine t_region ?_
    refine c_p (r_fa (off' := 2) Tryd.underlying27 rfl ti4 rfl rfl) rfl ?_
    refine c_s (r_ld a1 Tryd.underlying4 rfl rfl rfl) rfl ?_
    refine t_nil ?_
    refine t_then hK38 ?_
    rcases Bool.eq_false_or_eq_true z0.Off with hb39 | hb39
    · replace h := itT hb39 h
      refine t_T rfl hb39 ?_
      refine t_seq fun K40 hK41 => ?_
      refine t_region ?_
      refine c_s (r_ldA a1 Tryd.underlying27 rfl ti27 rfl rfl) rfl ?_
      obtain ⟨y42, hy42, h⟩ := bs h
      refine nx (t_ca (C61 _ _ _ _ _ hy42) Tryd.func61 nm61 rfl rfl rfl .nil (fun w Z hA => (V1 a0 hA (V1 a2 hA V0))) rfl fun t43 => ?_)
      refine nx (t_st u1 ti27 rfl rfl rfl rfl rfl (.t (.s (.s (.s (.s .z))))) ?_)
      refine c_p (r_as rfl) rfl ?_
      refine t_nil ?_
      refine t_then hK41 ?_
      refine t_ret ?_
      refine tr (ret2 rfl (v_N rfl a1 Tryd.underlying27 rfl ti27 rfl) (v_t rfl) (t_bk hR21 ?_))
      exact t_go (J260 y42.Room t43.1 t43.2.1 t43.2.2 y42.Files y42.Off y42.Plan 242 h) ⟨rfl, rfl, rfl, trivial⟩ (.cons e3 (.cons e0 .nil)) (fun w Z hA => V1 a2 hA (V0))
    · replace h := itF hb39 h
      refine t_F rfl hb39 ?_
      refine t_skip ?_
      refine t_then hK36 ?_
      refine t_seq fun K44 hK45 => ?_
      have J123 : f_disk_Append_j1 z0 z1 z2 = some r → T 90 c [vw (kSlice 5 (kInt .u8)) z2 [.slice p4 m5 c6], vw (kSlice 34 k_api_DiskFile) z0.Files [.slice p1 m2 c3], g_names] [[blk g10 [.slice p4 m5 c6] 22], [blk g24 [.int .i64 z0.Room, .slice p1 m2 c3, .bool z0.Off, .int .i64 z0.Plan] 27], [blk g25 [.int .i64 0, .slice none 0 0, .bool false, .int .i64 0] 27], [blk g11 [.int .i64 0, .slice none 0 0, .bool false, .int .i64 0] 27]] [(1, .string z1), (3, .bool false), (4, .func (.func 49) #[] #[.pointer (some ⟨g10, 0, none⟩)]), (5, .func (.func 51) #[] #[.pointer (some ⟨g10, 0, none⟩)]), (6, .func (.func 51) #[] #[.pointer (some ⟨g10, 0, none⟩)]), (7, .pointer (some ⟨g24, 0, none⟩)), (14, .pointer (some ⟨g25, 0, none⟩))] K44 := by
        intro h124
        unfold f_disk_Append_j1 at h124
        refine ti hK45 ?_
        refine t_seq fun K125 hK126 => ?_
        refine t_region ?_
        refine c_s (r_ldA a1 Tryd.underlying27 rfl ti27 rfl rfl) rfl ?_
        refine c_p (r_mv rfl) rfl ?_
        obtain ⟨y127, hy127, h124⟩ := bs h124
        refine nx (t_ca (C34 _ _ _ _ _ _ hy127) Tryd.func34 nm34 rfl rfl rfl .nil (fun w Z hA => (V1 a1 hA (V1 a2 hA V0))) rfl fun t128 => ?_)
        refine c_p (r_as rfl) rfl ?_
        refine t_nil ?_
        refine t_then hK126 ?_
        refine t_seq fun K129 hK130 => ?_
        have J139 : f_disk_Append_j2 z0 z2 y127 = some r → T 90 c [vw (kSlice 5 (kInt .u8)) z2 [.slice p4 m5 c6], vw (kSlice 34 k_api_DiskFile) z0.Files [.slice p1 m2 c3], g_names] [[blk g10 [.slice p4 m5 c6] 22], [blk g24 [.int .i64 z0.Room, .slice p1 m2 c3, .bool z0.Off, .int .i64 z0.Plan] 27], [blk g25 [.int .i64 0, .slice none 0 0, .bool false, .int .i64 0] 27], [blk g11 [.int .i64 0, .slice none 0 0, .bool false, .int .i64 0] 27]] [(4, .func (.func 49) #[] #[.pointer (some ⟨g10, 0, none⟩)]), (5, .func (.func 51) #[] #[.pointer (some ⟨g10, 0, none⟩)]), (6, .func (.func 51) #[] #[.pointer (some ⟨g10, 0, none⟩)]), (7, .pointer (some ⟨g24, 0, none⟩)), (14, .pointer (some ⟨g25, 0, none⟩)), (18, .int .i64 y127)] K129 := by
          intro h140
          unfold f_disk_Append_j2 at h140
          refine ti hK130 ?_
          refine t_seq fun K141 hK142 => ?_
          have J174 : f_disk_Append_j4 z0 z2 y127 = some r → T 90 c [vw (kSlice 5 (kInt .u8)) z2 [.slice p4 m5 c6], vw (kSlice 34 k_api_DiskFile) z0.Files [.slice p1 m2 c3], g_names] [[blk g10 [.slice p4 m5 c6] 22], [blk g24 [.int .i64 z0.Room, .slice p1 m2 c3, .bool z0.Off, .int .i64 z0.Plan] 27], [blk g25 [.int .i64 0, .slice none 0 0, .bool false, .int .i64 0] 27], [blk g11 [.int .i64 0, .slice none 0 0, .bool false, .int .i64 0] 27]] [(5, .func (.func 51) #[] #[.pointer (some ⟨g10, 0, none⟩)]), (6, .func (.func 51) #[] #[.pointer (some ⟨g10, 0, none⟩)]), (7, .pointer (some ⟨g24, 0, none⟩)), (14, .pointer (some ⟨g25, 0, none⟩)), (18, .int .i64 y127)] K141 := by
            intro h175
            unfold f_disk_Append_j4 at h175
            refine ti hK142 ?_
            refine t_seq fun K176 hK177 => ?_
            refine t_region ?_
            refine c_s (r_ldA a1 Tryd.underlying27 rfl ti27 rfl rfl) rfl ?_
            obtain ⟨y178, hy178, h175⟩ := bs h175
            refine nx (t_ca (C61 _ _ _ _ _ hy178) Tryd.func61 nm61 rfl rfl rfl .nil (fun w Z hA => (V1 a1 hA (V1 a2 hA V0))) rfl fun t179 => ?_)
            refine nx (t_al (cs := [.int .i64 0, .slice none 0 0, .bool false, .int .i64 0]) ti27 rfl rfl fun g180 => ?_)
            refine nx (t_st u0 ti27 rfl rfl rfl rfl rfl (.t (.s (.s (.s (.s .z))))) ?_)
            refine t_nil ?_
            refine t_then hK177 ?_
            refine t_seq fun K181 hK182 => ?_
            have J218 : ∀ (x217 : Int), f_disk_Append_j5 z2 y127 y178 x217 = some r → T 90 c [vw (kSlice 5 (kInt .u8)) z2 [.slice p4 m5 c6], g_names] [[blk g10 [.slice p4 m5 c6] 22], [blk g25 [.int .i64 0, .slice none 0 0, .bool false, .int .i64 0] 27], [row 34 k_api_DiskFile y178.Files (.slice t179.1 t179.2.1 t179.2.2)], [blk g180 [.int .i64 y178.Room, .slice t179.1 t179.2.1 t179.2.2, .bool y178.Off, .int .i64 x217] 27], [blk g11 [.int .i64 0, .slice none 0 0, .bool false, .int .i64 0] 27]] [(5, .func (.func 51) #[] #[.pointer (some ⟨g10, 0, none⟩)]), (14, .pointer (some ⟨g25, 0, none⟩)), (18, .int .i64 y127), (20, .pointer (some ⟨g180, 0, none⟩))] K181 := by
              intro x217 h219
              unfold f_disk_Append_j5 at h219
              refine ti hK182 ?_
              refine t_seq fun K220 hK221 => ?_
              refine t_region ?_
              refine c_p (r_mv rfl) rfl ?_
              refine c_p (r_mv rfl) rfl ?_
              refine nx (t_in (args := [.pointer (some ⟨g180, 0, none⟩), .int .i64 y127]) (cap := [.pointer (some ⟨g10, 0, none⟩)]) (all := [.pointer (some ⟨g180, 0, none⟩), .int .i64 y127, .pointer (some ⟨g10, 0, none⟩)]) rfl rfl Tryd.func51 nm51 rfl rfl rfl Tryd.ntmps51 rfl fun R222 k223 hk224 hR225 => ?_)
              refine t_draw mixed (fun w_ => Bk g180 [.int .i64 y178.Room, .slice t179.1 t179.2.1 t179.2.2, .bool y178.Off, .int .i64 x217] w_ ∧ True) [3] [14, 17] rfl ?_
              refine q_p 0 panic_body rfl (by kernel_rfl) W0 (r_mv rfl) rfl ?_
              refine q_p 1 panic_body rfl (by kernel_rfl) W0 (r_nc rfl) rfl ?_
              refine q_p 2 panic_body rfl (by kernel_rfl) W0 (r_fa (off' := 1) Tryd.underlying27 rfl ti25 rfl rfl) rfl ?_
              refine q_s 3 panic_body rfl (by kernel_rfl) W0 (by kernel_rfl) (fun w H => ⟨bk a3 H, trivial⟩) (b_ld (fun _ h => h.1) Tryd.underlying25 rfl rfl rfl) rfl ?_
              refine q_p 4 panic_body rfl (by kernel_rfl) W0 (r_mv rfl) rfl ?_
              refine q_p 5 panic_body rfl (by kernel_rfl) W0 (r_mv rfl) rfl ?_
              refine q_p 6 panic_body rfl (by kernel_rfl) W0 (r_nc rfl) rfl ?_
              refine q_p 7 panic_body rfl (by kernel_rfl) W0 (r_fa (off' := 1) Tryd.underlying27 rfl ti25 rfl rfl) rfl ?_
              refine q_u 8 panic_body rfl (by kernel_rfl) W0 (by kernel_rfl) (r_ld a3 Tryd.underlying25 rfl rfl rfl) rfl ?_
              refine q_p 9 panic_body rfl (by kernel_rfl) W0 (r_mv rfl) rfl ?_
              obtain ⟨el231, hel231, h219⟩ := bs h219
              refine t_qL a2 hel231 fun q228 hq229 hm230 => ?_
              refine q_p 10 panic_body rfl (by kernel_rfl) W0 (r_idx hq229 hm230 hel231 Tryd.underlying25 ti34 rfl rfl) rfl ?_
              refine t_qf hq229 1 fun q232 hq233 => ?_
              refine q_p 11 panic_body rfl (by kernel_rfl) W0 (r_fai hq229 hq233 Tryd.underlying34 rfl ti22 rfl rfl) rfl ?_
              refine t_oI k_api_DiskFile_opensO e2 hel231 fun t234 => ?_
              refine q_u 12 panic_body rfl (by kernel_rfl) W0 (by kernel_rfl) (r_h1 a0 hq233 Tryd.underlying22 rfl rfl rfl) rfl ?_
              refine q_u 13 panic_body rfl (by kernel_rfl) W0 (by kernel_rfl) (r_ld a2 Tryd.underlying22 rfl rfl rfl) rfl ?_
              refine d1 14 rfl (by kernel_rfl) (by kernel_rfl) ?_
              obtain ⟨hc235, h219⟩ := ck_out h219
              refine t_app (Kd := (kInt .u8)) (xs := el231.Data) (ys := z2) (.cons e1 .nil) rfl rfl Tryd.underlying22 Tryd.underlying22 ti5 rfl rfl hc235 (srcA (flatK_int .u8) a0) rfl fun t236 => ?_
              refine dk (fun w H => ⟨bk a4 H, trivial⟩) ?_
              refine t_qH a1 hel231 fun q237 hq238 hm239 => ?_
              refine q_p 15 panic_body rfl (by kernel_rfl) W0 (r_idx hq238 hm239 hel231 Tryd.underlying25 ti34 rfl rfl) rfl ?_
              refine t_qf hq238 1 fun q240 hq241 => ?_
              refine q_p 16 panic_body rfl (by kernel_rfl) W0 (r_fai hq238 hq241 Tryd.underlying34 rfl ti22 rfl rfl) rfl ?_
              refine d1 17 rfl (by kernel_rfl) (by kernel_rfl) ?_
              refine t_hs u1 hq241 ti22 rfl rfl rfl rfl rfl (.s (.t (.s .z))) ?_
              refine dn (by kernel_rfl) ?_
              refine dz (by kernel_rfl) ?_
              refine end0 rfl  (t_bk hR225 ?_)
              refine ti hk224 ?_
              refine t_nil ?_
              refine t_then hK221 ?_
              refine t_seq fun K242 hK243 => ?_
              refine t_region ?_
              refine c_s (r_ldA a4 Tryd.underlying27 rfl ti27 rfl rfl) rfl ?_
              refine nx (t_st u3 ti27 rfl rfl rfl rfl rfl (.t (.s (.s (.s (.s .z))))) ?_)
              refine c_p (r_as rfl) rfl ?_
              refine t_nil ?_
              refine t_then hK243 ?_
              refine t_ret ?_
              refine ret2 rfl (v_N rfl a3 Tryd.underlying27 rfl ti27 rfl) (v_t rfl) (t_bk hR21 ?_)
              refine t_cI (u := (⟨el231.Name, (el231.Data ++ z2), el231.Safe⟩ : api_DiskFile)) (t := (t236.1, t236.2.1, t236.2.2)) k_api_DiskFile_shutsO (.cons e1 (.cons e0 .nil)) rfl (fun w Z hA => trivial) ?_
              have hn251 := at_set (u' := (⟨el231.Name, (el231.Data ++ z2), el231.Safe⟩ : api_DiskFile)) hel231
              exact t_go (J260 y178.Room t179.1 t179.2.1 t179.2.2 (y178.Files.set y127.toNat (⟨el231.Name, (el231.Data ++ z2), el231.Safe⟩ : api_DiskFile)) y178.Off x217 0 h219) ⟨rfl, rfl, rfl, trivial⟩ (.cons e4 (.cons e0 .nil)) (fun w Z hA => V1 a1 hA (V0))
            refine t_seq fun K183 hK184 => ?_
            refine t_region ?_
            refine c_p (r_fa (off' := 3) Tryd.underlying27 rfl ti3 rfl rfl) rfl ?_
            refine c_s (r_ld a0 Tryd.underlying3 rfl rfl rfl) rfl ?_
            refine c_p (r_i rfl rfl rfl) rfl ?_
            refine t_nil ?_
            refine t_then hK184 ?_
            rcases Bool.eq_false_or_eq_true (decide (y178.Plan > 0)) with hb185 | hb185
            · replace h175 := itT hb185 h175
              refine t_T rfl hb185 ?_
              refine t_seq fun K186 hK187 => ?_
              refine t_region ?_
              refine c_p (r_fa (off' := 3) Tryd.underlying27 rfl ti3 rfl rfl) rfl ?_
              refine c_s (r_ld a0 Tryd.underlying3 rfl rfl rfl) rfl ?_
              refine c_p (r_i rfl rfl rfl) rfl ?_
              refine c_p (r_fa (off' := 3) Tryd.underlying27 rfl ti3 rfl rfl) rfl ?_
              refine nx (t_st u0 ti3 rfl rfl rfl rfl rfl (.s (.s (.s (.t (.s .z))))) ?_)
              refine t_nil ?_
              refine t_then hK187 ?_
              refine t_seq fun K188 hK189 => ?_
              refine t_region ?_
              refine c_p (r_fa (off' := 3) Tryd.underlying27 rfl ti3 rfl rfl) rfl ?_
              refine c_s (r_ld a0 Tryd.underlying3 rfl rfl rfl) rfl ?_
              refine c_p (r_i rfl rfl rfl) rfl ?_
              refine t_nil ?_
              refine t_then hK189 ?_
              rcases Bool.eq_false_or_eq_true ((IntKind.wrap .i64 (y178.Plan - 1)) == 0) with hb190 | hb190
              · replace h175 := itT hb190 h175
                refine t_T rfl hb190 ?_
                refine t_seq fun K191 hK192 => ?_
                refine t_region ?_
                refine c_p (r_fa (off' := 2) Tryd.underlying27 rfl ti4 rfl rfl) rfl ?_
                refine nx (t_st u0 ti4 rfl rfl rfl rfl rfl (.s (.s (.t (.s .z)))) ?_)
                refine t_nil ?_
                refine t_then hK192 ?_
                refine t_seq fun K193 hK194 => ?_
                refine t_region ?_
                refine c_p (r_mv rfl) rfl ?_
                refine c_p (r_mv rfl) rfl ?_
                refine nx (t_in (args := [.pointer (some ⟨g180, 0, none⟩), .int .i64 y127]) (cap := [.pointer (some ⟨g10, 0, none⟩)]) (all := [.pointer (some ⟨g180, 0, none⟩), .int .i64 y127, .pointer (some ⟨g10, 0, none⟩)]) rfl rfl Tryd.func51 nm51 rfl rfl rfl Tryd.ntmps51 rfl fun R195 k196 hk197 hR198 => ?_)
                refine t_draw mixed (fun w_ => Bk g180 [.int .i64 y178.Room, .slice t179.1 t179.2.1 t179.2.2, .bool true, .int .i64 (IntKind.wrap .i64 (y178.Plan - 1))] w_ ∧ True) [3] [14, 17] rfl ?_
                refine q_p 0 panic_body rfl (by kernel_rfl) W0 (r_mv rfl) rfl ?_
                refine q_p 1 panic_body rfl (by kernel_rfl) W0 (r_nc rfl) rfl ?_
                refine q_p 2 panic_body rfl (by kernel_rfl) W0 (r_fa (off' := 1) Tryd.underlying27 rfl ti25 rfl rfl) rfl ?_
                refine q_s 3 panic_body rfl (by kernel_rfl) W0 (by kernel_rfl) (fun w H => ⟨bk a0 H, trivial⟩) (b_ld (fun _ h => h.1) Tryd.underlying25 rfl rfl rfl) rfl ?_
                refine q_p 4 panic_body rfl (by kernel_rfl) W0 (r_mv rfl) rfl ?_
                refine q_p 5 panic_body rfl (by kernel_rfl) W0 (r_mv rfl) rfl ?_
                refine q_p 6 panic_body rfl (by kernel_rfl) W0 (r_nc rfl) rfl ?_
                refine q_p 7 panic_body rfl (by kernel_rfl) W0 (r_fa (off' := 1) Tryd.underlying27 rfl ti25 rfl rfl) rfl ?_
                refine q_u 8 panic_body rfl (by kernel_rfl) W0 (by kernel_rfl) (r_ld a0 Tryd.underlying25 rfl rfl rfl) rfl ?_
                refine q_p 9 panic_body rfl (by kernel_rfl) W0 (r_mv rfl) rfl ?_
                obtain ⟨el204, hel204, h175⟩ := bs h175
                refine t_qL a1 hel204 fun q201 hq202 hm203 => ?_
                refine q_p 10 panic_body rfl (by kernel_rfl) W0 (r_idx hq202 hm203 hel204 Tryd.underlying25 ti34 rfl rfl) rfl ?_
                refine t_qf hq202 1 fun q205 hq206 => ?_
                refine q_p 11 panic_body rfl (by kernel_rfl) W0 (r_fai hq202 hq206 Tryd.underlying34 rfl ti22 rfl rfl) rfl ?_
                refine t_oI k_api_DiskFile_opensO e1 hel204 fun t207 => ?_
                refine q_u 12 panic_body rfl (by kernel_rfl) W0 (by kernel_rfl) (r_h1 a0 hq206 Tryd.underlying22 rfl rfl rfl) rfl ?_
                refine q_u 13 panic_body rfl (by kernel_rfl) W0 (by kernel_rfl) (r_ld a3 Tryd.underlying22 rfl rfl rfl) rfl ?_
                refine d1 14 rfl (by kernel_rfl) (by kernel_rfl) ?_
                obtain ⟨hc208, h175⟩ := ck_out h175
                refine t_app (Kd := (kInt .u8)) (xs := el204.Data) (ys := z2) (.cons e1 .nil) rfl rfl Tryd.underlying22 Tryd.underlying22 ti5 rfl rfl hc208 (srcA (flatK_int .u8) a0) rfl fun t209 => ?_
                refine dk (fun w H => ⟨bk a2 H, trivial⟩) ?_
                refine t_qH a1 hel204 fun q210 hq211 hm212 => ?_
                refine q_p 15 panic_body rfl (by kernel_rfl) W0 (r_idx hq211 hm212 hel204 Tryd.underlying25 ti34 rfl rfl) rfl ?_
                refine t_qf hq211 1 fun q213 hq214 => ?_
                refine q_p 16 panic_body rfl (by kernel_rfl) W0 (r_fai hq211 hq214 Tryd.underlying34 rfl ti22 rfl rfl) rfl ?_
                refine d1 17 rfl (by kernel_rfl) (by kernel_rfl) ?_
                refine t_hs u1 hq214 ti22 rfl rfl rfl rfl rfl (.s (.t (.s .z))) ?_
                refine dn (by kernel_rfl) ?_
                refine dz (by kernel_rfl) ?_
                refine end0 rfl  (t_bk hR198 ?_)
                refine ti hk197 ?_
                refine t_nil ?_
                refine t_then hK194 ?_
                refine t_seq fun K215 hK216 => ?_
                refine t_region ?_
                refine c_s (r_ldA a2 Tryd.underlying27 rfl ti27 rfl rfl) rfl ?_
                refine nx (t_st u5 ti27 rfl rfl rfl rfl rfl (.t (.s (.s (.s (.s .z))))) ?_)
                refine c_p (r_as rfl) rfl ?_
                refine t_nil ?_
                refine t_then hK216 ?_
                refine t_ret ?_
                refine tr (ret2 rfl (v_N rfl a5 Tryd.underlying27 rfl ti27 rfl) (v_t rfl) (t_bk hR21 ?_))
                refine t_cI (u := (⟨el204.Name, (el204.Data ++ z2), el204.Safe⟩ : api_DiskFile)) (t := (t209.1, t209.2.1, t209.2.2)) k_api_DiskFile_shutsO (.cons e1 (.cons e0 .nil)) rfl (fun w Z hA => trivial) ?_
                have hn249 := at_set (u' := (⟨el204.Name, (el204.Data ++ z2), el204.Safe⟩ : api_DiskFile)) hel204
                exact t_go (J260 y178.Room t179.1 t179.2.1 t179.2.2 (y178.Files.set y127.toNat (⟨el204.Name, (el204.Data ++ z2), el204.Safe⟩ : api_DiskFile)) true (IntKind.wrap .i64 (y178.Plan - 1)) 242 h175) ⟨rfl, rfl, rfl, trivial⟩ (.cons e5 (.cons e0 .nil)) (fun w Z hA => V1 a2 hA (V0))
              · replace h175 := itF hb190 h175
                refine t_F rfl hb190 ?_
                refine t_skip ?_
                exact t_norm (t_go (J218 (IntKind.wrap .i64 (y178.Plan - 1)) h175) ⟨rfl, rfl, rfl, rfl, trivial⟩ (.cons e2 (.cons e3 (.cons e1 (.cons e0 (.cons e1 .nil))))) (fun w Z hA => V1 a0 hA (V1 a2 hA (V0))))
            · replace h175 := itF hb185 h175
              refine t_F rfl hb185 ?_
              refine t_skip ?_
              exact t_norm (t_go (J218 y178.Plan h175) ⟨rfl, rfl, rfl, rfl, trivial⟩ (.cons e2 (.cons e3 (.cons e1 (.cons e0 (.cons e1 .nil))))) (fun w Z hA => V1 a0 hA (V1 a2 hA (V0))))
          refine t_seq fun K143 hK144 => ?_
          refine t_region ?_
          refine c_p (r_mv rfl) rfl ?_
          refine c_s (r_ldA a1 Tryd.underlying27 rfl ti27 rfl rfl) rfl ?_
          refine c_p (r_mv rfl) rfl ?_
          refine nx (t_in (args := [.agg #[.int .i64 z0.Room, .slice p1 m2 c3, .bool z0.Off, .int .i64 z0.Plan], .int .i64 y127]) (cap := [.pointer (some ⟨g10, 0, none⟩)]) (all := [.agg #[.int .i64 z0.Room, .slice p1 m2 c3, .bool z0.Off, .int .i64 z0.Plan], .int .i64 y127, .pointer (some ⟨g10, 0, none⟩)]) rfl rfl Tryd.func49 nm49 rfl rfl rfl Tryd.ntmps49 rfl fun R145 k146 hk147 hR148 => ?_)
          have J167 : ∀ (x166 : Int), f_disk_Append_j3 z0 z2 y127 x166 = some r → T 90 c [vw (kSlice 5 (kInt .u8)) z2 [.slice p4 m5 c6], vw (kSlice 34 k_api_DiskFile) z0.Files [.slice p1 m2 c3], g_names] [[blk g10 [.slice p4 m5 c6] 22], [blk g24 [.int .i64 z0.Room, .slice p1 m2 c3, .bool z0.Off, .int .i64 z0.Plan] 27], [blk g25 [.int .i64 0, .slice none 0 0, .bool false, .int .i64 0] 27], [blk g11 [.int .i64 0, .slice none 0 0, .bool false, .int .i64 0] 27]] [(5, .func (.func 51) #[] #[.pointer (some ⟨g10, 0, none⟩)]), (6, .func (.func 51) #[] #[.pointer (some ⟨g10, 0, none⟩)]), (7, .pointer (some ⟨g24, 0, none⟩)), (14, .pointer (some ⟨g25, 0, none⟩)), (18, .int .i64 y127), (64, .int .i64 x166)] k146 := by
            intro x166 h168
            unfold f_disk_Append_j3 at h168
            refine ti hk147 ?_
            refine c_p (r_as rfl) rfl ?_
            refine t_nil ?_
            refine t_then hK144 ?_
            refine t_seq fun K169 hK170 => ?_
            refine t_region ?_
            refine c_p (r_mv rfl) rfl ?_
            refine c_p (r_i rfl rfl rfl) rfl ?_
            refine t_nil ?_
            refine t_then hK170 ?_
            rcases Bool.eq_false_or_eq_true (x166 != 0) with hb171 | hb171
            · replace h168 := itT hb171 h168
              refine t_T rfl hb171 ?_
              refine t_seq fun K172 hK173 => ?_
              refine t_region ?_
              refine c_p (r_bu (ps := []) (cs := [.int .i64 0, .slice none 0 0, .bool false, .int .i64 0]) rfl (by kernel_rfl)) rfl ?_
              refine c_p (r_mv rfl) rfl ?_
              refine nx (t_st u2 ti27 rfl rfl rfl rfl rfl (.t (.s (.s (.s (.s .z))))) ?_)
              refine c_p (r_as rfl) rfl ?_
              refine t_nil ?_
              refine t_then hK173 ?_
              refine t_ret ?_
              refine tr (ret2 rfl (v_N rfl a2 Tryd.underlying27 rfl ti27 rfl) (v_t rfl) (t_bk hR21 ?_))
              refine t_nr 34 k_api_DiskFile ?_
              exact t_go (J260 0 none 0 0 ([] : List api_DiskFile) false 0 x166 h168) ⟨rfl, rfl, rfl, trivial⟩ (.cons e4 (.cons e0 .nil)) (fun w Z hA => V1 a2 hA (V0))
            · replace h168 := itF hb171 h168
              refine t_F rfl hb171 ?_
              refine t_skip ?_
              exact t_norm (t_go (J174 h168) ⟨rfl, rfl, rfl, rfl, rfl, trivial⟩ (.cons e0 (.cons e0 (.cons e0 (.cons e0 .nil)))) (fun w Z hA => V1 a0 hA (V1 a1 hA (V1 a2 hA (V0)))))
          refine t_seq fun K149 hK150 => ?_
          refine t_region ?_
          refine nx (t_bx (cs := [.int .i64 z0.Room, .slice p1 m2 c3, .bool z0.Off, .int .i64 z0.Plan]) rfl rfl rfl fun g151 => ?_)
          refine c_p (r_as rfl) rfl ?_
          refine t_nil ?_
          refine t_then hK150 ?_
          refine t_seq fun K152 hK153 => ?_
          refine t_seq fun K154 hK155 => ?_
          refine t_draw mixed (fun w_ => Bk g10 [.slice p4 m5 c6] w_ ∧ True) [0] [3] rfl ?_
          refine q_s 0 (panic_then (panic_then panic_body)) rfl (by kernel_rfl) W0 (by kernel_rfl) (fun w H => ⟨bk a1 H, trivial⟩) (b_ld (fun _ h => h.1) Tryd.underlying22 rfl rfl rfl) rfl ?_
          refine t_lenA a0 fun hm158 => ?_
          refine q_p 1 (panic_then (panic_then panic_body)) rfl (by kernel_rfl) W0 (r_lnM hm158 Tryd.underlying22 rfl) rfl ?_
          refine q_u 2 (panic_then (panic_then panic_body)) rfl (by kernel_rfl) W0 (by kernel_rfl) (r_ldA a0 Tryd.underlying27 rfl ti27 rfl rfl) rfl ?_
          refine d1 3 rfl (by kernel_rfl) (by kernel_rfl) ?_
          obtain ⟨y159, hy159, h140⟩ := bs h140
          refine t_ca (C50 _ _ _ _ _ hy159) Tryd.func50 nm50 rfl rfl rfl .nil (fun w Z hA => (V1 a1 hA (V1 a2 hA V0))) rfl fun t160 => ?_
          refine dk (fun w H => ⟨bk a1 H, trivial⟩) ?_
          refine q_p 4 (panic_then (panic_then panic_body)) rfl (by kernel_rfl) W0 (r_i rfl rfl rfl) rfl ?_
          refine dz (by kernel_rfl) ?_
          refine t_then hK155 ?_
          rcases Bool.eq_false_or_eq_true (decide ((z2.length : Int) > y159)) with hb161 | hb161
          · replace h140 := itT hb161 h140
            refine t_T rfl hb161 ?_
            refine t_seq fun K162 hK163 => ?_
            refine t_region ?_
            refine c_p (r_as rfl) rfl ?_
            refine t_nil ?_
            refine t_then hK163 ?_
            refine t_ret ?_
            refine tr (ret1 rfl (v_t rfl) (t_bk hR148 ?_))
            exact t_go (J167 247 h140) ⟨rfl, rfl, rfl, rfl, rfl, rfl, trivial⟩ (.cons e1 (.cons e1 (.cons e1 (.cons e1 .nil)))) (fun w Z hA => V1 a0 hA (V1 a1 hA (V1 a2 hA (V0))))
          · replace h140 := itF hb161 h140
            refine t_F rfl hb161 ?_
            refine t_skip ?_
            refine t_then hK153 ?_
            refine t_seq fun K164 hK165 => ?_
            refine t_region ?_
            refine c_p (r_as rfl) rfl ?_
            refine t_nil ?_
            refine t_then hK165 ?_
            refine t_ret ?_
            refine ret1 rfl (v_t rfl) (t_bk hR148 ?_)
            exact t_go (J167 0 h140) ⟨rfl, rfl, rfl, rfl, rfl, rfl, trivial⟩ (.cons e1 (.cons e1 (.cons e1 (.cons e1 .nil)))) (fun w Z hA => V1 a0 hA (V1 a1 hA (V1 a2 hA (V0))))
        refine t_block ?_
        refine t_seq fun K131 hK132 => ?_
        refine t_region ?_
        refine c_p (r_mv rfl) rfl ?_
        refine c_p (r_i rfl rfl rfl) rfl ?_
        refine c_p (r_mv rfl) rfl ?_
        rcases Bool.eq_false_or_eq_true (decide (y127 < 0)) with hb133 | hb133
        · replace h124 := itT hb133 h124
          refine nx (gd rfl rfl hb133 (sp (r_mv rfl) rfl ?_))
          refine nx (gd rfl rfl hb133 (sp (r_not rfl) rfl ?_))
          refine c_p (r_pT rfl hb133 rfl) rfl ?_
          refine c_p (r_as rfl) rfl ?_
          refine t_nil ?_
          refine t_then hK132 ?_
          refine t_T rfl rfl ?_
          refine t_seq fun K134 hK135 => ?_
          refine t_region ?_
          refine c_p (r_bu (ps := []) (cs := [.int .i64 0, .slice none 0 0, .bool false, .int .i64 0]) rfl (by kernel_rfl)) rfl ?_
          refine nx (t_st u2 ti27 rfl rfl rfl rfl rfl (.t (.s (.s (.s (.s .z))))) ?_)
          refine c_p (r_as rfl) rfl ?_
          refine t_nil ?_
          refine t_then hK135 ?_
          refine t_ret ?_
          refine br (tr (ret2 rfl (v_N rfl a2 Tryd.underlying27 rfl ti27 rfl) (v_t rfl) (t_bk hR21 ?_)))
          refine t_nr 34 k_api_DiskFile ?_
          exact t_go (J260 0 none 0 0 ([] : List api_DiskFile) false 0 244 h124) ⟨rfl, rfl, rfl, trivial⟩ (.cons e4 (.cons e0 .nil)) (fun w Z hA => V1 a2 hA (V0))
        · replace h124 := itF hb133 h124
          refine nx (pass rfl rfl hb133 rfl ?_)
          refine nx (pass rfl rfl hb133 rfl ?_)
          refine c_p (r_pF rfl hb133 rfl) rfl ?_
          refine c_p (r_as rfl) rfl ?_
          refine t_nil ?_
          refine t_then hK132 ?_
          refine t_F rfl rfl ?_
          refine t_seq fun K136 hK137 => ?_
          refine t_region ?_
          refine c_p (r_mv rfl) rfl ?_
          refine c_p (r_i rfl rfl rfl) rfl ?_
          refine c_p (r_mv rfl) rfl ?_
          rcases Bool.eq_false_or_eq_true (decide (y127 ≥ 0)) with hb138 | hb138
          · replace h124 := itT hb138 h124
            refine nx (gd rfl rfl hb138 (sp (r_mv rfl) rfl ?_))
            refine c_p (r_pT rfl hb138 rfl) rfl ?_
            refine c_p (r_as rfl) rfl ?_
            refine t_nil ?_
            refine t_then hK137 ?_
            refine t_F rfl rfl ?_
            refine t_skip ?_
            refine t_blockN ?_
            exact t_norm (t_go (J139 h124) ⟨rfl, rfl, rfl, rfl, rfl, rfl, trivial⟩ (.cons e0 (.cons e0 (.cons e0 (.cons e0 .nil)))) (fun w Z hA => V1 a0 hA (V1 a1 hA (V1 a2 hA (V0)))))
          · replace h124 := itF hb138 h124
            refine nx (pass rfl rfl hb138 rfl ?_)
            refine c_p (r_pF rfl hb138 rfl) rfl ?_
            refine c_p (r_as rfl) rfl ?_
            refine t_nil ?_
            refine t_then hK137 ?_
            refine t_F rfl rfl ?_
            refine t_skip ?_
            refine t_blockN ?_
            exact t_norm (t_go (J139 h124) ⟨rfl, rfl, rfl, rfl, rfl, rfl, trivial⟩ (.cons e0 (.cons e0 (.cons e0 (.cons e0 .nil)))) (fun w Z hA => V1 a0 hA (V1 a1 hA (V1 a2 hA (V0)))))
      refine t_seq fun K46 hK47 => ?_
      refine t_region ?_
      refine c_p (r_mv rfl) rfl ?_
      refine nx (t_bs (ps := [(0, .string z1)]) (cs := [.string z1]) Tryd.underlying72 ti9 rfl rfl (by kernel_rfl) rfl fun g48 => ?_)
      refine c_p (r_mv rfl) rfl ?_
      refine t_tr (Kd := kStr) (xs := [z1]) (.cons e0 .nil) rfl (fun w Z S hA hN => flat_EO (S := Nil) flatK_str (er1 (c1 := [.string z1]) rfl er0)) ?_
      obtain ⟨hc49, h⟩ := ck_out h
      refine nx (t_app (Kd := kStr) (xs := [z1]) (ys := ([] : List ByteArray)) (.cons e0 .nil) rfl rfl Tryd.underlying72 Tryd.underlying72 ti9 rfl rfl hc49 (srcN kStr) rfl fun t50 => ?_)
      refine c_s (r_lnL a0 Tryd.underlying72 rfl) rfl ?_
      refine c_p (r_mv rfl) rfl ?_
      refine t_nil ?_
      refine t_then hK47 ?_
      refine t_block ?_
      refine t_lp fun k95 hk96 => ?_
      have LP98 : ∀ (k100 : Nat) (x97 : Int), f_disk_Append_l1 z0 z1 z2 k100 x97 = some r → T 90 c [vw (kSlice 5 (kInt .u8)) z2 [.slice p4 m5 c6], vw (kSlice 34 k_api_DiskFile) z0.Files [.slice p1 m2 c3], g_names] [[blk g10 [.slice p4 m5 c6] 22], [blk g24 [.int .i64 z0.Room, .slice p1 m2 c3, .bool z0.Off, .int .i64 z0.Plan] 27], [blk g25 [.int .i64 0, .slice none 0 0, .bool false, .int .i64 0] 27], [row 9 kStr ([z1] ++ ([] : List ByteArray)) (.slice t50.1 t50.2.1 t50.2.2)], [blk g11 [.int .i64 0, .slice none 0 0, .bool false, .int .i64 0] 27]] [(1, .string z1), (3, .bool false), (4, .func (.func 49) #[] #[.pointer (some ⟨g10, 0, none⟩)]), (5, .func (.func 51) #[] #[.pointer (some ⟨g10, 0, none⟩)]), (6, .func (.func 51) #[] #[.pointer (some ⟨g10, 0, none⟩)]), (7, .pointer (some ⟨g24, 0, none⟩)), (14, .pointer (some ⟨g25, 0, none⟩)), (32, .slice t50.1 t50.2.1 t50.2.2), (33, .int .i64 (([z1] ++ ([] : List ByteArray)).length : Int)), (34, .int .i64 x97)] k95 := by
        intro k100
        induction k100 with
        | zero => intro x97 h99; rewrite [f_disk_Append_l1] at h99; cases h99
        | succ k100 ih101 =>
          intro x97 h99
          rewrite [f_disk_Append_l1] at h99
          refine ti hk96 ?_
          refine t_seq fun K102 hK103 => ?_
          refine t_region ?_
          refine c_p (r_i rfl rfl rfl) rfl ?_
          refine t_nil ?_
          refine t_then hK103 ?_
          refine t_seq fun K104 hK105 => ?_
          rcases Bool.eq_false_or_eq_true (decide (x97 < (([z1] ++ ([] : List ByteArray)).length : Int))) with hb106 | hb106
          · replace h99 := itT hb106 h99
            refine t_T rfl hb106 ?_
            refine t_skip ?_
            refine t_then hK105 ?_
            refine t_seq fun K107 hK108 => ?_
            refine t_block ?_
            refine t_seq fun K109 hK110 => ?_
            refine t_region ?_
            obtain ⟨el114, hel114, h99⟩ := bs h99
            refine t_qL a3 hel114 fun q111 hq112 hm113 => ?_
            refine c_p (r_idx hq112 hm113 hel114 Tryd.underlying72 ti9 rfl rfl) rfl ?_
            refine t_oI opensO_str e3 hel114 fun t115 => ?_
            refine c_s (r_h1 a0 hq112 Tryd.underlying9 rfl rfl rfl) rfl ?_
            refine c_p (r_as rfl) rfl ?_
            refine t_nil ?_
            refine t_then hK110 ?_
            refine t_seq fun K116 hK117 => ?_
            refine t_region ?_
            refine c_p (r_mv rfl) rfl ?_
            obtain ⟨y118, hy118, h99⟩ := bs h99
            refine nx (t_ca (C36 _ _ hy118) Tryd.func36 nm36 rfl rfl rfl .nil (fun w Z hA => (V1 a2 hA V0)) rfl fun t119 => ?_)
            refine c_p (r_not rfl) rfl ?_
            refine t_nil ?_
            refine t_then hK117 ?_
            rcases Bool.eq_false_or_eq_true y118 with hb120 | hb120
            · replace h99 := itT hb120 h99
              refine t_F rfl (congrArg Bool.not hb120) ?_
              refine t_skip ?_
              refine t_blockN ?_
              refine t_then hK108 ?_
              refine t_region ?_
              refine c_p (r_i rfl rfl rfl) rfl ?_
              refine c_p (r_mv rfl) rfl ?_
              refine t_nil ?_
              refine t_cS (u := el114) (t := ()) shutsO_str hel114 (.cons e0 .nil) rfl (fun w Z hA => trivial) ?_
              exact t_norm (t_go (ih101 (IntKind.wrap .i64 (x97 + 1)) h99) ⟨rfl, rfl, rfl, rfl, rfl, rfl, rfl, rfl, rfl, rfl, trivial⟩ (.cons e1 (.cons e1 (.cons e1 (.cons e0 (.cons e0 .nil))))) (fun w Z hA => V1 a0 hA (V1 a1 hA (V1 a2 hA (V0)))))
            · replace h99 := itF hb120 h99
              refine t_T rfl (congrArg Bool.not hb120) ?_
              refine t_seq fun K121 hK122 => ?_
              refine t_region ?_
              refine c_p (r_bu (ps := []) (cs := [.int .i64 0, .slice none 0 0, .bool false, .int .i64 0]) rfl (by kernel_rfl)) rfl ?_
              refine nx (t_st u3 ti27 rfl rfl rfl rfl rfl (.t (.s (.s (.s (.s .z))))) ?_)
              refine c_p (r_as rfl) rfl ?_
              refine t_nil ?_
              refine t_then hK122 ?_
              refine t_ret ?_
              refine br (tr (tr (br (tr (ret2 rfl (v_N rfl a3 Tryd.underlying27 rfl ti27 rfl) (v_t rfl) (t_bk hR21 ?_))))))
              refine t_nr 34 k_api_DiskFile ?_
              exact t_go (J260 0 none 0 0 ([] : List api_DiskFile) false 0 243 h99) ⟨rfl, rfl, rfl, trivial⟩ (.cons e5 (.cons e0 .nil)) (fun w Z hA => V1 a2 hA (V0))
          · replace h99 := itF hb106 h99
            refine t_F rfl hb106 ?_
            refine t_exit ?_
            refine te (te (bx ?_))
            exact t_norm (t_go (J123 h99) ⟨rfl, rfl, rfl, rfl, rfl, rfl, rfl, trivial⟩ (.cons e0 (.cons e0 (.cons e0 (.cons e1 .nil)))) (fun w Z hA => V1 a0 hA (V1 a1 hA (V1 a2 hA (V0)))))
      exact t_go (LP98 ((((([z1] ++ ([] : List ByteArray)).length : Int) : Int) - (0)).toNat + 1) 0 h) ⟨rfl, rfl, rfl, rfl, rfl, rfl, rfl, rfl, rfl, rfl, trivial⟩ (.cons e4 (.cons e2 (.cons e1 (.cons e0 (.cons e0 .nil))))) (fun w Z hA => V1 a1 hA (V1 a0 hA (V1 a2 hA (V0))))
  · replace h := itF hb32 h
    refine t_T rfl (congrArg Bool.not hb32) ?_
    refine t_seq fun K33 hK34 => ?_
    refine t_region ?_
    refine c_p (r_bu (ps := []) (cs := [.int .i64 0, .slice none 0 0, .bool false, .int .i64 0]) rfl (by kernel_rfl)) rfl ?_
    refine nx (t_st u0 ti27 rfl rfl rfl rfl rfl (.t (.s (.s (.s (.s .z))))) ?_)
    refine c_p (r_as rfl) rfl ?_
    refine t_nil ?_
    refine t_then hK34 ?_
    refine t_ret ?_
    refine tr (ret2 rfl (v_N rfl a0 Tryd.underlying27 rfl ti27 rfl) (v_t rfl) (t_bk hR21 ?_))
    refine t_nr 34 k_api_DiskFile ?_
    exact t_go (J260 0 none 0 0 ([] : List api_DiskFile) false 0 241 h) ⟨rfl, rfl, rfl, trivial⟩ (.cons e3 (.cons e0 .nil)) (fun w Z hA => V1 a2 hA (V0))
end Go.Proofs.YtkjeedijloobgaaDoor.Gx

/- Function 53, kaudit/disk.always: what it answers as a plain function, and that the Go code comes to exactly that (where the plain function gives an answer). -/
set_option linter.unusedVariables false
set_option linter.unusedSimpArgs false
namespace Go.Proofs.YtkjeedijloobgaaDoor.Gx
open Go.Gx Go.RowKit
/-! ### kaudit/disk.always: function 53 -/
def f_disk_always (z0 : api_Disk) (z1 : Int) : Option (Int) := some 0
set_option maxHeartbeats 4000000 in
set_option maxRecDepth 100000 in
theorem C53 (z0 : api_Disk) (z1 : Int) (p1 : Option Addr) (m2 : Nat) (c3 : Nat) (r : Int) (h : f_disk_always z0 z1 = some r) : FunG Tryd.prog 53 #[.agg #[.int .i64 z0.Room, .slice p1 m2 c3, .bool z0.Off, .int .i64 z0.Plan], .int .i64 z1] [vw (kSlice 34 k_api_DiskFile) z0.Files [.slice p1 m2 c3], g_names] [] (fun (_ : Unit) => .int .i64 r) (fun _ => []) (fun _ => []) := by
  unfold f_disk_always at h
  refine t_begin (args := [.agg #[.int .i64 z0.Room, .slice p1 m2 c3, .bool z0.Off, .int .i64 z0.Plan], .int .i64 z1]) Tryd.func53 rfl Tryd.ntmps53 rfl fun c R hR => ?_
  have hQ : ∀ X, X = r → ∀ w2 (_ : Unit), PostG c.w0 w2 c.M c.Y [] [] → R (.returned (.int .i64 X)) w2 := fun X e => by subst e; exact hR
  refine t_seq fun K4 hK5 => ?_
  refine t_region ?_
  refine nx (t_bx (cs := [.int .i64 z0.Room, .slice p1 m2 c3, .bool z0.Off, .int .i64 z0.Plan]) rfl rfl rfl fun g6 => ?_)
  refine c_p (r_as rfl) rfl ?_
  refine t_nil ?_
  refine t_then hK5 ?_
  refine t_seq fun K7 hK8 => ?_
  refine t_region ?_
  refine c_p (r_as rfl) rfl ?_
  refine t_nil ?_
  refine t_then hK8 ?_
  refine t_ret ?_
  exact ret1 rfl (v_t rfl) (t_leave (hQ _ (Option.some.inj h)) () rfl (fun w Z hA => V0) .nil)
end Go.Proofs.YtkjeedijloobgaaDoor.Gx

/- Function 54, kaudit/disk.Sync$1: what it answers as a plain function, and that the Go code comes to exactly that (where the plain function gives an answer). -/
set_option linter.unusedVariables false
set_option linter.unusedSimpArgs false
namespace Go.Proofs.YtkjeedijloobgaaDoor.Gx
open Go.Gx Go.RowKit
/-! ### kaudit/disk.Sync$1: function 54 -/
def f_disk_Sync_1 (z0 : api_Disk) (z1 : Int) : Option ((List api_DiskFile)) := (at_ z0.Files z1).bind fun el9 => some (z0.Files.set z1.toNat (⟨el9.Name, el9.Data, (el9.Data.length : Int)⟩ : api_DiskFile))
set_option maxHeartbeats 4000000 in
set_option maxRecDepth 100000 in
theorem C54 (z0 : api_Disk) (z1 : Int) (g_ : Nat) (p1 : Option Addr) (m2 : Nat) (c3 : Nat) (r : (List api_DiskFile)) (h : f_disk_Sync_1 z0 z1 = some r) : FunG Tryd.prog 54 #[.pointer (some ⟨g_, 0, none⟩), .int .i64 z1] [g_names] [[blk g_ [.int .i64 z0.Room, .slice p1 m2 c3, .bool z0.Off, .int .i64 z0.Plan] 27], [row 34 k_api_DiskFile z0.Files (.slice p1 m2 c3)]] (fun t : (Option Addr × Nat × Nat) => .tuple #[]) (fun t => []) (fun t => [[blk g_ [.int .i64 z0.Room, .slice t.1 t.2.1 t.2.2, .bool z0.Off, .int .i64 z0.Plan] 27], [row 34 k_api_DiskFile r (.slice t.1 t.2.1 t.2.2)]]) := by
  unfold f_disk_Sync_1 at h
  refine t_begin (args := [.pointer (some ⟨g_, 0, none⟩), .int .i64 z1]) Tryd.func54 rfl Tryd.ntmps54 rfl fun c R hR => ?_
  have hQ : ∀ X, X = r → ∀ w2 (t : (Option Addr × Nat × Nat)), PostG c.w0 w2 c.M c.Y [] [[blk g_ [.int .i64 z0.Room, .slice t.1 t.2.1 t.2.2, .bool z0.Off, .int .i64 z0.Plan] 27], [row 34 k_api_DiskFile X (.slice t.1 t.2.1 t.2.2)]] → R (.returned (.tuple #[])) w2 := fun X e => by subst e; exact hR
  refine t_draw mixed (fun w_ => True) [] [16] rfl ?_
  refine q_p 0 panic_body rfl (by kernel_rfl) W0 (r_mv rfl) rfl ?_
  refine q_p 1 panic_body rfl (by kernel_rfl) W0 (r_nc rfl) rfl ?_
  refine q_p 2 panic_body rfl (by kernel_rfl) W0 (r_fa (off' := 1) Tryd.underlying27 rfl ti25 rfl rfl) rfl ?_
  refine q_u 3 panic_body rfl (by kernel_rfl) W0 (by kernel_rfl) (r_ld a0 Tryd.underlying25 rfl rfl rfl) rfl ?_
  refine q_p 4 panic_body rfl (by kernel_rfl) W0 (r_mv rfl) rfl ?_
  refine q_p 5 panic_body rfl (by kernel_rfl) W0 (r_mv rfl) rfl ?_
  refine q_p 6 panic_body rfl (by kernel_rfl) W0 (r_nc rfl) rfl ?_
  refine q_p 7 panic_body rfl (by kernel_rfl) W0 (r_fa (off' := 1) Tryd.underlying27 rfl ti25 rfl rfl) rfl ?_
  refine q_u 8 panic_body rfl (by kernel_rfl) W0 (by kernel_rfl) (r_ld a0 Tryd.underlying25 rfl rfl rfl) rfl ?_
  refine q_p 9 panic_body rfl (by kernel_rfl) W0 (r_mv rfl) rfl ?_
  obtain ⟨el9, hel9, h⟩ := bs h
  refine t_qL a1 hel9 fun q6 hq7 hm8 => ?_
  refine q_p 10 panic_body rfl (by kernel_rfl) W0 (r_idx hq7 hm8 hel9 Tryd.underlying25 ti34 rfl rfl) rfl ?_
  refine t_qf hq7 1 fun q10 hq11 => ?_
  refine q_p 11 panic_body rfl (by kernel_rfl) W0 (r_fai hq7 hq11 Tryd.underlying34 rfl ti22 rfl rfl) rfl ?_
  refine t_oI k_api_DiskFile_opensO e1 hel9 fun t12 => ?_
  refine q_u 12 panic_body rfl (by kernel_rfl) W0 (by kernel_rfl) (r_h1 a0 hq11 Tryd.underlying22 rfl rfl rfl) rfl ?_
  refine q_u 13 panic_body rfl (by kernel_rfl) W0 (by kernel_rfl) (r_lnL a1 Tryd.underlying22 rfl) rfl ?_
  refine t_qH a0 hel9 fun q13 hq14 hm15 => ?_
  refine q_p 14 panic_body rfl (by kernel_rfl) W0 (r_idx hq14 hm15 hel9 Tryd.underlying25 ti34 rfl rfl) rfl ?_
  refine t_qf hq14 2 fun q16 hq17 => ?_
  refine q_p 15 panic_body rfl (by kernel_rfl) W0 (r_fai hq14 hq17 Tryd.underlying34 rfl ti3 rfl rfl) rfl ?_
  refine d1 16 rfl (by kernel_rfl) (by kernel_rfl) ?_
  refine t_hs u0 hq17 ti3 rfl rfl rfl rfl rfl (.s (.s (.t (.s .z)))) ?_
  refine dn (by kernel_rfl) ?_
  refine dz (by kernel_rfl) ?_
  refine t_cI (u := (⟨el9.Name, el9.Data, (el9.Data.length : Int)⟩ : api_DiskFile)) (t := (t12.1, t12.2.1, t12.2.2)) k_api_DiskFile_shutsO (.cons e0 (.cons e0 .nil)) rfl (fun w Z hA => trivial) ?_
  have hn18 := at_set (u' := (⟨el9.Name, el9.Data, (el9.Data.length : Int)⟩ : api_DiskFile)) hel9
  exact end0 rfl  (t_leave (hQ _ (Option.some.inj h)) (p1, m2, c3) rfl (fun w Z hA => V0) (.cons e1 (.cons e0 .nil)))
end Go.Proofs.YtkjeedijloobgaaDoor.Gx

/- Function 19, kaudit/disk.Sync: what it answers as a plain function, and that the Go code comes to exactly that (where the plain function gives an answer). -/
set_option linter.unusedVariables false
set_option linter.unusedSimpArgs false
namespace Go.Proofs.YtkjeedijloobgaaDoor.Gx
open Go.Gx Go.RowKit
/-! ### kaudit/disk.Sync: function 19 -/
def f_disk_Sync_j4 (x180 : Int) (x184 : List api_DiskFile) (x185 : Bool) (x186 : Int) (x187 : Int) : Option (api_Disk × Int) := some ((⟨x180, x184, x185, x186⟩ : api_Disk), x187)
def f_disk_Sync_j3 (y119 : Int) (y146 : api_Disk) (x167 : Int) : Option (api_Disk × Int) := (f_disk_Sync_1 (⟨y146.Room, y146.Files, y146.Off, x167⟩ : api_Disk) y119).bind fun y172 => f_disk_Sync_j4 y146.Room y172 y146.Off x167 0
def f_disk_Sync_j2 (z0 : api_Disk) (y119 : Int) : Option (api_Disk × Int) := (f_disk_always z0 y119).bind fun y137 => if (y137 != 0) = true then (f_disk_Sync_j4 0 ([] : List api_DiskFile) false 0 y137) else ((f_fresh_Disk z0).bind fun y146 => if (decide (y146.Plan > 0)) = true then (if ((IntKind.wrap .i64 (y146.Plan - 1)) == 0) = true then ((f_disk_nothing (⟨y146.Room, y146.Files, true, (IntKind.wrap .i64 (y146.Plan - 1))⟩ : api_Disk) y119).bind fun y163 => f_disk_Sync_j4 y146.Room y146.Files true (IntKind.wrap .i64 (y146.Plan - 1)) 242) else (f_disk_Sync_j3 y119 y146 (IntKind.wrap .i64 (y146.Plan - 1)))) else (f_disk_Sync_j3 y119 y146 y146.Plan))
def f_disk_Sync_j1 (z0 : api_Disk) (z1 : ByteArray) : Option (api_Disk × Int) := (f_disk_find z0 z1).bind fun y119 => if (decide (y119 < 0)) = true then (f_disk_Sync_j4 0 ([] : List api_DiskFile) false 0 244) else (if (decide (y119 ≥ 0)) = true then (f_disk_Sync_j2 z0 y119) else (f_disk_Sync_j2 z0 y119))
def f_disk_Sync_l1 (z0 : api_Disk) (z1 : ByteArray) : Nat → Int → Option (api_Disk × Int)
  | 0, _ => none
  | k92 + 1, x89 => if (decide (x89 < (([z1] ++ ([] : List ByteArray)).length : Int))) = true then ((at_ ([z1] ++ ([] : List ByteArray)) x89).bind fun el106 => (f_disk_isName el106).bind fun y110 => if y110 = true then (f_disk_Sync_l1 z0 z1 k92 (IntKind.wrap .i64 (x89 + 1))) else (f_disk_Sync_j4 0 ([] : List api_DiskFile) false 0 243)) else (f_disk_Sync_j1 z0 z1)
def f_disk_Sync (z0 : api_Disk) (z1 : ByteArray) : Option (api_Disk × Int) := (f_disk_Valid z0).bind fun y22 => if y22 = true then (if z0.Off = true then ((f_fresh_Disk z0).bind fun y34 => f_disk_Sync_j4 y34.Room y34.Files y34.Off y34.Plan 242) else (ck (fits ([z1].length + ([] : List ByteArray).length) 16 = true) <| f_disk_Sync_l1 z0 z1 ((((([z1] ++ ([] : List ByteArray)).length : Int) : Int) - (0)).toNat + 1) 0)) else (f_disk_Sync_j4 0 ([] : List api_DiskFile) false 0 241)
set_option maxHeartbeats 4000000 in
set_option maxRecDepth 100000 in
theorem C19 (z0 : api_Disk) (z1 : ByteArray) (p1 : Option Addr) (m2 : Nat) (c3 : Nat) (r : api_Disk × Int) (h : f_disk_Sync z0 z1 = some r) : FunG Tryd.prog 19 #[.agg #[.int .i64 z0.Room, .slice p1 m2 c3, .bool z0.Off, .int .i64 z0.Plan], .string z1] [vw (kSlice 34 k_api_DiskFile) z0.Files [.slice p1 m2 c3], g_names] [] (fun t : (Option Addr × Nat × Nat) => .tuple #[.agg #[.int .i64 r.1.Room, .slice t.1 t.2.1 t.2.2, .bool r.1.Off, .int .i64 r.1.Plan], .int .i64 r.2]) (fun t => []) (fun t => [[row 34 k_api_DiskFile r.1.Files (.slice t.1 t.2.1 t.2.2)]]) := by
  unfold f_disk_Sync at h
  refine t_begin (args := [.agg #[.int .i64 z0.Room, .slice p1 m2 c3, .bool z0.Off, .int .i64 z0.Plan], .string z1]) Tryd.func19 rfl Tryd.ntmps19 rfl fun c R hR => ?_
  have hQ : ∀ X, X = r → ∀ w2 (t : (Option Addr × Nat × Nat)), PostG c.w0 w2 c.M c.Y [] [[row 34 k_api_DiskFile X.1.Files (.slice t.1 t.2.1 t.2.2)]] → R (.returned (.tuple #[.agg #[.int .i64 X.1.Room, .slice t.1 t.2.1 t.2.2, .bool X.1.Off, .int .i64 X.1.Plan], .int .i64 X.2])) w2 := fun X e => by subst e; exact hR
  refine t_seq fun K4 hK5 => ?_
  refine t_region ?_
  refine nx (t_bx (cs := [.int .i64 z0.Room, .slice p1 m2 c3, .bool z0.Off, .int .i64 z0.Plan]) rfl rfl rfl fun g6 => ?_)
  refine nx (t_al (cs := [.int .i64 0, .slice none 0 0, .bool false, .int .i64 0]) ti27 rfl rfl fun g7 => ?_)
  refine c_p (r_as rfl) rfl ?_
  refine t_nil ?_
  refine t_then hK5 ?_
  refine t_seq fun K8 hK9 => ?_
  refine t_region ?_
  refine c_s (r_ldA a1 Tryd.underlying27 rfl ti27 rfl rfl) rfl ?_
  refine c_p (r_mv rfl) rfl ?_
  refine nx (t_in (args := [.agg #[.int .i64 z0.Room, .slice p1 m2 c3, .bool z0.Off, .int .i64 z0.Plan], .string z1, .slice none 0 0, .bool false, .func (.func 53) #[] #[], .func (.func 54) #[] #[], .func (.func 43) #[] #[]]) (cap := []) (all := [.agg #[.int .i64 z0.Room, .slice p1 m2 c3, .bool z0.Off, .int .i64 z0.Plan], .string z1, .slice none 0 0, .bool false, .func (.func 53) #[] #[], .func (.func 54) #[] #[], .func (.func 43) #[] #[]]) rfl rfl Tryd.func40 nm40 rfl rfl rfl Tryd.ntmps40 rfl fun R10 k11 hk12 hR13 => ?_)
  have J188 : ∀ (x180 : Int) (p181 : Option Addr) (m182 : Nat) (c183 : Nat) (x184 : List api_DiskFile) (x185 : Bool) (x186 : Int) (x187 : Int), f_disk_Sync_j4 x180 x184 x185 x186 x187 = some r → T 11 c [g_names] [[blk g7 [.int .i64 0, .slice none 0 0, .bool false, .int .i64 0] 27], [row 34 k_api_DiskFile x184 (.slice p181 m182 c183)]] [(4, .pointer (some ⟨g7, 0, none⟩)), (5, .int .i64 0), (8, .tuple #[.agg #[.int .i64 x180, .slice p181 m182 c183, .bool x185, .int .i64 x186], .int .i64 x187])] k11 := by
    intro x180 p181 m182 c183 x184 x185 x186 x187 h189
    unfold f_disk_Sync_j4 at h189
    refine ti hk12 ?_
    refine c_p (r_ex rfl rfl) rfl ?_
    refine c_p (r_ex rfl rfl) rfl ?_
    refine nx (t_st u0 ti27 rfl rfl rfl rfl rfl (.t (.s (.s (.s (.s .z))))) ?_)
    refine c_p (r_as rfl) rfl ?_
    refine t_nil ?_
    refine t_then hK9 ?_
    refine t_ret ?_
    exact ret2 rfl (v_N rfl a0 Tryd.underlying27 rfl ti27 rfl) (v_t rfl) (t_leave (hQ _ (Option.some.inj h189)) (p181, m182, c183) rfl (fun w Z hA => V0) (.cons e1 .nil))
  refine t_seq fun K14 hK15 => ?_
  refine t_region ?_
  refine nx (t_bx (cs := [.int .i64 z0.Room, .slice p1 m2 c3, .bool z0.Off, .int .i64 z0.Plan]) rfl rfl rfl fun g16 => ?_)
  refine nx (t_al (cs := [.int .i64 0, .slice none 0 0, .bool false, .int .i64 0]) ti27 rfl rfl fun g17 => ?_)
  refine c_p (r_as rfl) rfl ?_
  refine t_nil ?_
  refine t_then hK15 ?_
  refine t_seq fun K18 hK19 => ?_
  refine t_seq fun K20 hK21 => ?_
  refine t_region ?_
  refine c_s (r_ldA a1 Tryd.underlying27 rfl ti27 rfl rfl) rfl ?_
  obtain ⟨y22, hy22, h⟩ := bs h
  refine nx (t_ca (C10 _ _ _ _ _ hy22) Tryd.func10 nm10 rfl rfl rfl .nil (fun w Z hA => (V1 a0 hA (V1 a1 hA V0))) rfl fun t23 => ?_)
  refine c_p (r_not rfl) rfl ?_
  refine t_nil ?_
  refine t_then hK21 ?_
  rcases Bool.eq_false_or_eq_true y22 with hb24 | hb24
  · replace h := itT hb24 h
    refine t_F rfl (congrArg Bool.not hb24) ?_
    refine t_skip ?_
    refine t_then hK19 ?_
    refine t_seq fun K27 hK28 => ?_
    refine t_seq fun K29 hK30 => ?_
    refine t_region ?_
    refine c_p (r_fa (off' := 2) Tryd.underlying27 rfl ti4 rfl rfl) rfl ?_
    refine c_s (r_ld a1 Tryd.underlying4 rfl rfl rfl) rfl ?_
    refine t_nil ?_
    refine t_then hK30 ?_
    rcases Bool.eq_false_or_eq_true z0.Off with hb31 | hb31
    · replace h := itT hb31 h
      refine t_T rfl hb31 ?_
      refine t_seq fun K32 hK33 => ?_
      refine t_region ?_
      refine c_s (r_ldA a1 Tryd.underlying27 rfl ti27 rfl rfl) rfl ?_
      obtain ⟨y34, hy34, h⟩ := bs h
      refine nx (t_ca (C61 _ _ _ _ _ hy34) Tryd.func61 nm61 rfl rfl rfl .nil (fun w Z hA => (V1 a0 hA (V1 a1 hA V0))) rfl fun t35 => ?_)
      refine nx (t_st u1 ti27 rfl rfl rfl rfl rfl (.t (.s (.s (.s (.s .z))))) ?_)
      refine c_p (r_as rfl) rfl ?_
      refine t_nil ?_
      refine t_then hK33 ?_
      refine t_ret ?_
      refine tr (ret2 rfl (v_N rfl a1 Tryd.underlying27 rfl ti27 rfl) (v_t rfl) (t_bk hR13 ?_))
      exact t_go (J188 y34.Room t35.1 t35.2.1 t35.2.2 y34.Files y34.Off y34.Plan 242 h) ⟨rfl, rfl, rfl, trivial⟩ (.cons e3 (.cons e0 .nil)) (fun w Z hA => V1 a1 hA (V0))
    · replace h := itF hb31 h
      refine t_F rfl hb31 ?_
      refine t_skip ?_
      refine t_then hK28 ?_
      refine t_seq fun K36 hK37 => ?_
      have J115 : f_disk_Sync_j1 z0 z1 = some r → T 90 c [vw (kSlice 34 k_api_DiskFile) z0.Files [.slice p1 m2 c3], g_names] [[blk g16 [.int .i64 z0.Room, .slice p1 m2 c3, .bool z0.Off, .int .i64 z0.Plan] 27], [blk g17 [.int .i64 0, .slice none 0 0, .bool false, .int .i64 0] 27], [blk g7 [.int .i64 0, .slice none 0 0, .bool false, .int .i64 0] 27]] [(1, .string z1), (3, .bool false), (4, .func (.func 53) #[] #[]), (5, .func (.func 54) #[] #[]), (6, .func (.func 43) #[] #[]), (7, .pointer (some ⟨g16, 0, none⟩)), (14, .pointer (some ⟨g17, 0, none⟩))] K36 := by
        intro h116
        unfold f_disk_Sync_j1 at h116
        refine ti hK37 ?_
        refine t_seq fun K117 hK118 => ?_
        refine t_region ?_
        refine c_s (r_ldA a0 Tryd.underlying27 rfl ti27 rfl rfl) rfl ?_
        refine c_p (r_mv rfl) rfl ?_
        obtain ⟨y119, hy119, h116⟩ := bs h116
        refine nx (t_ca (C34 _ _ _ _ _ _ hy119) Tryd.func34 nm34 rfl rfl rfl .nil (fun w Z hA => (V1 a0 hA (V1 a1 hA V0))) rfl fun t120 => ?_)
        refine c_p (r_as rfl) rfl ?_
        refine t_nil ?_
        refine t_then hK118 ?_
        refine t_seq fun K121 hK122 => ?_
        have J131 : f_disk_Sync_j2 z0 y119 = some r → T 90 c [vw (kSlice 34 k_api_DiskFile) z0.Files [.slice p1 m2 c3], g_names] [[blk g16 [.int .i64 z0.Room, .slice p1 m2 c3, .bool z0.Off, .int .i64 z0.Plan] 27], [blk g17 [.int .i64 0, .slice none 0 0, .bool false, .int .i64 0] 27], [blk g7 [.int .i64 0, .slice none 0 0, .bool false, .int .i64 0] 27]] [(4, .func (.func 53) #[] #[]), (5, .func (.func 54) #[] #[]), (6, .func (.func 43) #[] #[]), (7, .pointer (some ⟨g16, 0, none⟩)), (14, .pointer (some ⟨g17, 0, none⟩)), (18, .int .i64 y119)] K121 := by
          intro h132
          unfold f_disk_Sync_j2 at h132
          refine ti hK122 ?_
          refine t_seq fun K133 hK134 => ?_
          refine t_seq fun K135 hK136 => ?_
          refine t_region ?_
          refine c_p (r_mv rfl) rfl ?_
          refine c_s (r_ldA a0 Tryd.underlying27 rfl ti27 rfl rfl) rfl ?_
          refine c_p (r_mv rfl) rfl ?_
          obtain ⟨y137, hy137, h132⟩ := bs h132
          refine nx (t_ca (C53 _ _ _ _ _ _ hy137) Tryd.func53 nm53 rfl rfl rfl .nil (fun w Z hA => (V1 a0 hA (V1 a1 hA V0))) rfl fun t138 => ?_)
          refine c_p (r_as rfl) rfl ?_
          refine t_nil ?_
          refine t_then hK136 ?_
          refine t_seq fun K139 hK140 => ?_
          refine t_region ?_
          refine c_p (r_mv rfl) rfl ?_
          refine c_p (r_i rfl rfl rfl) rfl ?_
          refine t_nil ?_
          refine t_then hK140 ?_
          rcases Bool.eq_false_or_eq_true (y137 != 0) with hb141 | hb141
          · replace h132 := itT hb141 h132
            refine t_T rfl hb141 ?_
            refine t_seq fun K142 hK143 => ?_
            refine t_region ?_
            refine c_p (r_bu (ps := []) (cs := [.int .i64 0, .slice none 0 0, .bool false, .int .i64 0]) rfl (by kernel_rfl)) rfl ?_
            refine c_p (r_mv rfl) rfl ?_
            refine nx (t_st u1 ti27 rfl rfl rfl rfl rfl (.t (.s (.s (.s (.s .z))))) ?_)
            refine c_p (r_as rfl) rfl ?_
            refine t_nil ?_
            refine t_then hK143 ?_
            refine t_ret ?_
            refine tr (ret2 rfl (v_N rfl a1 Tryd.underlying27 rfl ti27 rfl) (v_t rfl) (t_bk hR13 ?_))
            refine t_nr 34 k_api_DiskFile ?_
            exact t_go (J188 0 none 0 0 ([] : List api_DiskFile) false 0 y137 h132) ⟨rfl, rfl, rfl, trivial⟩ (.cons e3 (.cons e0 .nil)) (fun w Z hA => V1 a1 hA (V0))
          · replace h132 := itF hb141 h132
            refine t_F rfl hb141 ?_
            refine t_skip ?_
            refine t_then hK134 ?_
            refine t_seq fun K144 hK145 => ?_
            refine t_region ?_
            refine c_s (r_ldA a0 Tryd.underlying27 rfl ti27 rfl rfl) rfl ?_
            obtain ⟨y146, hy146, h132⟩ := bs h132
            refine nx (t_ca (C61 _ _ _ _ _ hy146) Tryd.func61 nm61 rfl rfl rfl .nil (fun w Z hA => (V1 a0 hA (V1 a1 hA V0))) rfl fun t147 => ?_)
            refine nx (t_al (cs := [.int .i64 0, .slice none 0 0, .bool false, .int .i64 0]) ti27 rfl rfl fun g148 => ?_)
            refine nx (t_st u0 ti27 rfl rfl rfl rfl rfl (.t (.s (.s (.s (.s .z))))) ?_)
            refine t_nil ?_
            refine t_then hK145 ?_
            refine t_seq fun K149 hK150 => ?_
            have J168 : ∀ (x167 : Int), f_disk_Sync_j3 y119 y146 x167 = some r → T 90 c [g_names] [[blk g17 [.int .i64 0, .slice none 0 0, .bool false, .int .i64 0] 27], [row 34 k_api_DiskFile y146.Files (.slice t147.1 t147.2.1 t147.2.2)], [blk g148 [.int .i64 y146.Room, .slice t147.1 t147.2.1 t147.2.2, .bool y146.Off, .int .i64 x167] 27], [blk g7 [.int .i64 0, .slice none 0 0, .bool false, .int .i64 0] 27]] [(5, .func (.func 54) #[] #[]), (14, .pointer (some ⟨g17, 0, none⟩)), (18, .int .i64 y119), (20, .pointer (some ⟨g148, 0, none⟩))] K149 := by
              intro x167 h169
              unfold f_disk_Sync_j3 at h169
              refine ti hK150 ?_
              refine t_seq fun K170 hK171 => ?_
              refine t_region ?_
              refine c_p (r_mv rfl) rfl ?_
              refine c_p (r_mv rfl) rfl ?_
              obtain ⟨y172, hy172, h169⟩ := bs h169
              refine nx (t_ca (C54 _ _ _ _ _ _ _ hy172) Tryd.func54 nm54 rfl rfl rfl (.cons e2 (.cons e1 .nil)) (fun w Z hA => (V1 a0 hA V0)) rfl fun t173 => ?_)
              refine t_nil ?_
              refine t_then hK171 ?_
              refine t_seq fun K174 hK175 => ?_
              refine t_region ?_
              refine c_s (r_ldA a0 Tryd.underlying27 rfl ti27 rfl rfl) rfl ?_
              refine nx (t_st u2 ti27 rfl rfl rfl rfl rfl (.t (.s (.s (.s (.s .z))))) ?_)
              refine c_p (r_as rfl) rfl ?_
              refine t_nil ?_
              refine t_then hK175 ?_
              refine t_ret ?_
              refine ret2 rfl (v_N rfl a2 Tryd.underlying27 rfl ti27 rfl) (v_t rfl) (t_bk hR13 ?_)
              exact t_go (J188 y146.Room t173.1 t173.2.1 t173.2.2 y172 y146.Off x167 0 h169) ⟨rfl, rfl, rfl, trivial⟩ (.cons e3 (.cons e1 .nil)) (fun w Z hA => V1 a0 hA (V0))
            refine t_seq fun K151 hK152 => ?_
            refine t_region ?_
            refine c_p (r_fa (off' := 3) Tryd.underlying27 rfl ti3 rfl rfl) rfl ?_
            refine c_s (r_ld a0 Tryd.underlying3 rfl rfl rfl) rfl ?_
            refine c_p (r_i rfl rfl rfl) rfl ?_
            refine t_nil ?_
            refine t_then hK152 ?_
            rcases Bool.eq_false_or_eq_true (decide (y146.Plan > 0)) with hb153 | hb153
            · replace h132 := itT hb153 h132
              refine t_T rfl hb153 ?_
              refine t_seq fun K154 hK155 => ?_
              refine t_region ?_
              refine c_p (r_fa (off' := 3) Tryd.underlying27 rfl ti3 rfl rfl) rfl ?_
              refine c_s (r_ld a0 Tryd.underlying3 rfl rfl rfl) rfl ?_
              refine c_p (r_i rfl rfl rfl) rfl ?_
              refine c_p (r_fa (off' := 3) Tryd.underlying27 rfl ti3 rfl rfl) rfl ?_
              refine nx (t_st u0 ti3 rfl rfl rfl rfl rfl (.s (.s (.s (.t (.s .z))))) ?_)
              refine t_nil ?_
              refine t_then hK155 ?_
              refine t_seq fun K156 hK157 => ?_
              refine t_region ?_
              refine c_p (r_fa (off' := 3) Tryd.underlying27 rfl ti3 rfl rfl) rfl ?_
              refine c_s (r_ld a0 Tryd.underlying3 rfl rfl rfl) rfl ?_
              refine c_p (r_i rfl rfl rfl) rfl ?_
              refine t_nil ?_
              refine t_then hK157 ?_
              rcases Bool.eq_false_or_eq_true ((IntKind.wrap .i64 (y146.Plan - 1)) == 0) with hb158 | hb158
              · replace h132 := itT hb158 h132
                refine t_T rfl hb158 ?_
                refine t_seq fun K159 hK160 => ?_
                refine t_region ?_
                refine c_p (r_fa (off' := 2) Tryd.underlying27 rfl ti4 rfl rfl) rfl ?_
                refine nx (t_st u0 ti4 rfl rfl rfl rfl rfl (.s (.s (.t (.s .z)))) ?_)
                refine t_nil ?_
                refine t_then hK160 ?_
                refine t_seq fun K161 hK162 => ?_
                refine t_region ?_
                refine c_p (r_mv rfl) rfl ?_
                refine c_p (r_mv rfl) rfl ?_
                obtain ⟨y163, hy163, h132⟩ := bs h132
                refine nx (t_cf (C43 _ _ _ _ _ _ _ hy163) (fun _ => (flat_blk flat_nil)) Tryd.func43 nm43 rfl rfl rfl (.cons e0 .nil) (fun w Z S hA hL => (FL a0 hL (F1 a1 hA F0))) rfl fun t164 => ?_)
                refine t_nil ?_
                refine t_then hK162 ?_
                refine t_seq fun K165 hK166 => ?_
                refine t_region ?_
                refine c_s (r_ldA a0 Tryd.underlying27 rfl ti27 rfl rfl) rfl ?_
                refine nx (t_st u3 ti27 rfl rfl rfl rfl rfl (.t (.s (.s (.s (.s .z))))) ?_)
                refine c_p (r_as rfl) rfl ?_
                refine t_nil ?_
                refine t_then hK166 ?_
                refine t_ret ?_
                refine tr (ret2 rfl (v_N rfl a3 Tryd.underlying27 rfl ti27 rfl) (v_t rfl) (t_bk hR13 ?_))
                exact t_go (J188 y146.Room t147.1 t147.2.1 t147.2.2 y146.Files true (IntKind.wrap .i64 (y146.Plan - 1)) 242 h132) ⟨rfl, rfl, rfl, trivial⟩ (.cons e4 (.cons e1 .nil)) (fun w Z hA => V1 a1 hA (V0))
              · replace h132 := itF hb158 h132
                refine t_F rfl hb158 ?_
                refine t_skip ?_
                exact t_norm (t_go (J168 (IntKind.wrap .i64 (y146.Plan - 1)) h132) ⟨rfl, rfl, rfl, rfl, trivial⟩ (.cons e3 (.cons e1 (.cons e0 (.cons e1 .nil)))) (fun w Z hA => V1 a1 hA (V0)))
            · replace h132 := itF hb153 h132
              refine t_F rfl hb153 ?_
              refine t_skip ?_
              exact t_norm (t_go (J168 y146.Plan h132) ⟨rfl, rfl, rfl, rfl, trivial⟩ (.cons e3 (.cons e1 (.cons e0 (.cons e1 .nil)))) (fun w Z hA => V1 a1 hA (V0)))
        refine t_block ?_
        refine t_seq fun K123 hK124 => ?_
        refine t_region ?_
        refine c_p (r_mv rfl) rfl ?_
        refine c_p (r_i rfl rfl rfl) rfl ?_
        refine c_p (r_mv rfl) rfl ?_
        rcases Bool.eq_false_or_eq_true (decide (y119 < 0)) with hb125 | hb125
        · replace h116 := itT hb125 h116
          refine nx (gd rfl rfl hb125 (sp (r_mv rfl) rfl ?_))
          refine nx (gd rfl rfl hb125 (sp (r_not rfl) rfl ?_))
          refine c_p (r_pT rfl hb125 rfl) rfl ?_
          refine c_p (r_as rfl) rfl ?_
          refine t_nil ?_
          refine t_then hK124 ?_
          refine t_T rfl rfl ?_
          refine t_seq fun K126 hK127 => ?_
          refine t_region ?_
          refine c_p (r_bu (ps := []) (cs := [.int .i64 0, .slice none 0 0, .bool false, .int .i64 0]) rfl (by kernel_rfl)) rfl ?_
          refine nx (t_st u1 ti27 rfl rfl rfl rfl rfl (.t (.s (.s (.s (.s .z))))) ?_)
          refine c_p (r_as rfl) rfl ?_
          refine t_nil ?_
          refine t_then hK127 ?_
          refine t_ret ?_
          refine br (tr (ret2 rfl (v_N rfl a1 Tryd.underlying27 rfl ti27 rfl) (v_t rfl) (t_bk hR13 ?_)))
          refine t_nr 34 k_api_DiskFile ?_
          exact t_go (J188 0 none 0 0 ([] : List api_DiskFile) false 0 244 h116) ⟨rfl, rfl, rfl, trivial⟩ (.cons e3 (.cons e0 .nil)) (fun w Z hA => V1 a1 hA (V0))
        · replace h116 := itF hb125 h116
          refine nx (pass rfl rfl hb125 rfl ?_)
          refine nx (pass rfl rfl hb125 rfl ?_)
          refine c_p (r_pF rfl hb125 rfl) rfl ?_
          refine c_p (r_as rfl) rfl ?_
          refine t_nil ?_
          refine t_then hK124 ?_
          refine t_F rfl rfl ?_
          refine t_seq fun K128 hK129 => ?_
          refine t_region ?_
          refine c_p (r_mv rfl) rfl ?_
          refine c_p (r_i rfl rfl rfl) rfl ?_
          refine c_p (r_mv rfl) rfl ?_
          rcases Bool.eq_false_or_eq_true (decide (y119 ≥ 0)) with hb130 | hb130
          · replace h116 := itT hb130 h116
            refine nx (gd rfl rfl hb130 (sp (r_mv rfl) rfl ?_))
            refine c_p (r_pT rfl hb130 rfl) rfl ?_
            refine c_p (r_as rfl) rfl ?_
            refine t_nil ?_
            refine t_then hK129 ?_
            refine t_F rfl rfl ?_
            refine t_skip ?_
            refine t_blockN ?_
            exact t_norm (t_go (J131 h116) ⟨rfl, rfl, rfl, rfl, rfl, rfl, trivial⟩ (.cons e0 (.cons e0 (.cons e0 .nil))) (fun w Z hA => V1 a0 hA (V1 a1 hA (V0))))
          · replace h116 := itF hb130 h116
            refine nx (pass rfl rfl hb130 rfl ?_)
            refine c_p (r_pF rfl hb130 rfl) rfl ?_
            refine c_p (r_as rfl) rfl ?_
            refine t_nil ?_
            refine t_then hK129 ?_
            refine t_F rfl rfl ?_
            refine t_skip ?_
            refine t_blockN ?_
            exact t_norm (t_go (J131 h116) ⟨rfl, rfl, rfl, rfl, rfl, rfl, trivial⟩ (.cons e0 (.cons e0 (.cons e0 .nil))) (fun w Z hA => V1 a0 hA (V1 a1 hA (V0))))
      refine t_seq fun K38 hK39 => ?_
      refine t_region ?_
      refine c_p (r_mv rfl) rfl ?_
      refine nx (t_bs (ps := [(0, .string z1)]) (cs := [.string z1]) Tryd.underlying72 ti9 rfl rfl (by kernel_rfl) rfl fun g40 => ?_)
      refine c_p (r_mv rfl) rfl ?_
      refine t_tr (Kd := kStr) (xs := [z1]) (.cons e0 .nil) rfl (fun w Z S hA hN => flat_EO (S := Nil) flatK_str (er1 (c1 := [.string z1]) rfl er0)) ?_
      obtain ⟨hc41, h⟩ := ck_out h
      refine nx (t_app (Kd := kStr) (xs := [z1]) (ys := ([] : List ByteArray)) (.cons e0 .nil) rfl rfl Tryd.underlying72 Tryd.underlying72 ti9 rfl rfl hc41 (srcN kStr) rfl fun t42 => ?_)
      refine c_s (r_lnL a0 Tryd.underlying72 rfl) rfl ?_
      refine c_p (r_mv rfl) rfl ?_
      refine t_nil ?_
      refine t_then hK39 ?_
      refine t_block ?_
      refine t_lp fun k87 hk88 => ?_
      have LP90 : ∀ (k92 : Nat) (x89 : Int), f_disk_Sync_l1 z0 z1 k92 x89 = some r → T 90 c [vw (kSlice 34 k_api_DiskFile) z0.Files [.slice p1 m2 c3], g_names] [[blk g16 [.int .i64 z0.Room, .slice p1 m2 c3, .bool z0.Off, .int .i64 z0.Plan] 27], [blk g17 [.int .i64 0, .slice none 0 0, .bool false, .int .i64 0] 27], [row 9 kStr ([z1] ++ ([] : List ByteArray)) (.slice t42.1 t42.2.1 t42.2.2)], [blk g7 [.int .i64 0, .slice none 0 0, .bool false, .int .i64 0] 27]] [(1, .string z1), (3, .bool false), (4, .func (.func 53) #[] #[]), (5, .func (.func 54) #[] #[]), (6, .func (.func 43) #[] #[]), (7, .pointer (some ⟨g16, 0, none⟩)), (14, .pointer (some ⟨g17, 0, none⟩)), (32, .slice t42.1 t42.2.1 t42.2.2), (33, .int .i64 (([z1] ++ ([] : List ByteArray)).length : Int)), (34, .int .i64 x89)] k87 := by
        intro k92
        induction k92 with
        | zero => intro x89 h91; rewrite [f_disk_Sync_l1] at h91; cases h91
        | succ k92 ih93 =>
          intro x89 h91
          rewrite [f_disk_Sync_l1] at h91
          refine ti hk88 ?_
          refine t_seq fun K94 hK95 => ?_
          refine t_region ?_
          refine c_p (r_i rfl rfl rfl) rfl ?_
          refine t_nil ?_
          refine t_then hK95 ?_
          refine t_seq fun K96 hK97 => ?_
          rcases Bool.eq_false_or_eq_true (decide (x89 < (([z1] ++ ([] : List ByteArray)).length : Int))) with hb98 | hb98
          · replace h91 := itT hb98 h91
            refine t_T rfl hb98 ?_
            refine t_skip ?_
            refine t_then hK97 ?_
            refine t_seq fun K99 hK100 => ?_
            refine t_block ?_
            refine t_seq fun K101 hK102 => ?_
            refine t_region ?_
            obtain ⟨el106, hel106, h91⟩ := bs h91
            refine t_qL a2 hel106 fun q103 hq104 hm105 => ?_
            refine c_p (r_idx hq104 hm105 hel106 Tryd.underlying72 ti9 rfl rfl) rfl ?_
            refine t_oI opensO_str e2 hel106 fun t107 => ?_
            refine c_s (r_h1 a0 hq104 Tryd.underlying9 rfl rfl rfl) rfl ?_
            refine c_p (r_as rfl) rfl ?_
            refine t_nil ?_
            refine t_then hK102 ?_
            refine t_seq fun K108 hK109 => ?_
            refine t_region ?_
            refine c_p (r_mv rfl) rfl ?_
            obtain ⟨y110, hy110, h91⟩ := bs h91
            refine nx (t_ca (C36 _ _ hy110) Tryd.func36 nm36 rfl rfl rfl .nil (fun w Z hA => (V1 a1 hA V0)) rfl fun t111 => ?_)
            refine c_p (r_not rfl) rfl ?_
            refine t_nil ?_
            refine t_then hK109 ?_
            rcases Bool.eq_false_or_eq_true y110 with hb112 | hb112
            · replace h91 := itT hb112 h91
              refine t_F rfl (congrArg Bool.not hb112) ?_
              refine t_skip ?_
              refine t_blockN ?_
              refine t_then hK100 ?_
              refine t_region ?_
              refine c_p (r_i rfl rfl rfl) rfl ?_
              refine c_p (r_mv rfl) rfl ?_
              refine t_nil ?_
              refine t_cS (u := el106) (t := ()) shutsO_str hel106 (.cons e0 .nil) rfl (fun w Z hA => trivial) ?_
              exact t_norm (t_go (ih93 (IntKind.wrap .i64 (x89 + 1)) h91) ⟨rfl, rfl, rfl, rfl, rfl, rfl, rfl, rfl, rfl, rfl, trivial⟩ (.cons e1 (.cons e1 (.cons e0 (.cons e0 .nil)))) (fun w Z hA => V1 a0 hA (V1 a1 hA (V0))))
            · replace h91 := itF hb112 h91
              refine t_T rfl (congrArg Bool.not hb112) ?_
              refine t_seq fun K113 hK114 => ?_
              refine t_region ?_
              refine c_p (r_bu (ps := []) (cs := [.int .i64 0, .slice none 0 0, .bool false, .int .i64 0]) rfl (by kernel_rfl)) rfl ?_
              refine nx (t_st u2 ti27 rfl rfl rfl rfl rfl (.t (.s (.s (.s (.s .z))))) ?_)
              refine c_p (r_as rfl) rfl ?_
              refine t_nil ?_
              refine t_then hK114 ?_
              refine t_ret ?_
              refine br (tr (tr (br (tr (ret2 rfl (v_N rfl a2 Tryd.underlying27 rfl ti27 rfl) (v_t rfl) (t_bk hR13 ?_))))))
              refine t_nr 34 k_api_DiskFile ?_
              exact t_go (J188 0 none 0 0 ([] : List api_DiskFile) false 0 243 h91) ⟨rfl, rfl, rfl, trivial⟩ (.cons e4 (.cons e0 .nil)) (fun w Z hA => V1 a1 hA (V0))
          · replace h91 := itF hb98 h91
            refine t_F rfl hb98 ?_
            refine t_exit ?_
            refine te (te (bx ?_))
            exact t_norm (t_go (J115 h91) ⟨rfl, rfl, rfl, rfl, rfl, rfl, rfl, trivial⟩ (.cons e0 (.cons e0 (.cons e1 .nil))) (fun w Z hA => V1 a0 hA (V1 a1 hA (V0))))
      exact t_go (LP90 ((((([z1] ++ ([] : List ByteArray)).length : Int) : Int) - (0)).toNat + 1) 0 h) ⟨rfl, rfl, rfl, rfl, rfl, rfl, rfl, rfl, rfl, rfl, trivial⟩ (.cons e2 (.cons e1 (.cons e0 (.cons e0 .nil)))) (fun w Z hA => V1 a0 hA (V1 a1 hA (V0)))
  · replace h := itF hb24 h
    refine t_T rfl (congrArg Bool.not hb24) ?_
    refine t_seq fun K25 hK26 => ?_
    refine t_region ?_
    refine c_p (r_bu (ps := []) (cs := [.int .i64 0, .slice none 0 0, .bool false, .int .i64 0]) rfl (by kernel_rfl)) rfl ?_
    refine nx (t_st u0 ti27 rfl rfl rfl rfl rfl (.t (.s (.s (.s (.s .z))))) ?_)
    refine c_p (r_as rfl) rfl ?_
    refine t_nil ?_
    refine t_then hK26 ?_
    refine t_ret ?_
    refine tr (ret2 rfl (v_N rfl a0 Tryd.underlying27 rfl ti27 rfl) (v_t rfl) (t_bk hR13 ?_))
    refine t_nr 34 k_api_DiskFile ?_
    exact t_go (J188 0 none 0 0 ([] : List api_DiskFile) false 0 241 h) ⟨rfl, rfl, rfl, trivial⟩ (.cons e3 (.cons e0 .nil)) (fun w Z hA => V1 a1 hA (V0))
end Go.Proofs.YtkjeedijloobgaaDoor.Gx
