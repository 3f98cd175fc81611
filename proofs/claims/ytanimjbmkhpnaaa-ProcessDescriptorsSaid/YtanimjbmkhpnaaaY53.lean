/- Function 53, slices.Insert[[]kaudit/api.Descriptor,kaudit/api.Descriptor]: what it answers as a plain function, and that the Go code comes to exactly that (where the plain function gives an answer). -/
import Derived.Test.YtanimjbmkhpnaaaYT
set_option linter.unusedVariables false
set_option linter.unusedSimpArgs false
namespace Go.Proofs.Ytanimjbmkhpnaaa.Gx
open Go.Gx Go.RowKit
/-! ### slices.Insert[[]kaudit/api.Descriptor,kaudit/api.Descriptor]: by hand -/
def f_slices_Insert_api_Descriptor_api_Descriptor (z0 : List api_Descriptor) (z1 : Int) (z2 : List api_Descriptor) : Option (List api_Descriptor) := ck (0 ≤ z1 ∧ z1 ≤ z0.length) <| ck (fits (z0.length + z2.length) 32 = true) <| some (z0.take z1.toNat ++ z2 ++ z0.drop z1.toNat)
set_option maxHeartbeats 4000000 in
set_option maxRecDepth 100000 in
theorem C53 (z0 : List api_Descriptor) (z1 : Int) (z2 : List api_Descriptor) (p : Option Addr) (m c : Nat) (p' : Option Addr) (m' c' : Nat) (r : List api_Descriptor) (h : f_slices_Insert_api_Descriptor_api_Descriptor z0 z1 z2 = some r) : FunG Try.prog 53 #[.slice p m c, .int .i64 z1, .slice p' m' c'] [] [[row 81 k_api_Descriptor z0 (.slice p m c)], [row 81 k_api_Descriptor z2 (.slice p' m' c')]] (fun t : Option Addr × Nat × Nat => .slice t.1 t.2.1 t.2.2) (fun _ => []) (fun t => [[row 81 k_api_Descriptor r (.slice t.1 t.2.1 t.2.2)]]) := by
  unfold f_slices_Insert_api_Descriptor_api_Descriptor at h
  obtain ⟨h1, h⟩ := ck_out h
  obtain ⟨hfit, h⟩ := ck_out h
  obtain rfl := Option.some.inj h
  obtain ⟨i, rfl⟩ := Int.eq_ofNat_of_zero_le h1.1
  obtain ⟨X, Y, rfl, rfl⟩ : ∃ X Y, z0 = X ++ Y ∧ X.length = i := ⟨z0.take i, z0.drop i, (List.take_append_drop i z0).symm, by have := h1.2; rw [List.length_take]; omega⟩
  have hr : (X ++ Y).take (X.length : Int).toNat ++ z2 ++ (X ++ Y).drop (X.length : Int).toNat = X ++ z2 ++ Y := by
    rw [Int.toNat_natCast, List.take_left' rfl, List.drop_left' rfl]
  rw [hr]
  have hfit' : ((X ++ Y).length + z2.length) * 32 ≤ 140737488355328 := by simpa [fits] using hfit
  rw [List.length_append] at hfit'
  have hxl : ((X ++ Y).length : Int) = ((X.length + Y.length : Nat) : Int) := by rw [List.length_append]
  have w1 : IntKind.wrap .i64 (((X ++ Y).length : Int) + (z2.length : Int)) = ((X.length + Y.length + z2.length : Nat) : Int) := by rw [hxl, IntKind.wrap_i64]; omega
  have w2 : IntKind.wrap .i64 (((X.length + Y.length + z2.length : Nat) : Int) - (X.length : Int)) = ((z2.length + Y.length : Nat) : Int) := by rw [IntKind.wrap_i64]; omega
  have w3 : IntKind.wrap .i64 ((X.length : Int) + (z2.length : Int)) = ((X.length + z2.length : Nat) : Int) := by rw [IntKind.wrap_i64]; omega
  have hfl : FlatK k_api_Descriptor := k_api_Descriptor_flatK
  refine t_begin (args := [.slice p m c, .int .i64 (X.length : Int), .slice p' m' c']) Try.func53 rfl Try.ntmps53 rfl fun cx R hR => ?_
  refine t_seq fun K1 hK1 => ?_
  refine t_region ?_
  refine c_p (r_as rfl) rfl ?_
  refine t_nil ?_
  refine t_then hK1 ?_
  refine t_seq fun K2 hK2 => ?_
  refine t_region ?_
  refine c_p (r_mv rfl) rfl ?_
  refine c_p (r_mv rfl) rfl ?_
  refine nx (t_vw (i := (X.length : Int)) (j := ((X ++ Y).length : Int)) a0 Try.underlying36 ti81 rfl (.inr ⟨_, _, rfl, rfl⟩) (.inl ⟨rfl, rfl⟩) ⟨by omega, by rw [hxl]; omega, by omega⟩ rfl fun t1 hv => ?_)
  refine t_nil ?_
  refine t_then hK2 ?_
  refine t_seq fun K3 hK3 => ?_
  refine t_region ?_
  refine c_p (r_mv rfl) rfl ?_
  refine c_s (r_lnL a1 Try.underlying36 rfl) rfl ?_
  refine c_p (r_as rfl) rfl ?_
  refine t_nil ?_
  refine t_then hK3 ?_
  refine t_seq fun K4 hK4 => ?_
  refine t_seq fun K5 hK5 => ?_
  refine t_region ?_
  refine c_p (r_mv rfl) rfl ?_
  refine c_p (r_i rfl rfl rfl) rfl ?_
  refine t_nil ?_
  refine t_then hK5 ?_
  rcases Nat.eq_zero_or_pos z2.length with hz | hz
  · obtain rfl := List.eq_nil_of_length_eq_zero hz
    refine t_T rfl rfl ?_
    refine t_seq fun K6 hK6 => ?_
    refine t_region ?_
    refine c_p (r_mv rfl) rfl ?_
    refine c_p (r_as rfl) rfl ?_
    refine t_nil ?_
    refine t_then hK6 ?_
    refine t_ret ?_
    rw [List.append_nil] at hR
    exact tr (ret1 rfl (v_t rfl) (t_leave hR (p, m, c) rfl (fun w Z hA => V0) (.cons e0 .nil)))
  refine t_F rfl (by simp only [beq_eq_false_iff_ne]; omega) ?_
  refine t_skip ?_
  refine t_then hK4 ?_
  refine t_seq fun K7 hK7 => ?_
  refine t_region ?_
  refine c_p (r_mv rfl) rfl ?_
  refine c_s (r_lnL a0 Try.underlying36 rfl) rfl ?_
  refine c_p (r_as rfl) rfl ?_
  refine t_nil ?_
  refine t_then hK7 ?_
  refine t_seq fun K8 hK8 => ?_
  refine t_seq fun K9 hK9 => ?_
  refine t_region ?_
  refine c_p (r_mv rfl) rfl ?_
  refine c_p (r_mv rfl) rfl ?_
  refine c_p (r_i rfl rfl rfl) rfl ?_
  refine t_nil ?_
  refine t_then hK9 ?_
  rcases Nat.eq_zero_or_pos Y.length with hy | hy
  · obtain rfl := List.eq_nil_of_length_eq_zero hy
    refine t_T rfl (by rw [List.append_nil]; simp) ?_
    refine t_seq fun K10 hK10 => ?_
    refine t_region ?_
    refine c_p (r_mv rfl) rfl ?_
    refine c_p (r_mv rfl) rfl ?_
    refine nx (t_app (Kd := k_api_Descriptor) (xs := X ++ []) (ys := z2) (.cons e0 .nil) rfl rfl Try.underlying36 Try.underlying36 ti81 rfl rfl hfit (srcL hfl a1) rfl fun tt => ?_)
    refine c_p (r_as rfl) rfl ?_
    refine t_nil ?_
    refine t_then hK10 ?_
    refine t_ret ?_
    rw [List.append_nil] at hR ⊢
    exact tr (ret1 rfl (v_t rfl) (t_leave hR tt rfl (fun w Z hA => V0) (.cons e0 .nil)))
  refine t_F rfl (by simp only [beq_eq_false_iff_ne]; omega) ?_
  refine t_skip ?_
  refine t_then hK8 ?_
  refine t_opn e0 hfl (fun e => by simp at e; rw [e.2] at hy; simp at hy) fun g pre el post ep em hF hmk hp hk => ?_
  refine t_opn e1 hfl (fun e => by rw [e] at hz; simp at hz) fun g' pre' ve post' ep' em' hF' hmk' hp' hk' => ?_
  subst ep em ep' em'
  obtain ⟨c1, c2, rfl, hc1, hc2⟩ := hF.parts
  have l1 : c1.length = X.length * 4 := hc1.len cx.w0
  have l2 : c2.length = Y.length * 4 := hc2.len cx.w0
  have l3 : ve.length = z2.length * 4 := hF'.len cx.w0
  have hp : (c - (X ++ Y).length) * 4 ≤ post.length := hp
  rw [List.length_append] at hp hmk
  refine t_ne (.cons e0 (.cons e0 .nil)) fun hne => ?_
  refine t_seq fun K11 hK11 => ?_
  refine t_seq fun K12 hK12 => ?_
  refine t_region ?_
  refine c_p (r_mv rfl) rfl ?_
  refine c_p (r_mv rfl) rfl ?_
  refine c_p (r_i rfl rfl rfl) rfl ?_
  refine t_set (i := 28) rfl (congrArg (Value.int .i64) w1) ?_
  refine c_p (r_mv rfl) rfl ?_
  refine c_p (r_cap Try.underlying36 rfl) rfl ?_
  refine c_p (r_i rfl rfl rfl) rfl ?_
  refine t_nil ?_
  refine t_then hK12 ?_
  have hout : ((X ++ z2 ++ Y).length) = X.length + (z2.length + Y.length) := by simp [Nat.add_assoc]
  by_cases hcap : c < X.length + Y.length + z2.length
  · refine t_T rfl (by simp only [decide_eq_true_eq]; omega) ?_
    refine t_seq fun K13 hK13 => ?_
    refine t_region ?_
    refine c_p (r_mv rfl) rfl ?_
    refine c_p (r_mv rfl) rfl ?_
    refine c_p (r_cutE (i := 0) (j := (X.length : Int)) Try.underlying36 ti81 rfl (.inl ⟨rfl, rfl⟩) (.inr ⟨_, _, rfl, rfl⟩) 0 X.length (o2 := pre.length) (m2 := X.length) (k2 := c) rfl rfl (by omega) (by omega) (by omega) (by omega) (by omega) (by omega)) rfl ?_
    refine c_p (r_mv rfl) rfl ?_
    refine c_p (r_mv rfl) rfl ?_
    refine c_p (r_i rfl rfl rfl) rfl ?_
    refine t_set (i := 37) rfl (congrArg (Value.int .i64) w1) ?_
    refine c_p (r_mv rfl) rfl ?_
    refine c_p (r_i rfl rfl rfl) rfl ?_
    refine t_set (i := 39) rfl (congrArg (Value.int .i64) w2) ?_
    refine nx (t_apz (el := c1) (el' := c2) (m := z2.length + Y.length) a1 rfl rfl rfl Try.underlying36 Try.underlying3 ti81 rfl (by decide) (by decide) rfl l1 (by omega) (by omega) (by rw [← Nat.add_assoc, Nat.add_right_comm]; exact hfit') rfl fun g2 k2 rest hk1 hk2 hrest => ?_)
    refine c_p (r_as rfl) rfl ?_
    refine t_nil ?_
    refine t_then hK13 ?_
    refine t_seq fun K14 hK14 => ?_
    refine t_region ?_
    refine c_p (r_mv rfl) rfl ?_
    refine c_p (r_mv rfl) rfl ?_
    refine c_p (r_cutE (i := (X.length : Int)) (j := ((X.length + (z2.length + Y.length) : Nat) : Int)) Try.underlying36 ti81 rfl (.inr ⟨_, _, rfl, rfl⟩) (.inl ⟨rfl, rfl⟩) X.length (X.length + (z2.length + Y.length)) (o2 := c1.length) (m2 := z2.length + Y.length) (k2 := k2 - X.length) rfl rfl (by omega) (by omega) (by omega) (by omega) (by omega) (by omega)) rfl ?_
    refine c_p (r_mv rfl) rfl ?_
    refine nx (t_cp (cs' := c1 ++ ve ++ rest.drop ve.length) (el := ve) (pre := pre') (post := post') u0 a1 rfl rfl Try.underlying36 ti81 rfl rfl (by rw [l3]; exact congrArg (· * 4) (Nat.min_eq_left (by omega)).symm) (hF'.one cx.w0) (by rw [List.length_append, hrest, l3]; omega) (over_at (b := rest.take ve.length) (by rw [List.append_assoc, List.take_append_drop]) rfl (by rw [List.length_take, hrest]; omega)) rfl ?_)
    refine t_nil ?_
    refine t_then hK14 ?_
    refine t_seq fun K15 hK15 => ?_
    refine t_draw mixed (fun _ => True) [] [8] rfl ?_
    refine q_p 0 (panic_then (panic_then panic_body)) rfl (by kernel_rfl) W0 (r_mv rfl) rfl ?_
    refine q_p 1 (panic_then (panic_then panic_body)) rfl (by kernel_rfl) W0 (r_mv rfl) rfl ?_
    refine q_p 2 (panic_then (panic_then panic_body)) rfl (by kernel_rfl) W0 (r_mv rfl) rfl ?_
    refine q_p 3 (panic_then (panic_then panic_body)) rfl (by kernel_rfl) W0 (r_i rfl rfl rfl) rfl ?_
    refine t_set (i := 49) rfl (congrArg (Value.int .i64) w3) ?_
    refine q_p 4 (panic_then (panic_then panic_body)) rfl (by kernel_rfl) W0 (r_cutE (i := ((X.length + z2.length : Nat) : Int)) (j := ((X.length + (z2.length + Y.length) : Nat) : Int)) Try.underlying36 ti81 rfl (.inr ⟨_, _, rfl, rfl⟩) (.inl ⟨rfl, rfl⟩) (X.length + z2.length) (X.length + (z2.length + Y.length)) (o2 := (c1 ++ ve).length) (m2 := Y.length) (k2 := k2 - (X.length + z2.length)) rfl rfl (by omega) (by omega) (by omega) (by rw [List.length_append]; omega) (by omega) (by omega)) rfl ?_
    refine q_p 5 (panic_then (panic_then panic_body)) rfl (by kernel_rfl) W0 (r_mv rfl) rfl ?_
    refine q_p 6 (panic_then (panic_then panic_body)) rfl (by kernel_rfl) W0 (r_mv rfl) rfl ?_
    refine q_p 7 (panic_then (panic_then panic_body)) rfl (by kernel_rfl) W0 (r_cutE (i := (X.length : Int)) (j := ((X ++ Y).length : Int)) Try.underlying36 ti81 rfl (.inr ⟨_, _, rfl, rfl⟩) (.inl ⟨rfl, rfl⟩) X.length (X ++ Y).length (o2 := (pre ++ c1).length) (m2 := Y.length) (k2 := c - X.length) rfl rfl (by rw [List.length_append]; omega) (by rw [List.length_append]; omega) (by omega) (by rw [List.length_append]; omega) (by rw [List.length_append]; omega) (by omega)) rfl ?_
    refine d1 8 rfl (by kernel_rfl) (by kernel_rfl) ?_
    refine t_cp (cs' := c1 ++ ve ++ c2 ++ (rest.drop ve.length).drop c2.length) (el := c2) (pre := pre ++ c1) (post := post) u0 a2 rfl rfl Try.underlying36 ti81 (by simp [List.append_assoc]) rfl (by rw [l2]; exact congrArg (· * 4) (Nat.min_self _).symm) (hc2.one cx.w0) (by simp only [List.length_append, List.length_drop, hrest, l2, l3]; omega) (over_at (b := (rest.drop ve.length).take c2.length) (by rw [List.append_assoc, List.append_assoc, List.take_append_drop, ← List.append_assoc]) rfl (by rw [List.length_take, List.length_drop, hrest]; omega)) rfl ?_
    refine dn (by kernel_rfl) ?_
    refine dz (by kernel_rfl) ?_
    refine t_then hK15 ?_
    refine t_seq fun K16 hK16 => ?_
    refine t_region ?_
    refine c_p (r_mv rfl) rfl ?_
    refine c_p (r_as rfl) rfl ?_
    refine t_nil ?_
    refine t_then hK16 ?_
    refine t_ret ?_
    refine tr (ret1 rfl (v_t rfl) ?_)
    refine t_shu (Kd := k_api_Descriptor) (xs := X ++ z2 ++ Y) (pre := []) (el := c1 ++ ve ++ c2) (post := (rest.drop ve.length).drop c2.length) (k := k2) (m := X.length + (z2.length + Y.length)) (off := 0) e0 (by simp [List.append_assoc]) ((hc1.append hF').append hc2) rfl hout.symm hk1 ?_ hk2 ?_
    · show (k2 - (X.length + (z2.length + Y.length))) * 4 ≤ _
      rw [List.length_drop, List.length_drop, hrest, l2, l3]; omega
    · exact t_leave hR (some ⟨g2, 0, none⟩, X.length + (z2.length + Y.length), k2) rfl (fun w Z hA => V0) (.cons e0 .nil)
  refine t_F rfl (by simp only [decide_eq_false_iff_not]; omega) ?_
  refine t_skip ?_
  refine t_then hK11 ?_
  refine t_seq fun K17 hK17 => ?_
  refine t_region ?_
  refine c_p (r_mv rfl) rfl ?_
  refine c_p (r_mv rfl) rfl ?_
  refine c_p (r_mv rfl) rfl ?_
  refine c_p (r_i rfl rfl rfl) rfl ?_
  refine t_set (i := 59) rfl (congrArg (Value.int .i64) w1) ?_
  refine c_p (r_cutE (i := 0) (j := ((X.length + Y.length + z2.length : Nat) : Int)) Try.underlying36 ti81 rfl (.inl ⟨rfl, rfl⟩) (.inr ⟨_, _, rfl, rfl⟩) 0 (X.length + Y.length + z2.length) (o2 := pre.length) (m2 := X.length + (z2.length + Y.length)) (k2 := c) rfl rfl (by omega) (by omega) (by omega) (by omega) (by omega) (by omega)) rfl ?_
  refine c_p (r_as rfl) rfl ?_
  refine t_nil ?_
  refine t_then hK17 ?_
  refine t_seq fun K18 hK18 => ?_
  refine t_seq fun K19 hK19 => ?_
  refine t_region ?_
  refine c_p (r_mv rfl) rfl ?_
  refine c_p (r_mv rfl) rfl ?_
  refine c_p (r_mv rfl) rfl ?_
  refine c_p (r_mv rfl) rfl ?_
  refine c_p (r_i rfl rfl rfl) rfl ?_
  refine t_set (i := 65) rfl (congrArg (Value.int .i64) w3) ?_
  refine c_p (r_cutE (i := ((X.length + z2.length : Nat) : Int)) (j := ((X.length + (z2.length + Y.length) : Nat) : Int)) Try.underlying36 ti81 rfl (.inr ⟨_, _, rfl, rfl⟩) (.inl ⟨rfl, rfl⟩) (X.length + z2.length) (X.length + (z2.length + Y.length)) (o2 := pre.length + c1.length + ve.length) (m2 := Y.length) (k2 := c - (X.length + z2.length)) rfl rfl (by omega) (by omega) (by omega) (by omega) (by omega) (by omega)) rfl ?_
  refine c_s (r_ov (tS := 36) (tR := 4) rfl rfl rfl Try.underlying36 ti81 a0 a1 hne (by simp only [List.length_append]; omega) fun w => run_callFunc_extern Try.func67 (by kernel_rfl) (by kernel_rfl) (by kernel_rfl) (e := Extern.SlicesOverlaps.overlaps #[36, 36] #[4]) (by kernel_rfl) _ w) rfl ?_
  refine c_p (r_not rfl) rfl ?_
  refine t_nil ?_
  refine t_then hK19 ?_
  refine t_T rfl rfl ?_
  refine t_seq fun K20 hK20 => ?_
  refine t_draw mixed (fun _ => True) [] [8] rfl ?_
  refine q_p 0 (panic_then (panic_then panic_body)) rfl (by kernel_rfl) W0 (r_mv rfl) rfl ?_
  refine q_p 1 (panic_then (panic_then panic_body)) rfl (by kernel_rfl) W0 (r_mv rfl) rfl ?_
  refine q_p 2 (panic_then (panic_then panic_body)) rfl (by kernel_rfl) W0 (r_mv rfl) rfl ?_
  refine q_p 3 (panic_then (panic_then panic_body)) rfl (by kernel_rfl) W0 (r_i rfl rfl rfl) rfl ?_
  refine t_set (i := 72) rfl (congrArg (Value.int .i64) w3) ?_
  refine q_p 4 (panic_then (panic_then panic_body)) rfl (by kernel_rfl) W0 (r_cutE (i := ((X.length + z2.length : Nat) : Int)) (j := ((X.length + (z2.length + Y.length) : Nat) : Int)) Try.underlying36 ti81 rfl (.inr ⟨_, _, rfl, rfl⟩) (.inl ⟨rfl, rfl⟩) (X.length + z2.length) (X.length + (z2.length + Y.length)) (o2 := pre.length + c1.length + ve.length) (m2 := Y.length) (k2 := c - (X.length + z2.length)) rfl rfl (by omega) (by omega) (by omega) (by omega) (by omega) (by omega)) rfl ?_
  refine q_p 5 (panic_then (panic_then panic_body)) rfl (by kernel_rfl) W0 (r_mv rfl) rfl ?_
  refine q_p 6 (panic_then (panic_then panic_body)) rfl (by kernel_rfl) W0 (r_mv rfl) rfl ?_
  refine q_p 7 (panic_then (panic_then panic_body)) rfl (by kernel_rfl) W0 (r_cutE (i := (X.length : Int)) (j := ((X.length + (z2.length + Y.length) : Nat) : Int)) Try.underlying36 ti81 rfl (.inr ⟨_, _, rfl, rfl⟩) (.inl ⟨rfl, rfl⟩) X.length (X.length + (z2.length + Y.length)) (o2 := (pre ++ c1).length) (m2 := z2.length + Y.length) (k2 := c - X.length) rfl rfl (by omega) (by omega) (by omega) (by rw [List.length_append]; omega) (by omega) (by omega)) rfl ?_
  refine d1 8 rfl (by kernel_rfl) (by kernel_rfl) ?_
  refine t_cp (cs' := pre ++ c1 ++ (c2 ++ post).take ve.length ++ c2 ++ post.drop ve.length) (el := c2) (pre := pre ++ c1) (post := post) u1 a1 rfl rfl Try.underlying36 ti81 (by simp [List.append_assoc]) rfl (by rw [l2]; exact congrArg (· * 4) (Nat.min_eq_right (by omega)).symm) (hc2.one cx.w0) (by simp only [List.length_append]; omega) (over_shift rfl (by omega)) rfl ?_
  refine dn (by kernel_rfl) ?_
  refine dz (by kernel_rfl) ?_
  refine t_then hK20 ?_
  refine t_seq fun K21 hK21 => ?_
  refine t_region ?_
  refine c_p (r_mv rfl) rfl ?_
  refine c_p (r_mv rfl) rfl ?_
  refine c_p (r_cutE (i := (X.length : Int)) (j := ((X.length + (z2.length + Y.length) : Nat) : Int)) Try.underlying36 ti81 rfl (.inr ⟨_, _, rfl, rfl⟩) (.inl ⟨rfl, rfl⟩) X.length (X.length + (z2.length + Y.length)) (o2 := (pre ++ c1).length) (m2 := z2.length + Y.length) (k2 := c - X.length) rfl rfl (by omega) (by omega) (by omega) (by rw [List.length_append]; omega) (by omega) (by omega)) rfl ?_
  refine c_p (r_mv rfl) rfl ?_
  refine nx (t_cp (cs' := (pre ++ c1) ++ ve ++ (c2 ++ post.drop ve.length)) (el := ve) (pre := pre') (post := post') u1 a0 rfl rfl Try.underlying36 ti81 rfl rfl (by rw [l3]; exact congrArg (· * 4) (Nat.min_eq_left (by omega)).symm) (hF'.one cx.w0) (by simp only [List.length_append, List.length_take, List.length_drop]; omega) (over_at (b := (c2 ++ post).take ve.length) (by simp only [List.append_assoc]) rfl (by simp only [List.length_append, List.length_take]; omega)) rfl ?_)
  refine t_nil ?_
  refine t_then hK21 ?_
  refine t_seq fun K22 hK22 => ?_
  refine t_region ?_
  refine c_p (r_mv rfl) rfl ?_
  refine c_p (r_as rfl) rfl ?_
  refine t_nil ?_
  refine t_then hK22 ?_
  refine t_ret ?_
  refine tr (ret1 rfl (v_t rfl) ?_)
  refine t_shu (Kd := k_api_Descriptor) (xs := X ++ z2 ++ Y) (pre := pre) (el := c1 ++ ve ++ c2) (post := post.drop ve.length) (k := c) (m := X.length + (z2.length + Y.length)) (off := pre.length) e1 (by simp only [List.append_assoc]) ((hc1.append hF').append hc2) rfl hout.symm (by omega) ?_ hk ?_
  · show (c - (X.length + (z2.length + Y.length))) * 4 ≤ _
    rw [List.length_drop, l3]; omega
  · exact t_leave hR (some ⟨g, pre.length, none⟩, X.length + (z2.length + Y.length), c) rfl (fun w Z hA => V0) (.cons e0 .nil)
end Go.Proofs.Ytanimjbmkhpnaaa.Gx
