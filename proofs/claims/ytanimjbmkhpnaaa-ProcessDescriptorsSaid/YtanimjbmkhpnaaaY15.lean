/- Function 15, kaudit/kauditlaw09.awake: what it answers as a plain function, and that the Go code comes to exactly that (where the plain function gives an answer). -/
import Derived.Test.YtanimjbmkhpnaaaYT
import Derived.Test.YtanimjbmkhpnaaaY9
import Derived.Test.YtanimjbmkhpnaaaY10
import Derived.Test.YtanimjbmkhpnaaaY12
import Derived.Test.YtanimjbmkhpnaaaY14
set_option linter.unusedVariables false
set_option linter.unusedSimpArgs false
namespace Go.Proofs.Ytanimjbmkhpnaaa.Gx
open Go.Gx Go.RowKit
/-! ### kaudit/kauditlaw09.awake: function 15 -/
def f_kauditlaw09_awake : Option (Bool) := (f_process_New (⟨0, 1⟩ : api_File)).bind fun y5 => (f_process_Fork y5 1).bind fun y10 => (f_process_Setuid y10.1 y10.2.1 5).bind fun y14 => (f_process_Setuid y14.1 y10.2.1 0).bind fun y18 => (f_process_Get y14.1 2).bind fun y23 => if (y10.2.2 == 0) = true then (if (y14.2 == 0) = true then (if (y18.2 == 1) = true then (if (y10.2.1 == 2) = true then (if y23.2 = true then (if (y23.1.UID == 5) = true then (some (y23.1.PPID == 1)) else (some false)) else (some false)) else (some false)) else (some false)) else (some false)) else (some false)
set_option maxHeartbeats 4000000 in
set_option maxRecDepth 100000 in
theorem C15 (r : Bool) (h : f_kauditlaw09_awake = some r) : FunG Try.prog 15 #[] [] [] (fun (_ : Unit) => .bool r) (fun _ => []) (fun _ => []) := by
  unfold f_kauditlaw09_awake at h
  refine t_begin (args := []) Try.func15 rfl Try.ntmps15 rfl fun c R hR => ?_
  have hQ : ∀ X, X = r → ∀ w2 (_ : Unit), PostG c.w0 w2 c.M c.Y [] [] → R (.returned (.bool X)) w2 := fun X e => by subst e; exact hR
  refine t_seq fun K1 hK2 => ?_
  refine t_region ?_
  refine c_p (r_as rfl) rfl ?_
  refine t_nil ?_
  refine t_then hK2 ?_
  refine t_seq fun K3 hK4 => ?_
  refine t_region ?_
  refine c_p (r_bu (ps := [(1, .int .i64 1)]) (cs := [.int .i64 0, .int .i64 1]) rfl (by kernel_rfl)) rfl ?_
  obtain ⟨y5, hy5, h⟩ := bs h
  refine nx (t_ca (C9 _ _ hy5) Try.func9 nm9 rfl rfl rfl .nil (fun w Z hA => V0) rfl fun t6 => ?_)
  refine nx (t_al (cs := [.int .i64 0, .int .i64 0, .slice none 0 0]) ti28 rfl rfl fun g7 => ?_)
  refine nx (t_st u0 ti28 rfl rfl rfl rfl rfl (.t (.s (.s (.s .z)))) ?_)
  refine t_nil ?_
  refine t_then hK4 ?_
  refine t_seq fun K8 hK9 => ?_
  refine t_region ?_
  refine c_s (r_ldA a0 Try.underlying28 rfl ti28 rfl rfl) rfl ?_
  obtain ⟨y10, hy10, h⟩ := bs h
  refine nx (t_cf (C10 _ _ _ _ _ _ hy10) (fun _ => (flat_cons (indK_slice 38 k_api_Process_indK) flat_nil)) Try.func10 nm10 rfl rfl rfl .nil (fun w Z S hA hL => (FL a1 hL F0)) rfl fun t11 => ?_)
  refine c_p (r_mv rfl) rfl ?_
  refine c_p (r_ex rfl rfl) rfl ?_
  refine c_p (r_ex rfl rfl) rfl ?_
  refine c_p (r_ex rfl rfl) rfl ?_
  refine nx (t_st u1 ti28 rfl rfl rfl rfl rfl (.t (.s (.s (.s .z)))) ?_)
  refine c_p (r_as rfl) rfl ?_
  refine c_p (r_as rfl) rfl ?_
  refine t_nil ?_
  refine t_then hK9 ?_
  refine t_seq fun K12 hK13 => ?_
  refine t_region ?_
  refine c_s (r_ldA a1 Try.underlying28 rfl ti28 rfl rfl) rfl ?_
  refine c_p (r_mv rfl) rfl ?_
  obtain ⟨y14, hy14, h⟩ := bs h
  refine nx (t_cf (C12 _ _ _ _ _ _ _ hy14) (fun _ => (flat_cons (indK_slice 38 k_api_Process_indK) flat_nil)) Try.func12 nm12 rfl rfl rfl .nil (fun w Z S hA hL => (FL a0 hL F0)) rfl fun t15 => ?_)
  refine c_p (r_mv rfl) rfl ?_
  refine c_p (r_ex rfl rfl) rfl ?_
  refine c_p (r_ex rfl rfl) rfl ?_
  refine nx (t_st u2 ti28 rfl rfl rfl rfl rfl (.t (.s (.s (.s .z)))) ?_)
  refine c_p (r_as rfl) rfl ?_
  refine t_nil ?_
  refine t_then hK13 ?_
  refine t_seq fun K16 hK17 => ?_
  refine t_region ?_
  refine c_s (r_ldA a2 Try.underlying28 rfl ti28 rfl rfl) rfl ?_
  refine c_p (r_mv rfl) rfl ?_
  obtain ⟨y18, hy18, h⟩ := bs h
  refine nx (t_cf (C12 _ _ _ _ _ _ _ hy18) (fun _ => (flat_cons (indK_slice 38 k_api_Process_indK) flat_nil)) Try.func12 nm12 rfl rfl rfl .nil (fun w Z S hA hL => (FL a0 hL F0)) rfl fun t19 => ?_)
  refine c_p (r_mv rfl) rfl ?_
  refine c_p (r_ex rfl rfl) rfl ?_
  refine c_p (r_ex rfl rfl) rfl ?_
  refine nx (t_al (cs := [.int .i64 0, .int .i64 0, .slice none 0 0]) ti28 rfl rfl fun g20 => ?_)
  refine nx (t_st u0 ti28 rfl rfl rfl rfl rfl (.t (.s (.s (.s .z)))) ?_)
  refine c_p (r_as rfl) rfl ?_
  refine t_nil ?_
  refine t_then hK17 ?_
  refine t_seq fun K21 hK22 => ?_
  refine t_region ?_
  refine c_s (r_ldA a4 Try.underlying28 rfl ti28 rfl rfl) rfl ?_
  obtain ⟨y23, hy23, h⟩ := bs h
  refine nx (t_cf (C14 _ _ _ _ _ _ hy23) (fun _ => (flat_cons (indK_slice 81 k_api_Descriptor_indK) flat_nil)) Try.func14 nm14 rfl rfl rfl .nil (fun w Z S hA hL => (FL a2 hL F0)) rfl fun t24 => ?_)
  refine c_p (r_mv rfl) rfl ?_
  refine c_p (r_ex rfl rfl) rfl ?_
  refine c_p (r_ex rfl rfl) rfl ?_
  refine nx (t_al (cs := [.int .i64 0, .int .i64 0, .int .i64 0, .int .i64 0, .int .i64 0, .int .i64 0, .int .i64 0, .int .i64 0, .int .i64 0, .int .i64 0, .string (⟨#[]⟩ : ByteArray), .string (⟨#[]⟩ : ByteArray), .slice none 0 0, .bool false]) ti38 rfl rfl fun g25 => ?_)
  refine nx (t_st u0 ti38 rfl rfl rfl rfl rfl (.t (.s (.s (.s (.s (.s (.s (.s (.s (.s (.s (.s (.s (.s (.s .z))))))))))))))) ?_)
  refine c_p (r_as rfl) rfl ?_
  refine t_nil ?_
  refine t_then hK22 ?_
  refine t_seq fun K26 hK27 => ?_
  refine t_region ?_
  refine c_p (r_mv rfl) rfl ?_
  refine c_p (r_i rfl rfl rfl) rfl ?_
  refine c_p (r_mv rfl) rfl ?_
  rcases Bool.eq_false_or_eq_true (y10.2.2 == 0) with hb28 | hb28
  · replace h := itT hb28 h
    refine nx (gd rfl rfl hb28 (sp (r_mv rfl) rfl ?_))
    refine nx (gd rfl rfl hb28 (sp (r_i rfl rfl rfl) rfl ?_))
    refine c_p (r_pT rfl hb28 rfl) rfl ?_
    refine c_p (r_mv rfl) rfl ?_
    rcases Bool.eq_false_or_eq_true (y14.2 == 0) with hb29 | hb29
    · replace h := itT hb29 h
      refine nx (gd rfl rfl hb29 (sp (r_mv rfl) rfl ?_))
      refine nx (gd rfl rfl hb29 (sp (r_i rfl rfl rfl) rfl ?_))
      refine c_p (r_pT rfl hb29 rfl) rfl ?_
      refine c_p (r_mv rfl) rfl ?_
      rcases Bool.eq_false_or_eq_true (y18.2 == 1) with hb30 | hb30
      · replace h := itT hb30 h
        refine nx (gd rfl rfl hb30 (sp (r_mv rfl) rfl ?_))
        refine nx (gd rfl rfl hb30 (sp (r_i rfl rfl rfl) rfl ?_))
        refine c_p (r_pT rfl hb30 rfl) rfl ?_
        refine c_p (r_mv rfl) rfl ?_
        rcases Bool.eq_false_or_eq_true (y10.2.1 == 2) with hb31 | hb31
        · replace h := itT hb31 h
          refine nx (gd rfl rfl hb31 (sp (r_mv rfl) rfl ?_))
          refine c_p (r_pT rfl hb31 rfl) rfl ?_
          refine c_p (r_mv rfl) rfl ?_
          rcases Bool.eq_false_or_eq_true y23.2 with hb32 | hb32
          · replace h := itT hb32 h
            refine nx (gd rfl rfl hb32 (sp (r_fa (off' := 2) Try.underlying38 rfl ti3 rfl rfl) rfl ?_))
            refine nx (gd rfl rfl hb32 (ss (r_ld a0 Try.underlying3 rfl rfl rfl) rfl ?_))
            refine nx (gd rfl rfl hb32 (sp (r_i rfl rfl rfl) rfl ?_))
            refine c_p (r_pT rfl hb32 rfl) rfl ?_
            refine c_p (r_mv rfl) rfl ?_
            rcases Bool.eq_false_or_eq_true (y23.1.UID == 5) with hb33 | hb33
            · replace h := itT hb33 h
              refine nx (gd rfl rfl hb33 (sp (r_fa (off' := 1) Try.underlying38 rfl ti3 rfl rfl) rfl ?_))
              refine nx (gd rfl rfl hb33 (ss (r_ld a0 Try.underlying3 rfl rfl rfl) rfl ?_))
              refine nx (gd rfl rfl hb33 (sp (r_i rfl rfl rfl) rfl ?_))
              refine c_p (r_pT rfl hb33 rfl) rfl ?_
              refine c_p (r_as rfl) rfl ?_
              refine t_nil ?_
              refine t_then hK27 ?_
              refine t_ret ?_
              exact ret1 rfl (v_t rfl) (t_leave (hQ _ (Option.some.inj h)) () rfl (fun w Z hA => V0) .nil)
            · replace h := itF hb33 h
              refine nx (pass rfl rfl hb33 rfl ?_)
              refine nx (pass rfl rfl hb33 rfl ?_)
              refine nx (pass rfl rfl hb33 rfl ?_)
              refine c_p (r_pF rfl hb33 rfl) rfl ?_
              refine c_p (r_as rfl) rfl ?_
              refine t_nil ?_
              refine t_then hK27 ?_
              refine t_ret ?_
              exact ret1 rfl (v_t rfl) (t_leave (hQ _ (Option.some.inj h)) () rfl (fun w Z hA => V0) .nil)
          · replace h := itF hb32 h
            refine nx (pass rfl rfl hb32 rfl ?_)
            refine nx (pass rfl rfl hb32 rfl ?_)
            refine nx (pass rfl rfl hb32 rfl ?_)
            refine c_p (r_pF rfl hb32 rfl) rfl ?_
            refine c_p (r_mv rfl) rfl ?_
            refine nx (pass rfl rfl rfl rfl ?_)
            refine nx (pass rfl rfl rfl rfl ?_)
            refine nx (pass rfl rfl rfl rfl ?_)
            refine c_p (r_pF rfl rfl rfl) rfl ?_
            refine c_p (r_as rfl) rfl ?_
            refine t_nil ?_
            refine t_then hK27 ?_
            refine t_ret ?_
            exact ret1 rfl (v_t rfl) (t_leave (hQ _ (Option.some.inj h)) () rfl (fun w Z hA => V0) .nil)
        · replace h := itF hb31 h
          refine nx (pass rfl rfl hb31 rfl ?_)
          refine c_p (r_pF rfl hb31 rfl) rfl ?_
          refine c_p (r_mv rfl) rfl ?_
          refine nx (pass rfl rfl rfl rfl ?_)
          refine nx (pass rfl rfl rfl rfl ?_)
          refine nx (pass rfl rfl rfl rfl ?_)
          refine c_p (r_pF rfl rfl rfl) rfl ?_
          refine c_p (r_mv rfl) rfl ?_
          refine nx (pass rfl rfl rfl rfl ?_)
          refine nx (pass rfl rfl rfl rfl ?_)
          refine nx (pass rfl rfl rfl rfl ?_)
          refine c_p (r_pF rfl rfl rfl) rfl ?_
          refine c_p (r_as rfl) rfl ?_
          refine t_nil ?_
          refine t_then hK27 ?_
          refine t_ret ?_
          exact ret1 rfl (v_t rfl) (t_leave (hQ _ (Option.some.inj h)) () rfl (fun w Z hA => V0) .nil)
      · replace h := itF hb30 h
        refine nx (pass rfl rfl hb30 rfl ?_)
        refine nx (pass rfl rfl hb30 rfl ?_)
        refine c_p (r_pF rfl hb30 rfl) rfl ?_
        refine c_p (r_mv rfl) rfl ?_
        refine nx (pass rfl rfl rfl rfl ?_)
        refine c_p (r_pF rfl rfl rfl) rfl ?_
        refine c_p (r_mv rfl) rfl ?_
        refine nx (pass rfl rfl rfl rfl ?_)
        refine nx (pass rfl rfl rfl rfl ?_)
        refine nx (pass rfl rfl rfl rfl ?_)
        refine c_p (r_pF rfl rfl rfl) rfl ?_
        refine c_p (r_mv rfl) rfl ?_
        refine nx (pass rfl rfl rfl rfl ?_)
        refine nx (pass rfl rfl rfl rfl ?_)
        refine nx (pass rfl rfl rfl rfl ?_)
        refine c_p (r_pF rfl rfl rfl) rfl ?_
        refine c_p (r_as rfl) rfl ?_
        refine t_nil ?_
        refine t_then hK27 ?_
        refine t_ret ?_
        exact ret1 rfl (v_t rfl) (t_leave (hQ _ (Option.some.inj h)) () rfl (fun w Z hA => V0) .nil)
    · replace h := itF hb29 h
      refine nx (pass rfl rfl hb29 rfl ?_)
      refine nx (pass rfl rfl hb29 rfl ?_)
      refine c_p (r_pF rfl hb29 rfl) rfl ?_
      refine c_p (r_mv rfl) rfl ?_
      refine nx (pass rfl rfl rfl rfl ?_)
      refine nx (pass rfl rfl rfl rfl ?_)
      refine c_p (r_pF rfl rfl rfl) rfl ?_
      refine c_p (r_mv rfl) rfl ?_
      refine nx (pass rfl rfl rfl rfl ?_)
      refine c_p (r_pF rfl rfl rfl) rfl ?_
      refine c_p (r_mv rfl) rfl ?_
      refine nx (pass rfl rfl rfl rfl ?_)
      refine nx (pass rfl rfl rfl rfl ?_)
      refine nx (pass rfl rfl rfl rfl ?_)
      refine c_p (r_pF rfl rfl rfl) rfl ?_
      refine c_p (r_mv rfl) rfl ?_
      refine nx (pass rfl rfl rfl rfl ?_)
      refine nx (pass rfl rfl rfl rfl ?_)
      refine nx (pass rfl rfl rfl rfl ?_)
      refine c_p (r_pF rfl rfl rfl) rfl ?_
      refine c_p (r_as rfl) rfl ?_
      refine t_nil ?_
      refine t_then hK27 ?_
      refine t_ret ?_
      exact ret1 rfl (v_t rfl) (t_leave (hQ _ (Option.some.inj h)) () rfl (fun w Z hA => V0) .nil)
  · replace h := itF hb28 h
    refine nx (pass rfl rfl hb28 rfl ?_)
    refine nx (pass rfl rfl hb28 rfl ?_)
    refine c_p (r_pF rfl hb28 rfl) rfl ?_
    refine c_p (r_mv rfl) rfl ?_
    refine nx (pass rfl rfl rfl rfl ?_)
    refine nx (pass rfl rfl rfl rfl ?_)
    refine c_p (r_pF rfl rfl rfl) rfl ?_
    refine c_p (r_mv rfl) rfl ?_
    refine nx (pass rfl rfl rfl rfl ?_)
    refine nx (pass rfl rfl rfl rfl ?_)
    refine c_p (r_pF rfl rfl rfl) rfl ?_
    refine c_p (r_mv rfl) rfl ?_
    refine nx (pass rfl rfl rfl rfl ?_)
    refine c_p (r_pF rfl rfl rfl) rfl ?_
    refine c_p (r_mv rfl) rfl ?_
    refine nx (pass rfl rfl rfl rfl ?_)
    refine nx (pass rfl rfl rfl rfl ?_)
    refine nx (pass rfl rfl rfl rfl ?_)
    refine c_p (r_pF rfl rfl rfl) rfl ?_
    refine c_p (r_mv rfl) rfl ?_
    refine nx (pass rfl rfl rfl rfl ?_)
    refine nx (pass rfl rfl rfl rfl ?_)
    refine nx (pass rfl rfl rfl rfl ?_)
    refine c_p (r_pF rfl rfl rfl) rfl ?_
    refine c_p (r_as rfl) rfl ?_
    refine t_nil ?_
    refine t_then hK27 ?_
    refine t_ret ?_
    exact ret1 rfl (v_t rfl) (t_leave (hQ _ (Option.some.inj h)) () rfl (fun w Z hA => V0) .nil)
end Go.Proofs.Ytanimjbmkhpnaaa.Gx
