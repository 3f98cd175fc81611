/- Function 70, slices.Clone___kaudit/api.Descriptor_kaudit/api.Descriptor_: what it answers as a plain function, and that the Go code comes to exactly that (where the plain function gives an answer). -/
import Derived.Test.YtanimjbmkhpnaaaXT
set_option linter.unusedVariables false
set_option linter.unusedSimpArgs false
namespace Go.Proofs.Ytanimjbmkhpnaaa.Gx
open Go.Gx Go.RowKit
/-! ### slices.Clone[[]kaudit/api.Descriptor,kaudit/api.Descriptor]: function 70 -/
def f_slices_Clone_api_Descriptor_api_Descriptor (a0 : (List api_Descriptor)) : Option ((List api_Descriptor)) := ck (fits (([] : List api_Descriptor).length + a0.length) 32 = true) (some ((([] : List api_Descriptor) ++ a0)))
set_option maxHeartbeats 4000000 in
set_option maxRecDepth 100000 in
theorem C70 (a0 : (List api_Descriptor)) (p35 : Option Addr) (c36 : Nat) (r : (List api_Descriptor)) (w : World) (h : f_slices_Clone_api_Descriptor_api_Descriptor a0 = some r) : Fun Try.prog 70 #[.slice p35 a0.length c36] w [vw (kSlice 81 k_api_Descriptor) a0 [.slice p35 a0.length c36]] (fun (v_ : Value) (A_ : List VP) (N_ : List (List SP)) => ∃ (p37 : Option Addr) (c38 : Nat), v_ = .slice p37 r.length c38 ∧ A_ = [] ∧ N_ = [[row 81 k_api_Descriptor r (.slice p37 r.length c38)]]) := by
  unfold f_slices_Clone_api_Descriptor_api_Descriptor at h
  refine fun_begin (args := [.slice p35 a0.length c36]) Try.func70 rfl Try.ntmps70 rfl fun Z a E H => ?_
  refine wp_seq_k fun _ hK39 => ?_
  refine wp_region_lit ?_
  refine wl_cons (wl_val E rfl (rn_assign E rfl rfl) rfl fun a40 E41 => ?_)
  clear E
  refine wl_nil ?_
  refine then_normal (hK39 _ _ ?_)
  refine wp_seq_k fun _ hK42 => ?_
  refine wp_seq_k fun _ hK43 => ?_
  refine wp_region_lit ?_
  refine wl_cons (wl_val E41 rfl (rn_move E41 rfl rfl) rfl fun a44 E45 => ?_)
  clear E41
  rcases p35 with _ | ad46
  · obtain rfl := H.nilA (k := 0) rfl
    first | replace h : some ([] : List api_Descriptor) = some _ := h | replace h : some ([] : List api_Descriptor) = some _ := (ck_out h).2
    refine wl_cons (wl_val E45 rfl (rn_eqnil E45 rfl Try.underlying36 rfl rfl) rfl fun a47 E48 => ?_)
    clear E45
    refine wl_nil ?_
    refine then_normal (hK43 _ _ ?_)
    refine wc_T E48 rfl rfl ?_
    refine wp_seq_k fun _ hK49 => ?_
    refine wp_region_lit ?_
    refine wl_cons (wl_val E48 rfl (rn_assign E48 rfl rfl) rfl fun a50 E51 => ?_)
    clear E48
    refine wl_nil ?_
    refine then_normal (hK49 _ _ ?_)
    refine wp_ret ?_
    refine then_ret (?_)
    obtain rfl := Option.some.inj h
    replace H := H.nilRow 81 k_api_Descriptor
    replace H : St w Nil Z w [vw (kSlice 81 k_api_Descriptor) ([] : List api_Descriptor) [.slice none ([] : List api_Descriptor).length c36]] [[row 81 k_api_Descriptor ([] : List api_Descriptor) (.slice none 0 0)]] := H
    refine wb_ret1 E51 rfl (rv_tmp E51 rfl) ?_
    exact ⟨_, rfl, [], [[row 81 k_api_Descriptor ([] : List api_Descriptor) (.slice none 0 0)]], ⟨_, _, rfl, rfl, rfl⟩, H.leave (fun Z hA => trivial) (fun Z S hA hL => Holds_sub (.cons_cons _ .slnil) hL)⟩
  · refine wl_cons (wl_val E45 rfl (rn_eqnil E45 rfl Try.underlying36 rfl rfl) rfl fun a52 E53 => ?_)
    clear E45
    refine wl_nil ?_
    refine then_normal (hK43 _ _ ?_)
    refine wc_F E53 rfl rfl ?_
    refine wp_skip ?_
    refine then_normal (hK42 _ _ ?_)
    refine wp_seq_k fun _ hK54 => ?_
    refine wp_region_lit ?_
    refine wl_cons (wl_buildSlice (ps := []) (cs := []) E53 H rfl Try.underlying36 ti81 rfl rfl (by kernel_rfl) rfl fun g55 w56 a57 E58 H' => ?_)
    clear H E53; have H := H'; clear H'
    refine wl_cons (wl_val E58 rfl (rn_move E58 rfl rfl) rfl fun a59 E60 => ?_)
    clear E58
    replace H := H.toRow (i := 0) (K := k_api_Descriptor) (xs := ([] : List api_Descriptor)) rfl rfl (fun Z hA => rfl)
    obtain ⟨hc62, h⟩ := ck_out h
    refine wl_cons (wl_append (i := 0) (K := k_api_Descriptor) (xs := ([] : List api_Descriptor)) (ys := a0) E60 H rfl rfl rfl rfl Try.underlying36 Try.underlying36 ti81 rfl (by decide) hc62 rfl (fun Z S hA hL => srcOf_read (argHolds_get hA (k := 0) rfl)) fun p63 c64 w65 a66 E67 H' => ?_)
    clear H E60; have H := H'; clear H'
    refine wl_cons (wl_val E67 rfl (rn_assign E67 rfl rfl) rfl fun a69 E70 => ?_)
    clear E67
    refine wl_nil ?_
    refine then_normal (hK54 _ _ ?_)
    refine wp_ret ?_
    refine ?_
    obtain rfl := Option.some.inj h
    replace H : St w Nil Z w65 [vw (kSlice 81 k_api_Descriptor) a0 [.slice (some ad46) a0.length c36]] [[row 81 k_api_Descriptor (([] : List api_Descriptor) ++ a0) (.slice p63 ((([] : List api_Descriptor) ++ a0).length) c64)]] := H
    refine wb_ret1 E70 rfl (rv_tmp E70 rfl) ?_
    exact ⟨_, rfl, [], [[row 81 k_api_Descriptor (([] : List api_Descriptor) ++ a0) (.slice p63 ((([] : List api_Descriptor) ++ a0).length) c64)]], ⟨_, _, rfl, rfl, rfl⟩, H.leave (fun Z hA => trivial) (fun Z S hA hL => Holds_sub (.cons_cons _ .slnil) hL)⟩
theorem C70_flat {r : (List api_Descriptor)} : ∀ v_ A_ N_, (fun (v_ : Value) (A_ : List VP) (N_ : List (List SP)) => ∃ (p37 : Option Addr) (c38 : Nat), v_ = .slice p37 r.length c38 ∧ A_ = [] ∧ N_ = [[row 81 k_api_Descriptor r (.slice p37 r.length c38)]]) v_ A_ N_ → A_ = [] ∧ Flat N_ := by
  rintro v_ A_ N_ ⟨_, _, rfl, rfl, rfl⟩
  exact ⟨rfl, flat_cons (flatK_iso (flatK_pair (flatK_int .i64) (flatK_pair (flatK_iso (flatK_pair (flatK_int .i64) (flatK_int .i64))) (flatK_int .i64)))) (flat_nil)⟩
end Go.Proofs.Ytanimjbmkhpnaaa.Gx
