/- Function 55, kaudit/own.List_kaudit/api.Descriptor_: what it answers as a plain function, and that the Go code comes to exactly that (where the plain function gives an answer). -/
import Derived.Test.YtanimjbmkhpnaaaXT
import Derived.Test.YtanimjbmkhpnaaaX70
set_option linter.unusedVariables false
set_option linter.unusedSimpArgs false
namespace Go.Proofs.Ytanimjbmkhpnaaa.Gx
open Go.Gx Go.RowKit
/-! ### kaudit/own.List[kaudit/api.Descriptor]: function 55 -/
def f_own_List_api_Descriptor (a0 : (List api_Descriptor)) : Option ((List api_Descriptor)) := if ((a0.length : Int) == 0) = true then (some ([])) else ((f_slices_Clone_api_Descriptor_api_Descriptor a0).bind fun y53 => some (y53))
set_option maxHeartbeats 4000000 in
set_option maxRecDepth 100000 in
theorem C55 (a0 : (List api_Descriptor)) (p31 : Option Addr) (c32 : Nat) (r : (List api_Descriptor)) (w : World) (h : f_own_List_api_Descriptor a0 = some r) : Fun Try.prog 55 #[.slice p31 a0.length c32] w [vw (kSlice 81 k_api_Descriptor) a0 [.slice p31 a0.length c32]] (fun (v_ : Value) (A_ : List VP) (N_ : List (List SP)) => ∃ (p33 : Option Addr) (c34 : Nat), v_ = .slice p33 r.length c34 ∧ A_ = [] ∧ N_ = [[row 81 k_api_Descriptor r (.slice p33 r.length c34)]]) := by
  unfold f_own_List_api_Descriptor at h
  refine fun_begin (args := [.slice p31 a0.length c32]) Try.func55 rfl Try.ntmps55 rfl fun Z a E H => ?_
  refine wp_seq_k fun _ hK35 => ?_
  refine wp_region_lit ?_
  refine wl_cons (wl_val E rfl (rn_assign E rfl rfl) rfl fun a36 E37 => ?_)
  clear E
  refine wl_nil ?_
  refine then_normal (hK35 _ _ ?_)
  refine wp_seq_k fun _ hK38 => ?_
  refine wp_seq_k fun _ hK39 => ?_
  refine wp_region_lit ?_
  refine wl_cons (wl_val E37 rfl (rn_move E37 rfl rfl) rfl fun a40 E41 => ?_)
  clear E37
  refine wl_cons (wl_val E41 rfl (rn_len E41 rfl Try.underlying36 rfl) rfl fun a42 E43 => ?_)
  clear E41
  refine wl_cons (wl_val E43 rfl (rn_int E43 rfl rfl rfl rfl) rfl fun a44 E45 => ?_)
  clear E43
  refine wl_nil ?_
  refine then_normal (hK39 _ _ ?_)
  rcases Bool.eq_false_or_eq_true ((a0.length : Int) == 0) with hb46 | hb46
  · replace h := itT hb46 h
    refine wc_T E45 rfl hb46 ?_
    refine wp_seq_k fun _ hK47 => ?_
    refine wp_region_lit ?_
    refine wl_cons (wl_val E45 rfl (rn_assign E45 rfl rfl) rfl fun a48 E49 => ?_)
    clear E45
    refine wl_nil ?_
    refine then_normal (hK47 _ _ ?_)
    refine wp_ret ?_
    refine then_ret (?_)
    obtain rfl := Option.some.inj h
    replace H := H.nilRow 81 k_api_Descriptor
    replace H : St w Nil Z w [vw (kSlice 81 k_api_Descriptor) a0 [.slice p31 a0.length c32]] [[row 81 k_api_Descriptor ([] : List api_Descriptor) (.slice none 0 0)]] := H
    refine wb_ret1 E49 rfl (rv_tmp E49 rfl) ?_
    exact ⟨_, rfl, [], [[row 81 k_api_Descriptor ([] : List api_Descriptor) (.slice none 0 0)]], ⟨_, _, rfl, rfl, rfl⟩, H.leave (fun Z hA => trivial) (fun Z S hA hL => Holds_sub (.cons_cons _ .slnil) hL)⟩
  · replace h := itF hb46 h
    refine wc_F E45 rfl hb46 ?_
    refine wp_skip ?_
    refine then_normal (hK38 _ _ ?_)
    refine wp_seq_k fun _ hK50 => ?_
    refine wp_region_lit ?_
    refine wl_cons (wl_val E45 rfl (rn_move E45 rfl rfl) rfl fun a51 E52 => ?_)
    clear E45
    obtain ⟨y53, hy54, h⟩ := bs h
    refine wl_cons (wl_fun E52 H rfl (rn_call (args := [.slice p31 a0.length c32]) E52 rfl rfl rfl Try.func70 nm70 rfl) rfl (by exact fun Z hA => ⟨(argHolds_get hA (k := 0) rfl), trivial⟩) (C70 a0 p31 c32 _ _ hy54) ?_)
    rintro v_ A_ N_ w60 a58 ⟨p55, c56, rfl, rfl, rfl⟩ E59 H'
    replace H := H'; clear H' E52
    refine wl_cons (wl_val E59 rfl (rn_assign E59 rfl rfl) rfl fun a61 E62 => ?_)
    clear E59
    refine wl_nil ?_
    refine then_normal (hK50 _ _ ?_)
    refine wp_ret ?_
    refine ?_
    obtain rfl := Option.some.inj h
    replace H : St w Nil Z w60 [vw (kSlice 81 k_api_Descriptor) a0 [.slice p31 a0.length c32]] [[row 81 k_api_Descriptor y53 (.slice p55 y53.length c56)]] := H
    refine wb_ret1 E62 rfl (rv_tmp E62 rfl) ?_
    exact ⟨_, rfl, [], [[row 81 k_api_Descriptor y53 (.slice p55 y53.length c56)]], ⟨_, _, rfl, rfl, rfl⟩, H.leave (fun Z hA => trivial) (fun Z S hA hL => Holds_sub (.cons_cons _ .slnil) hL)⟩
theorem C55_flat {r : (List api_Descriptor)} : ∀ v_ A_ N_, (fun (v_ : Value) (A_ : List VP) (N_ : List (List SP)) => ∃ (p33 : Option Addr) (c34 : Nat), v_ = .slice p33 r.length c34 ∧ A_ = [] ∧ N_ = [[row 81 k_api_Descriptor r (.slice p33 r.length c34)]]) v_ A_ N_ → A_ = [] ∧ Flat N_ := by
  rintro v_ A_ N_ ⟨_, _, rfl, rfl, rfl⟩
  exact ⟨rfl, flat_cons (flatK_iso (flatK_pair (flatK_int .i64) (flatK_pair (flatK_iso (flatK_pair (flatK_int .i64) (flatK_int .i64))) (flatK_int .i64)))) (flat_nil)⟩
end Go.Proofs.Ytanimjbmkhpnaaa.Gx
