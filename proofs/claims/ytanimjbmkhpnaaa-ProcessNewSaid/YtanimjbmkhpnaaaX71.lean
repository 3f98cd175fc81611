/- Function 71, cmp.isNaN_int_: what it answers as a plain function, and that the Go code comes to exactly that (where the plain function gives an answer). -/
import Derived.Test.YtanimjbmkhpnaaaXT
set_option linter.unusedVariables false
set_option linter.unusedSimpArgs false
namespace Go.Proofs.Ytanimjbmkhpnaaa.Gx
open Go.Gx Go.RowKit
/-! ### cmp.isNaN[int]: function 71 -/
def f_cmp_isNaN_int (a0 : Int) : Option (Bool) := some ((a0 != a0))
set_option maxHeartbeats 4000000 in
set_option maxRecDepth 100000 in
theorem C71 (a0 : Int) (r : Bool) (w : World) (h : f_cmp_isNaN_int a0 = some r) : Fun Try.prog 71 #[.int .i64 a0] w [] (fun (v_ : Value) (A_ : List VP) (N_ : List (List SP)) => v_ = .bool r ∧ A_ = [] ∧ N_ = []) := by
  unfold f_cmp_isNaN_int at h
  refine fun_begin (args := [.int .i64 a0]) Try.func71 rfl Try.ntmps71 rfl fun Z a E H => ?_
  refine wp_seq_k fun _ hK1 => ?_
  refine wp_region_lit ?_
  refine wl_cons (wl_val E rfl (rn_assign E rfl rfl) rfl fun a2 E3 => ?_)
  clear E
  refine wl_nil ?_
  refine then_normal (hK1 _ _ ?_)
  refine wp_seq_k fun _ hK4 => ?_
  refine wp_region_lit ?_
  refine wl_cons (wl_val E3 rfl (rn_move E3 rfl rfl) rfl fun a5 E6 => ?_)
  clear E3
  refine wl_cons (wl_val E6 rfl (rn_move E6 rfl rfl) rfl fun a7 E8 => ?_)
  clear E6
  refine wl_cons (wl_val E8 rfl (rn_int E8 rfl rfl rfl rfl) rfl fun a9 E10 => ?_)
  clear E8
  refine wl_cons (wl_val E10 rfl (rn_assign E10 rfl rfl) rfl fun a11 E12 => ?_)
  clear E10
  refine wl_nil ?_
  refine then_normal (hK4 _ _ ?_)
  refine wp_ret ?_
  refine ?_
  obtain rfl := Option.some.inj h
  refine wb_ret1 E12 rfl (rv_tmp E12 rfl) ?_
  exact ⟨_, rfl, [], [], ⟨rfl, rfl, rfl⟩, H.leave (fun Z hA => trivial) (fun Z S hA hL => trivial)⟩
theorem C71_flat {r : Bool} : ∀ v_ A_ N_, (fun (v_ : Value) (A_ : List VP) (N_ : List (List SP)) => v_ = .bool r ∧ A_ = [] ∧ N_ = []) v_ A_ N_ → A_ = [] ∧ Flat N_ := by
  rintro v_ A_ N_ ⟨rfl, rfl, rfl⟩
  exact ⟨rfl, flat_nil⟩
end Go.Proofs.Ytanimjbmkhpnaaa.Gx
