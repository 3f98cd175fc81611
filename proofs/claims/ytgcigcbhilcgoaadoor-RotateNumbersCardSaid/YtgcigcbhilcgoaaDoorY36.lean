/- Function 36, slices.Clone[[]int,int]: what it answers as a plain function, and that the Go code comes to exactly that (where the plain function gives an answer). -/
import Derived.Test.YtgcigcbhilcgoaaDoorYT
set_option linter.unusedVariables false
set_option linter.unusedSimpArgs false
namespace Go.Proofs.YtgcigcbhilcgoaaDoor.Gx
open Go.Gx Go.RowKit
/-! ### slices.Clone[[]int,int]: by hand -/
def f_slices_Clone_int_int (z0 : List Int) : Option (List Int) := ck (fits z0.length 8 = true) <| some z0
set_option maxHeartbeats 4000000 in
set_option maxRecDepth 100000 in
theorem C36 (z0 : List Int) (p : Option Addr) (m c : Nat) (r : List Int) (h : f_slices_Clone_int_int z0 = some r) : FunG Tryd.prog 36 #[.slice p m c] [vw (kSlice 3 (kInt .i64)) z0 [.slice p m c]] [] (fun t : Option Addr × Nat × Nat => .slice t.1 t.2.1 t.2.2) (fun _ => []) (fun t => [[row 3 (kInt .i64) r (.slice t.1 t.2.1 t.2.2)]]) := by
  unfold f_slices_Clone_int_int at h
  obtain ⟨hc, h⟩ := ck_out h
  obtain rfl := Option.some.inj h
  refine t_begin (args := [.slice p m c]) Tryd.func36 rfl Tryd.ntmps36 rfl fun c R hR => ?_
  refine t_seq fun K1 hK1 => ?_
  refine t_region ?_
  refine c_p (r_as rfl) rfl ?_
  refine t_nil ?_
  refine t_then hK1 ?_
  refine t_seq fun K2 hK2 => ?_
  refine t_seq fun K3 hK3 => ?_
  refine t_region ?_
  refine c_p (r_mv rfl) rfl ?_
  refine c_p (r_eqn Tryd.underlying36 rfl rfl) rfl ?_
  refine t_nil ?_
  refine t_then hK3 ?_
  rcases p with _ | ad
  · refine t_T rfl rfl ?_
    refine t_seq fun K4 hK4 => ?_
    refine t_region ?_
    refine c_p (r_as rfl) rfl ?_
    refine t_nil ?_
    refine t_then hK4 ?_
    refine t_ret ?_
    refine t_n0 a0 fun hx => ?_
    subst hx
    refine t_nr 3 (kInt .i64) ?_
    exact tr (ret1 rfl (v_t rfl) (t_leave hR (none, 0, 0) rfl (fun w Z hA => V0) (.cons e0 .nil)))
  · refine t_F rfl rfl ?_
    refine t_skip ?_
    refine t_then hK2 ?_
    refine t_seq fun K5 hK5 => ?_
    refine t_region ?_
    refine nx (t_bs (ps := []) (cs := []) Tryd.underlying36 ti3 rfl rfl (by kernel_rfl) rfl fun g => ?_)
    refine c_p (r_mv rfl) rfl ?_
    refine t_tr (Kd := (kInt .i64)) (xs := ([] : List Int)) (.cons e0 .nil) rfl (fun w Z S hA hN => flat_EO (S := Nil) (flatK_int .i64) er0) ?_
    refine nx (t_app (Kd := (kInt .i64)) (xs := ([] : List Int)) (ys := z0) (.cons e0 .nil) rfl rfl Tryd.underlying36 Tryd.underlying36 ti3 rfl rfl (by rw [List.length_nil, Nat.zero_add]; exact hc) (srcA (flatK_int .i64) a0) rfl fun t => ?_)
    refine c_p (r_as rfl) rfl ?_
    refine t_nil ?_
    refine t_then hK5 ?_
    refine t_ret ?_
    exact ret1 rfl (v_t rfl) (t_leave hR t rfl (fun w Z hA => V0) (.cons e0 .nil))
end Go.Proofs.YtgcigcbhilcgoaaDoor.Gx
