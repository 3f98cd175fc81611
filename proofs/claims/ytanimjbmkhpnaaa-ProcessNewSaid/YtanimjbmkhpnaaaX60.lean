/- Function 60, cmp.Compare_int_: what it answers as a plain function, and that the Go code comes to exactly that (where the plain function gives an answer). -/
import Derived.Test.YtanimjbmkhpnaaaXT
import Derived.Test.YtanimjbmkhpnaaaX71
set_option linter.unusedVariables false
set_option linter.unusedSimpArgs false
namespace Go.Proofs.Ytanimjbmkhpnaaa.Gx
open Go.Gx Go.RowKit
/-! ### cmp.Compare[int]: function 60 -/
def f_cmp_Compare_int (a0 : Int) (a1 : Int) : Option (Int) := (f_cmp_isNaN_int a0).bind fun y7 => (f_cmp_isNaN_int a1).bind fun y17 => if y7 = true then (if y17 = true then (some (0)) else (some ((-1)))) else (if y17 = true then (some (1)) else (if (decide (a0 < a1)) = true then (some ((-1))) else (if (decide (a0 > a1)) = true then (some (1)) else (some (0)))))
set_option maxHeartbeats 4000000 in
set_option maxRecDepth 100000 in
theorem C60 (a0 : Int) (a1 : Int) (r : Int) (w : World) (h : f_cmp_Compare_int a0 a1 = some r) : Fun Try.prog 60 #[.int .i64 a0, .int .i64 a1] w [] (fun (v_ : Value) (A_ : List VP) (N_ : List (List SP)) => v_ = .int .i64 r ∧ A_ = [] ∧ N_ = []) := by
  unfold f_cmp_Compare_int at h
  refine fun_begin (args := [.int .i64 a0, .int .i64 a1]) Try.func60 rfl Try.ntmps60 rfl fun Z a E H => ?_
  refine wp_seq_k fun _ hK1 => ?_
  refine wp_region_lit ?_
  refine wl_cons (wl_val E rfl (rn_assign E rfl rfl) rfl fun a2 E3 => ?_)
  clear E
  refine wl_nil ?_
  refine then_normal (hK1 _ _ ?_)
  refine wp_seq_k fun _ hK4 => ?_
  refine wp_region_lit ?_
  refine wl_cons (wl_val E3 rfl (rn_move E3 rfl rfl) rfl fun a5 E6 => ?_)
  clear E3
  obtain ⟨y7, hy8, h⟩ := bs h
  refine wl_cons (wl_fun E6 H rfl (rn_call (args := [.int .i64 a0]) E6 rfl rfl rfl Try.func71 nm71 rfl) rfl (by exact fun Z hA => trivial) (C71 a0 _ _ hy8) ?_)
  rintro v_ A_ N_ w11 a9 ⟨rfl, rfl, rfl⟩ E10 H'
  replace H := H'; clear H' E6
  refine wl_cons (wl_val E10 rfl (rn_assign E10 rfl rfl) rfl fun a12 E13 => ?_)
  clear E10
  refine wl_nil ?_
  refine then_normal (hK4 _ _ ?_)
  refine wp_seq_k fun _ hK14 => ?_
  refine wp_region_lit ?_
  refine wl_cons (wl_val E13 rfl (rn_move E13 rfl rfl) rfl fun a15 E16 => ?_)
  clear E13
  obtain ⟨y17, hy18, h⟩ := bs h
  refine wl_cons (wl_fun E16 H rfl (rn_call (args := [.int .i64 a1]) E16 rfl rfl rfl Try.func71 nm71 rfl) rfl (by exact fun Z hA => trivial) (C71 a1 _ _ hy18) ?_)
  rintro v_ A_ N_ w21 a19 ⟨rfl, rfl, rfl⟩ E20 H'
  replace H := H'; clear H' E16
  refine wl_cons (wl_val E20 rfl (rn_assign E20 rfl rfl) rfl fun a22 E23 => ?_)
  clear E20
  refine wl_nil ?_
  refine then_normal (hK14 _ _ ?_)
  refine wp_seq_k fun _ hK24 => ?_
  refine wp_seq_k fun _ hK25 => ?_
  refine wp_region_lit ?_
  refine wl_cons (wl_val E23 rfl (rn_move E23 rfl rfl) rfl fun a26 E27 => ?_)
  clear E23
  refine wl_nil ?_
  refine then_normal (hK25 _ _ ?_)
  rcases Bool.eq_false_or_eq_true y7 with hb28 | hb28
  · replace h := itT hb28 h
    refine wc_T E27 rfl hb28 ?_
    refine wp_seq_k fun _ hK29 => ?_
    refine wp_seq_k fun _ hK30 => ?_
    refine wp_region_lit ?_
    refine wl_cons (wl_val E27 rfl (rn_move E27 rfl rfl) rfl fun a31 E32 => ?_)
    clear E27
    refine wl_nil ?_
    refine then_normal (hK30 _ _ ?_)
    rcases Bool.eq_false_or_eq_true y17 with hb33 | hb33
    · replace h := itT hb33 h
      refine wc_T E32 rfl hb33 ?_
      refine wp_seq_k fun _ hK34 => ?_
      refine wp_region_lit ?_
      refine wl_cons (wl_val E32 rfl (rn_assign E32 rfl rfl) rfl fun a35 E36 => ?_)
      clear E32
      refine wl_nil ?_
      refine then_normal (hK34 _ _ ?_)
      refine wp_ret ?_
      refine then_ret (then_ret (?_))
      obtain rfl := Option.some.inj h
      refine wb_ret1 E36 rfl (rv_tmp E36 rfl) ?_
      exact ⟨_, rfl, [], [], ⟨rfl, rfl, rfl⟩, H.leave (fun Z hA => trivial) (fun Z S hA hL => trivial)⟩
    · replace h := itF hb33 h
      refine wc_F E32 rfl hb33 ?_
      refine wp_skip ?_
      refine then_normal (hK29 _ _ ?_)
      refine wp_seq_k fun _ hK37 => ?_
      refine wp_region_lit ?_
      refine wl_cons (wl_val E32 rfl (rn_assign E32 rfl rfl) rfl fun a38 E39 => ?_)
      clear E32
      refine wl_nil ?_
      refine then_normal (hK37 _ _ ?_)
      refine wp_ret ?_
      refine then_ret (?_)
      obtain rfl := Option.some.inj h
      refine wb_ret1 E39 rfl (rv_tmp E39 rfl) ?_
      exact ⟨_, rfl, [], [], ⟨rfl, rfl, rfl⟩, H.leave (fun Z hA => trivial) (fun Z S hA hL => trivial)⟩
  · replace h := itF hb28 h
    refine wc_F E27 rfl hb28 ?_
    refine wp_skip ?_
    refine then_normal (hK24 _ _ ?_)
    refine wp_seq_k fun _ hK40 => ?_
    refine wp_seq_k fun _ hK41 => ?_
    refine wp_region_lit ?_
    refine wl_cons (wl_val E27 rfl (rn_move E27 rfl rfl) rfl fun a42 E43 => ?_)
    clear E27
    refine wl_nil ?_
    refine then_normal (hK41 _ _ ?_)
    rcases Bool.eq_false_or_eq_true y17 with hb44 | hb44
    · replace h := itT hb44 h
      refine wc_T E43 rfl hb44 ?_
      refine wp_seq_k fun _ hK45 => ?_
      refine wp_region_lit ?_
      refine wl_cons (wl_val E43 rfl (rn_assign E43 rfl rfl) rfl fun a46 E47 => ?_)
      clear E43
      refine wl_nil ?_
      refine then_normal (hK45 _ _ ?_)
      refine wp_ret ?_
      refine then_ret (?_)
      obtain rfl := Option.some.inj h
      refine wb_ret1 E47 rfl (rv_tmp E47 rfl) ?_
      exact ⟨_, rfl, [], [], ⟨rfl, rfl, rfl⟩, H.leave (fun Z hA => trivial) (fun Z S hA hL => trivial)⟩
    · replace h := itF hb44 h
      refine wc_F E43 rfl hb44 ?_
      refine wp_skip ?_
      refine then_normal (hK40 _ _ ?_)
      refine wp_seq_k fun _ hK48 => ?_
      refine wp_seq_k fun _ hK49 => ?_
      refine wp_region_lit ?_
      refine wl_cons (wl_val E43 rfl (rn_move E43 rfl rfl) rfl fun a50 E51 => ?_)
      clear E43
      refine wl_cons (wl_val E51 rfl (rn_move E51 rfl rfl) rfl fun a52 E53 => ?_)
      clear E51
      refine wl_cons (wl_val E53 rfl (rn_int E53 rfl rfl rfl rfl) rfl fun a54 E55 => ?_)
      clear E53
      refine wl_nil ?_
      refine then_normal (hK49 _ _ ?_)
      rcases Bool.eq_false_or_eq_true (decide (a0 < a1)) with hb56 | hb56
      · replace h := itT hb56 h
        refine wc_T E55 rfl hb56 ?_
        refine wp_seq_k fun _ hK57 => ?_
        refine wp_region_lit ?_
        refine wl_cons (wl_val E55 rfl (rn_assign E55 rfl rfl) rfl fun a58 E59 => ?_)
        clear E55
        refine wl_nil ?_
        refine then_normal (hK57 _ _ ?_)
        refine wp_ret ?_
        refine then_ret (?_)
        obtain rfl := Option.some.inj h
        refine wb_ret1 E59 rfl (rv_tmp E59 rfl) ?_
        exact ⟨_, rfl, [], [], ⟨rfl, rfl, rfl⟩, H.leave (fun Z hA => trivial) (fun Z S hA hL => trivial)⟩
      · replace h := itF hb56 h
        refine wc_F E55 rfl hb56 ?_
        refine wp_skip ?_
        refine then_normal (hK48 _ _ ?_)
        refine wp_seq_k fun _ hK60 => ?_
        refine wp_seq_k fun _ hK61 => ?_
        refine wp_region_lit ?_
        refine wl_cons (wl_val E55 rfl (rn_move E55 rfl rfl) rfl fun a62 E63 => ?_)
        clear E55
        refine wl_cons (wl_val E63 rfl (rn_move E63 rfl rfl) rfl fun a64 E65 => ?_)
        clear E63
        refine wl_cons (wl_val E65 rfl (rn_int E65 rfl rfl rfl rfl) rfl fun a66 E67 => ?_)
        clear E65
        refine wl_nil ?_
        refine then_normal (hK61 _ _ ?_)
        rcases Bool.eq_false_or_eq_true (decide (a0 > a1)) with hb68 | hb68
        · replace h := itT hb68 h
          refine wc_T E67 rfl hb68 ?_
          refine wp_seq_k fun _ hK69 => ?_
          refine wp_region_lit ?_
          refine wl_cons (wl_val E67 rfl (rn_assign E67 rfl rfl) rfl fun a70 E71 => ?_)
          clear E67
          refine wl_nil ?_
          refine then_normal (hK69 _ _ ?_)
          refine wp_ret ?_
          refine then_ret (?_)
          obtain rfl := Option.some.inj h
          refine wb_ret1 E71 rfl (rv_tmp E71 rfl) ?_
          exact ⟨_, rfl, [], [], ⟨rfl, rfl, rfl⟩, H.leave (fun Z hA => trivial) (fun Z S hA hL => trivial)⟩
        · replace h := itF hb68 h
          refine wc_F E67 rfl hb68 ?_
          refine wp_skip ?_
          refine then_normal (hK60 _ _ ?_)
          refine wp_seq_k fun _ hK72 => ?_
          refine wp_region_lit ?_
          refine wl_cons (wl_val E67 rfl (rn_assign E67 rfl rfl) rfl fun a73 E74 => ?_)
          clear E67
          refine wl_nil ?_
          refine then_normal (hK72 _ _ ?_)
          refine wp_ret ?_
          refine ?_
          obtain rfl := Option.some.inj h
          refine wb_ret1 E74 rfl (rv_tmp E74 rfl) ?_
          exact ⟨_, rfl, [], [], ⟨rfl, rfl, rfl⟩, H.leave (fun Z hA => trivial) (fun Z S hA hL => trivial)⟩
theorem C60_flat {r : Int} : ∀ v_ A_ N_, (fun (v_ : Value) (A_ : List VP) (N_ : List (List SP)) => v_ = .int .i64 r ∧ A_ = [] ∧ N_ = []) v_ A_ N_ → A_ = [] ∧ Flat N_ := by
  rintro v_ A_ N_ ⟨rfl, rfl, rfl⟩
  exact ⟨rfl, flat_nil⟩
end Go.Proofs.Ytanimjbmkhpnaaa.Gx
