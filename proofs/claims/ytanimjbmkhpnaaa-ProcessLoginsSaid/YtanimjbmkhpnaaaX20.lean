/- Function 20, (*kaudit/kauditmake.Src).Clean: what it answers as a plain function, and that the Go code comes to exactly that (where the plain function gives an answer). -/
import Derived.Test.YtanimjbmkhpnaaaXT
import Derived.Test.YtanimjbmkhpnaaaX13
import Derived.Test.YtanimjbmkhpnaaaX42
set_option linter.unusedVariables false
set_option linter.unusedSimpArgs false
namespace Go.Proofs.Ytanimjbmkhpnaaa.Gx
open Go.Gx Go.RowKit
/-! ### (*kaudit/kauditmake.Src).Clean: function 20 -/
def f_kauditmake_Src_Clean_l1 (a0 : kauditmake_Src) : Nat → ByteArray → Int → Int → Option (ByteArray × Int)
  | 0, _, _, _ => none
  | k_ + 1, x250, x251, x252 => if (decide (x251 > 0)) = true then ((f_kauditmake_Src_Word (⟨a0.l, x252⟩ : kauditmake_Src) [(⟨#[97]⟩ : ByteArray), (⟨#[98]⟩ : ByteArray), (⟨#[99]⟩ : ByteArray), (⟨#[108]⟩ : ByteArray), (⟨#[109]⟩ : ByteArray)]).bind fun y277 => ck ((⟨#[47]⟩ : ByteArray).size + y277.1.size ≤ maxStr) (ck (x250.size + ((⟨#[47]⟩ : ByteArray) ++ y277.1).size ≤ maxStr) (f_kauditmake_Src_Clean_l1 a0 k_ (x250 ++ ((⟨#[47]⟩ : ByteArray) ++ y277.1)) (IntKind.wrap .i64 (x251 - 1)) (y277.2)))) else (some ((x250, x252)))
def f_kauditmake_Src_Clean (a0 : kauditmake_Src) : Option (ByteArray × Int) := (f_kauditmake_Src_Pick a0 [1, 1, 2, 2, 3]).bind fun y168 => (f_kauditmake_Src_Clean_l1 a0 ((((y168.1 : Int) - (0)).toNat + 1)) (⟨#[]⟩ : ByteArray) y168.1 (y168.2)).bind fun o_ => match o_ with | (x250, x252) => some ((x250, x252))
set_option maxHeartbeats 4000000 in
set_option maxRecDepth 100000 in
theorem C20 (a0 : kauditmake_Src) (g_ : Nat) (p151 : Option Addr) (c152 : Nat) (r : ByteArray × Int) (w : World) (h : f_kauditmake_Src_Clean a0 = some r) : FunM Try.prog 20 #[.pointer (some ⟨g_, 0, none⟩)] w g_ [.slice p151 a0.l.length c152, .int .i64 a0.at_] 59 [vw (kSlice 3 (kInt .i64)) a0.l [.slice p151 a0.l.length c152]] (fun (v_ : Value) (A_ : List VP) (I_ : List SP) (N_ : List (List SP)) => v_ = .string r.1 ∧ A_ = [] ∧ I_ = [blk g_ [.slice p151 a0.l.length c152, .int .i64 (r.2)] 59] ∧ N_ = []) := by
  unfold f_kauditmake_Src_Clean at h
  refine funM_begin (args := [.pointer (some ⟨g_, 0, none⟩)]) Try.func20 rfl Try.ntmps20 rfl fun Z a E H => ?_
  refine wp_seq_k fun _ hK153 => ?_
  refine wp_region_lit ?_
  refine wl_cons (wl_val E rfl (rn_assign E rfl rfl) rfl fun a154 E155 => ?_)
  clear E
  refine wl_nil ?_
  refine then_normal (hK153 _ _ ?_)
  refine wp_seq_k fun _ hK156 => ?_
  refine wp_region_lit ?_
  refine wl_cons (wl_val E155 rfl (rn_assign E155 rfl rfl) rfl fun a157 E158 => ?_)
  clear E155
  refine wl_nil ?_
  refine then_normal (hK156 _ _ ?_)
  refine wp_seq_k fun _ hK159 => ?_
  refine wp_seq_k fun _ hK160 => ?_
  refine wp_region_lit ?_
  refine wl_cons (wl_val E158 rfl (rn_move E158 rfl rfl) rfl fun a161 E162 => ?_)
  clear E158
  refine wl_cons (wl_buildSlice (ps := [(0, .int .i64 1), (1, .int .i64 1), (2, .int .i64 2), (3, .int .i64 2), (4, .int .i64 3)]) (cs := [.int .i64 1, .int .i64 1, .int .i64 2, .int .i64 2, .int .i64 3]) E162 H rfl Try.underlying22 ti3 rfl rfl (by kernel_rfl) rfl fun g163 w164 a165 E166 H' => ?_)
  clear H E162; have H := H'; clear H'
  replace H := H.toRow (i := 1) (K := (kInt .i64)) (xs := [1, 1, 2, 2, 3]) rfl rfl (fun Z hA => ⟨[.int .i64 1], _, rfl, rfl, ⟨[.int .i64 1], _, rfl, rfl, ⟨[.int .i64 2], _, rfl, rfl, ⟨[.int .i64 2], _, rfl, rfl, ⟨[.int .i64 3], _, rfl, rfl, rfl⟩⟩⟩⟩⟩)
  replace H := H.shareM (i := 1) (A' := [vw (kSlice 3 (kInt .i64)) [1, 1, 2, 2, 3] [.slice (some ⟨g163, 0, none⟩) 5 5]]) rfl rfl rfl (fun Z S1 h => ⟨rowH.read h.1, trivial⟩)
  obtain ⟨y168, hy169, h⟩ := bs h
  refine wl_cons (wl_funM (i := 0) E166 H rfl (rn_call (args := [.pointer (some ⟨g_, 0, none⟩), .slice (some ⟨g163, 0, none⟩) 5 5]) E166 rfl rfl rfl Try.func13 nm13 rfl) rfl rfl (by exact fun Z hA => ⟨(argHolds_get hA (k := 0) rfl), (argHolds_get hA (k := 1) rfl), trivial⟩) (C13 a0 [1, 1, 2, 2, 3] g_ p151 c152 (some ⟨g163, 0, none⟩) 5 _ _ hy169) ?_)
  rintro v_ A_ I_ N_ w172 a170 ⟨rfl, rfl, rfl, rfl⟩ E171 H'
  replace H := H'; clear H' E166
  replace H : St w (fun b => b = g_) Z w172 [vw (kSlice 3 (kInt .i64)) a0.l [.slice p151 a0.l.length c152], vw (kSlice 3 (kInt .i64)) [1, 1, 2, 2, 3] [.slice (some ⟨g163, 0, none⟩) 5 5]] [[blk g_ [.slice p151 a0.l.length c152, .int .i64 (y168.2)] 59], []] := H
  refine wl_cons (wl_val E171 rfl (rn_assign E171 rfl rfl) rfl fun a173 E174 => ?_)
  clear E171
  refine wl_nil ?_
  refine then_normal (hK160 _ _ ?_)
  refine wp_block ?_
  obtain ⟨o253, ho254, h⟩ := bs h
  refine wc_loop (fun k_ a_ w_ => ∃ (x250 : ByteArray) (x251 : Int) (x252 : Int), Env 19 a_ [(0, .pointer (some ⟨g_, 0, none⟩)), (2, .string (⟨#[]⟩ : ByteArray)), (3, .string x250), (4, .int .i64 x251), (5, .pointer (some ⟨g_, 0, none⟩)), (6, .slice (some ⟨g163, 0, none⟩) 5 5), (7, .int .i64 y168.1)] ∧ St w (fun b => b = g_) Z w_ [vw (kSlice 3 (kInt .i64)) a0.l [.slice p151 a0.l.length c152], vw (kSlice 3 (kInt .i64)) [1, 1, 2, 2, 3] [.slice (some ⟨g163, 0, none⟩) 5 5]] [[blk g_ [.slice p151 a0.l.length c152, .int .i64 x252] 59], []] ∧ f_kauditmake_Src_Clean_l1 a0 k_ x250 x251 x252 = some o253) ((((y168.1 : Int) - (0)).toNat + 1)) ?_ ?_ ?_
  · exact ⟨(⟨#[]⟩ : ByteArray), y168.1, (y168.2), E174.pick ⟨rfl, rfl, rfl, rfl, rfl, rfl, rfl, trivial⟩, H, ho254⟩
  · rintro _ _ ⟨_, _, _, _, _, h_⟩
    rw [f_kauditmake_Src_Clean_l1] at h_; cases h_
  · rintro k255 a256 w257 ⟨x250, x251, x252, E258, H', h259⟩
    rw [f_kauditmake_Src_Clean_l1] at h259
    clear H; have H := H'; clear H'
    refine wp_seq_k fun _ hK260 => ?_
    refine wp_seq_k fun _ hK261 => ?_
    refine wp_region_lit ?_
    refine wl_cons (wl_val E258 rfl (rn_move E258 rfl rfl) rfl fun a262 E263 => ?_)
    clear E258
    replace H : St w (fun b => b = g_) Z w257 [vw (kSlice 3 (kInt .i64)) a0.l [.slice p151 a0.l.length c152], vw (kSlice 3 (kInt .i64)) [1, 1, 2, 2, 3] [.slice (some ⟨g163, 0, none⟩) 5 5]] [[blk g_ [.slice p151 a0.l.length c152, .int .i64 x252] 59], []] := H
    refine wl_cons (wl_val E263 rfl (rn_int E263 rfl rfl rfl rfl) rfl fun a264 E265 => ?_)
    clear E263
    refine wl_nil ?_
    refine then_normal (hK261 _ _ ?_)
    rcases Bool.eq_false_or_eq_true (decide (x251 > 0)) with hb266 | hb266
    · replace h259 := itT hb266 h259
      refine wc_T E265 rfl hb266 ?_
      refine wp_skip ?_
      refine then_normal (hK260 _ _ ?_)
      refine wp_seq_k fun _ hK267 => ?_
      refine wp_block ?_
      refine wp_region_lit ?_
      refine wl_cons (wl_val E265 rfl (rn_move E265 rfl rfl) rfl fun a268 E269 => ?_)
      clear E265
      refine wl_cons (wl_val E269 rfl (rn_move E269 rfl rfl) rfl fun a270 E271 => ?_)
      clear E269
      refine wl_cons (wl_buildSlice (ps := [(0, .string (⟨#[97]⟩ : ByteArray)), (1, .string (⟨#[98]⟩ : ByteArray)), (2, .string (⟨#[99]⟩ : ByteArray)), (3, .string (⟨#[108]⟩ : ByteArray)), (4, .string (⟨#[109]⟩ : ByteArray))]) (cs := [.string (⟨#[97]⟩ : ByteArray), .string (⟨#[98]⟩ : ByteArray), .string (⟨#[99]⟩ : ByteArray), .string (⟨#[108]⟩ : ByteArray), .string (⟨#[109]⟩ : ByteArray)]) E271 H rfl Try.underlying73 ti9 rfl rfl (by kernel_rfl) rfl fun g272 w273 a274 E275 H' => ?_)
      clear H E271; have H := H'; clear H'
      replace H := H.toRow (i := 2) (K := kStr) (xs := [(⟨#[97]⟩ : ByteArray), (⟨#[98]⟩ : ByteArray), (⟨#[99]⟩ : ByteArray), (⟨#[108]⟩ : ByteArray), (⟨#[109]⟩ : ByteArray)]) rfl rfl (fun Z hA => ⟨[.string (⟨#[97]⟩ : ByteArray)], _, rfl, rfl, ⟨[.string (⟨#[98]⟩ : ByteArray)], _, rfl, rfl, ⟨[.string (⟨#[99]⟩ : ByteArray)], _, rfl, rfl, ⟨[.string (⟨#[108]⟩ : ByteArray)], _, rfl, rfl, ⟨[.string (⟨#[109]⟩ : ByteArray)], _, rfl, rfl, rfl⟩⟩⟩⟩⟩)
      replace H := H.shareM (i := 2) (A' := [vw (kSlice 9 kStr) [(⟨#[97]⟩ : ByteArray), (⟨#[98]⟩ : ByteArray), (⟨#[99]⟩ : ByteArray), (⟨#[108]⟩ : ByteArray), (⟨#[109]⟩ : ByteArray)] [.slice (some ⟨g272, 0, none⟩) 5 5]]) rfl rfl rfl (fun Z S1 h => ⟨rowH.read h.1, trivial⟩)
      obtain ⟨y277, hy278, h259⟩ := bs h259
      refine wl_cons (wl_funM (i := 0) E275 H rfl (rn_call (args := [.pointer (some ⟨g_, 0, none⟩), .slice (some ⟨g272, 0, none⟩) 5 5]) E275 rfl rfl rfl Try.func42 nm42 rfl) rfl rfl (by exact fun Z hA => ⟨(argHolds_get hA (k := 0) rfl), (argHolds_get hA (k := 2) rfl), trivial⟩) (C42 (⟨a0.l, x252⟩ : kauditmake_Src) [(⟨#[97]⟩ : ByteArray), (⟨#[98]⟩ : ByteArray), (⟨#[99]⟩ : ByteArray), (⟨#[108]⟩ : ByteArray), (⟨#[109]⟩ : ByteArray)] g_ p151 c152 (some ⟨g272, 0, none⟩) 5 _ _ hy278) ?_)
      rintro v_ A_ I_ N_ w281 a279 ⟨rfl, rfl, rfl, rfl⟩ E280 H'
      replace H := H'; clear H' E275
      replace H : St w (fun b => b = g_) Z w281 [vw (kSlice 3 (kInt .i64)) a0.l [.slice p151 a0.l.length c152], vw (kSlice 3 (kInt .i64)) [1, 1, 2, 2, 3] [.slice (some ⟨g163, 0, none⟩) 5 5], vw (kSlice 9 kStr) [(⟨#[97]⟩ : ByteArray), (⟨#[98]⟩ : ByteArray), (⟨#[99]⟩ : ByteArray), (⟨#[108]⟩ : ByteArray), (⟨#[109]⟩ : ByteArray)] [.slice (some ⟨g272, 0, none⟩) 5 5]] [[blk g_ [.slice p151 a0.l.length c152, .int .i64 (y277.2)] 59], [], []] := H
      obtain ⟨hc282, h259⟩ := ck_out h259
      refine wl_cons (wl_val E280 rfl (rn_cat E280 rfl rfl rfl hc282) rfl fun a283 E284 => ?_)
      clear E280
      obtain ⟨hc285, h259⟩ := ck_out h259
      refine wl_cons (wl_val E284 rfl (rn_cat E284 rfl rfl rfl hc285) rfl fun a286 E287 => ?_)
      clear E284
      refine wl_cons (wl_val E287 rfl (rn_assign E287 rfl rfl) rfl fun a288 E289 => ?_)
      clear E287
      refine wl_nil ?_
      refine block_normal ?_
      refine then_normal (hK267 _ _ ?_)
      refine wp_region_lit ?_
      refine wl_cons (wl_val E289 rfl (rn_move E289 rfl rfl) rfl fun a290 E291 => ?_)
      clear E289
      refine wl_cons (wl_val E291 rfl (rn_int E291 rfl rfl rfl rfl) rfl fun a292 E293 => ?_)
      clear E291
      refine wl_cons (wl_val E293 rfl (rn_assign E293 rfl rfl) rfl fun a294 E295 => ?_)
      clear E293
      refine wl_nil ?_
      replace H : St w (fun b => b = g_) Z w281 [vw (kSlice 3 (kInt .i64)) a0.l [.slice p151 a0.l.length c152], vw (kSlice 3 (kInt .i64)) [1, 1, 2, 2, 3] [.slice (some ⟨g163, 0, none⟩) 5 5], vw (kSlice 9 kStr) [(⟨#[97]⟩ : ByteArray), (⟨#[98]⟩ : ByteArray), (⟨#[99]⟩ : ByteArray), (⟨#[108]⟩ : ByteArray), (⟨#[109]⟩ : ByteArray)] [.slice (some ⟨g272, 0, none⟩) 5 5]] ([[blk g_ [.slice p151 a0.l.length c152, .int .i64 (y277.2)] 59], []] ++ [[]]) := H
      exact ⟨(x250 ++ ((⟨#[47]⟩ : ByteArray) ++ y277.1)), (IntKind.wrap .i64 (x251 - 1)), (y277.2), E295.pick ⟨rfl, rfl, rfl, rfl, rfl, rfl, rfl, trivial⟩, H.front.sel (fun Z hA => ⟨(argHolds_get hA (k := 0) rfl), (argHolds_get hA (k := 1) rfl), trivial⟩), h259⟩
    · replace h259 := itF hb266 h259
      refine wc_F E265 rfl hb266 ?_
      refine wp_exit ?_
      obtain rfl := Option.some.inj h259
      try dsimp only at h
      refine then_exit (then_exit (block_exit (?_)))
      refine then_normal (hK159 _ _ ?_)
      refine wp_seq_k fun _ hK296 => ?_
      refine wp_region_lit ?_
      refine wl_cons (wl_val E265 rfl (rn_move E265 rfl rfl) rfl fun a297 E298 => ?_)
      clear E265
      refine wl_cons (wl_val E298 rfl (rn_assign E298 rfl rfl) rfl fun a299 E300 => ?_)
      clear E298
      refine wl_nil ?_
      refine then_normal (hK296 _ _ ?_)
      refine wp_ret ?_
      refine ?_
      obtain rfl := Option.some.inj h
      replace H : St w (fun b => b = g_) Z w257 [vw (kSlice 3 (kInt .i64)) a0.l [.slice p151 a0.l.length c152], vw (kSlice 3 (kInt .i64)) [1, 1, 2, 2, 3] [.slice (some ⟨g163, 0, none⟩) 5 5]] [[blk g_ [.slice p151 a0.l.length c152, .int .i64 x252] 59], []] := H
      refine wb_ret1 E300 rfl (rv_tmp E300 rfl) ?_
      exact ⟨_, rfl, [], [blk g_ [.slice p151 a0.l.length c152, .int .i64 x252] 59], [], ⟨rfl, rfl, rfl, rfl⟩, H.leave (fun Z hA => trivial) (fun Z S hA hL => Holds_sub (.cons_cons _ (.cons _ .slnil)) hL)⟩
end Go.Proofs.Ytanimjbmkhpnaaa.Gx
