/- Function 22, kaudit/kauditref09.New: what it answers as a plain function, and that the Go code comes to exactly that (where the plain function gives an answer). -/
import Derived.Test.YtanimjbmkhpnaaaXT
set_option linter.unusedVariables false
set_option linter.unusedSimpArgs false
namespace Go.Proofs.Ytanimjbmkhpnaaa.Gx
open Go.Gx Go.RowKit
/-! ### kaudit/kauditref09.New: function 22 -/
def f_kauditref09_New (a0 : api_File) : Option (api_Table) := some ((⟨2, 1, [(⟨1, 0, 0, 0, 0, 0, 4294967295, 4294967295, a0, (⟨#[105, 110, 105, 116]⟩ : ByteArray), (⟨#[47, 105, 110, 105, 116]⟩ : ByteArray), ([] : List api_Descriptor), true⟩ : api_Process)]⟩ : api_Table))
set_option maxHeartbeats 4000000 in
set_option maxRecDepth 100000 in
theorem C22 (a0 : api_File) (r : api_Table) (w : World) (h : f_kauditref09_New a0 = some r) : Fun Try.prog 22 #[.agg #[.int .i64 a0.Dev, .int .i64 a0.Ino]] w [] (fun (v_ : Value) (A_ : List VP) (N_ : List (List SP)) => ∃ (p24 : Option Addr) (c25 : Nat), v_ = .agg #[.int .i64 r.Next, .int .i64 r.NextSession, .slice p24 r.Processes.length c25] ∧ A_ = [] ∧ N_ = [[row 38 k_api_Process r.Processes (.slice p24 r.Processes.length c25)]]) := by
  unfold f_kauditref09_New at h
  refine fun_begin (args := [.agg #[.int .i64 a0.Dev, .int .i64 a0.Ino]]) Try.func22 rfl Try.ntmps22 rfl fun Z a E H => ?_
  refine wp_seq_k fun _ hK26 => ?_
  refine wp_region_lit ?_
  refine wl_cons (wl_box (T := 31) (cs := [.int .i64 a0.Dev, .int .i64 a0.Ino]) E H rfl rfl rfl rfl fun g27 w28 a29 E30 H' => ?_)
  clear H E; have H := H'; clear H'
  refine wl_cons (wl_alloc (cs := [.int .i64 0, .int .i64 0, .slice none 0 0]) E30 H rfl ti28 rfl rfl fun g31 w32 a33 E34 H' => ?_)
  clear H E30; have H := H'; clear H'
  refine wl_nil ?_
  refine then_normal (hK26 _ _ ?_)
  refine wp_seq_k fun _ hK35 => ?_
  refine wp_region_lit ?_
  refine wl_cons (wl_val E34 rfl (rn_ldN (i := 0) [.int .i64 a0.Dev, .int .i64 a0.Ino] E34 H rfl Try.underlying31 rfl ti31 rfl rfl rfl rfl) rfl fun a36 E37 => ?_)
  clear E34
  refine wl_cons (wl_val E37 rfl (rn_build (ps := [(0, .int .i64 1), (6, .int .i64 4294967295), (7, .int .i64 4294967295), (8, .agg #[.int .i64 a0.Dev, .int .i64 a0.Ino]), (9, .string (⟨#[105, 110, 105, 116]⟩ : ByteArray)), (10, .string (⟨#[47, 105, 110, 105, 116]⟩ : ByteArray)), (12, .bool true)]) (cs := [.int .i64 1, .int .i64 0, .int .i64 0, .int .i64 0, .int .i64 0, .int .i64 0, .int .i64 4294967295, .int .i64 4294967295, .int .i64 a0.Dev, .int .i64 a0.Ino, .string (⟨#[105, 110, 105, 116]⟩ : ByteArray), .string (⟨#[47, 105, 110, 105, 116]⟩ : ByteArray), .slice none 0 0, .bool true]) E37 rfl rfl (by kernel_rfl)) rfl fun a38 E39 => ?_)
  clear E37
  refine wl_cons (wl_buildSlice (ps := [(0, .agg #[.int .i64 1, .int .i64 0, .int .i64 0, .int .i64 0, .int .i64 0, .int .i64 0, .int .i64 4294967295, .int .i64 4294967295, .int .i64 a0.Dev, .int .i64 a0.Ino, .string (⟨#[105, 110, 105, 116]⟩ : ByteArray), .string (⟨#[47, 105, 110, 105, 116]⟩ : ByteArray), .slice none 0 0, .bool true])]) (cs := [.int .i64 1, .int .i64 0, .int .i64 0, .int .i64 0, .int .i64 0, .int .i64 0, .int .i64 4294967295, .int .i64 4294967295, .int .i64 a0.Dev, .int .i64 a0.Ino, .string (⟨#[105, 110, 105, 116]⟩ : ByteArray), .string (⟨#[47, 105, 110, 105, 116]⟩ : ByteArray), .slice none 0 0, .bool true]) E39 H rfl Try.underlying26 ti38 rfl rfl (by kernel_rfl) rfl fun g40 w41 a42 E43 H' => ?_)
  clear H E39; have H := H'; clear H'
  replace H : St w Nil Z w41 [] [[blk g27 [.int .i64 a0.Dev, .int .i64 a0.Ino] 31], [blk g31 [.int .i64 0, .int .i64 0, .slice none 0 0] 28], [blk g40 [.int .i64 1, .int .i64 0, .int .i64 0, .int .i64 0, .int .i64 0, .int .i64 0, .int .i64 4294967295, .int .i64 4294967295, .int .i64 a0.Dev, .int .i64 a0.Ino, .string (⟨#[105, 110, 105, 116]⟩ : ByteArray), .string (⟨#[47, 105, 110, 105, 116]⟩ : ByteArray), .slice none 0 0, .bool true] 38]] := H
  refine wl_cons (wl_val E43 rfl (rn_build (ps := [(0, .int .i64 2), (1, .int .i64 1), (2, .slice (some ⟨g40, 0, none⟩) 1 1)]) (cs := [.int .i64 2, .int .i64 1, .slice (some ⟨g40, 0, none⟩) 1 1]) E43 rfl rfl (by kernel_rfl)) rfl fun a44 E45 => ?_)
  clear E43
  refine wl_cons (wl_store (i := 1) (vs := [.int .i64 2, .int .i64 1, .slice (some ⟨g40, 0, none⟩) 1 1]) (cs' := [.int .i64 2, .int .i64 1, .slice (some ⟨g40, 0, none⟩) 1 1]) E45 H rfl rfl rfl rfl ti28 rfl rfl rfl rfl rfl rfl fun w48 a46 E47 H' => ?_)
  clear H E45; have H := H'; clear H'
  refine wl_nil ?_
  refine then_normal (hK35 _ _ ?_)
  refine wp_ret ?_
  refine ?_
  replace H := H.toRow (i := 2) (K := k_api_Process) (xs := [(⟨1, 0, 0, 0, 0, 0, 4294967295, 4294967295, a0, (⟨#[105, 110, 105, 116]⟩ : ByteArray), (⟨#[47, 105, 110, 105, 116]⟩ : ByteArray), ([] : List api_Descriptor), true⟩ : api_Process)]) rfl rfl (fun Z hA => ⟨[.int .i64 1, .int .i64 0, .int .i64 0, .int .i64 0, .int .i64 0, .int .i64 0, .int .i64 4294967295, .int .i64 4294967295, .int .i64 a0.Dev, .int .i64 a0.Ino, .string (⟨#[105, 110, 105, 116]⟩ : ByteArray), .string (⟨#[47, 105, 110, 105, 116]⟩ : ByteArray), .slice none 0 0, .bool true], _, rfl, (k_api_Process_shuts (x := (⟨1, 0, 0, 0, 0, 0, 4294967295, 4294967295, a0, (⟨#[105, 110, 105, 116]⟩ : ByteArray), (⟨#[47, 105, 110, 105, 116]⟩ : ByteArray), ([] : List api_Descriptor), true⟩ : api_Process)) (t := (none, 0)) ⟨(nil_view 81 k_api_Descriptor _ _), trivial⟩), rfl⟩)
  obtain rfl := Option.some.inj h
  replace H : St w Nil Z w48 [] [[blk g27 [.int .i64 a0.Dev, .int .i64 a0.Ino] 31], [blk g31 [.int .i64 2, .int .i64 1, .slice (some ⟨g40, 0, none⟩) 1 1] 28], [row 38 k_api_Process [(⟨1, 0, 0, 0, 0, 0, 4294967295, 4294967295, a0, (⟨#[105, 110, 105, 116]⟩ : ByteArray), (⟨#[47, 105, 110, 105, 116]⟩ : ByteArray), ([] : List api_Descriptor), true⟩ : api_Process)] (.slice (some ⟨g40, 0, none⟩) 1 1)]] := H
  refine wb_ret1 E47 rfl (rv_cellN (cs := [.int .i64 2, .int .i64 1, .slice (some ⟨g40, 0, none⟩) 1 1]) E47 rfl Try.underlying28 rfl ti28 (H.get (i := 1) (k := 0) rfl rfl) rfl) ?_
  exact ⟨_, rfl, [], [[row 38 k_api_Process [(⟨1, 0, 0, 0, 0, 0, 4294967295, 4294967295, a0, (⟨#[105, 110, 105, 116]⟩ : ByteArray), (⟨#[47, 105, 110, 105, 116]⟩ : ByteArray), ([] : List api_Descriptor), true⟩ : api_Process)] (.slice (some ⟨g40, 0, none⟩) 1 1)]], ⟨_, _, rfl, rfl, rfl⟩, H.leave (fun Z hA => trivial) (fun Z S hA hL => Holds_sub (.cons _ (.cons _ (.cons_cons _ .slnil))) hL)⟩
end Go.Proofs.Ytanimjbmkhpnaaa.Gx
