/- Function 9, kaudit/process.New: what it answers as a plain function, and that the Go code comes to exactly that (where the plain function gives an answer). -/
import Derived.Test.YtanimjbmkhpnaaaXT
set_option linter.unusedVariables false
set_option linter.unusedSimpArgs false
namespace Go.Proofs.Ytanimjbmkhpnaaa.Gx
open Go.Gx Go.RowKit
/-! ### kaudit/process.New: function 9 -/
def f_process_New (a0 : api_File) : Option (api_Table) := some ((⟨2, 1, [(⟨1, 0, 0, 0, 0, 0, 4294967295, 4294967295, a0, (⟨#[105, 110, 105, 116]⟩ : ByteArray), (⟨#[47, 105, 110, 105, 116]⟩ : ByteArray), ([] : List api_Descriptor), true⟩ : api_Process)]⟩ : api_Table))
set_option maxHeartbeats 4000000 in
set_option maxRecDepth 100000 in
theorem C9 (a0 : api_File) (r : api_Table) (w : World) (h : f_process_New a0 = some r) : Fun Try.prog 9 #[.agg #[.int .i64 a0.Dev, .int .i64 a0.Ino]] w [] (fun (v_ : Value) (A_ : List VP) (N_ : List (List SP)) => ∃ (p34 : Option Addr) (c35 : Nat), v_ = .agg #[.int .i64 r.Next, .int .i64 r.NextSession, .slice p34 r.Processes.length c35] ∧ A_ = [] ∧ N_ = [[row 38 k_api_Process r.Processes (.slice p34 r.Processes.length c35)]]) := by
  unfold f_process_New at h
  refine fun_begin (args := [.agg #[.int .i64 a0.Dev, .int .i64 a0.Ino]]) Try.func9 rfl Try.ntmps9 rfl fun Z a E H => ?_
  refine wp_seq_k fun _ hK36 => ?_
  refine wp_region_lit ?_
  refine wl_cons (wl_box (T := 31) (cs := [.int .i64 a0.Dev, .int .i64 a0.Ino]) E H rfl rfl rfl rfl fun g37 w38 a39 E40 H' => ?_)
  clear H E; have H := H'; clear H'
  refine wl_cons (wl_alloc (cs := [.int .i64 0, .int .i64 0, .slice none 0 0]) E40 H rfl ti28 rfl rfl fun g41 w42 a43 E44 H' => ?_)
  clear H E40; have H := H'; clear H'
  refine wl_nil ?_
  refine then_normal (hK36 _ _ ?_)
  refine wp_seq_k fun _ hK45 => ?_
  refine wp_region_lit ?_
  refine wl_cons (wl_val E44 rfl (rn_ldN (i := 0) [.int .i64 a0.Dev, .int .i64 a0.Ino] E44 H rfl Try.underlying31 rfl ti31 rfl rfl rfl rfl) rfl fun a46 E47 => ?_)
  clear E44
  refine wl_cons (wl_val E47 rfl (rn_build (ps := [(0, .int .i64 1), (6, .int .i64 4294967295), (7, .int .i64 4294967295), (8, .agg #[.int .i64 a0.Dev, .int .i64 a0.Ino]), (9, .string (⟨#[105, 110, 105, 116]⟩ : ByteArray)), (10, .string (⟨#[47, 105, 110, 105, 116]⟩ : ByteArray)), (12, .bool true)]) (cs := [.int .i64 1, .int .i64 0, .int .i64 0, .int .i64 0, .int .i64 0, .int .i64 0, .int .i64 4294967295, .int .i64 4294967295, .int .i64 a0.Dev, .int .i64 a0.Ino, .string (⟨#[105, 110, 105, 116]⟩ : ByteArray), .string (⟨#[47, 105, 110, 105, 116]⟩ : ByteArray), .slice none 0 0, .bool true]) E47 rfl rfl (by kernel_rfl)) rfl fun a48 E49 => ?_)
  clear E47
  refine wl_cons (wl_alloc (cs := [.int .i64 0, .int .i64 0, .int .i64 0, .int .i64 0, .int .i64 0, .int .i64 0, .int .i64 0, .int .i64 0, .int .i64 0, .int .i64 0, .string (⟨#[]⟩ : ByteArray), .string (⟨#[]⟩ : ByteArray), .slice none 0 0, .bool false]) E49 H rfl ti38 rfl rfl fun g50 w51 a52 E53 H' => ?_)
  clear H E49; have H := H'; clear H'
  replace H : St w Nil Z w51 [] [[blk g37 [.int .i64 a0.Dev, .int .i64 a0.Ino] 31], [blk g41 [.int .i64 0, .int .i64 0, .slice none 0 0] 28], [blk g50 [.int .i64 0, .int .i64 0, .int .i64 0, .int .i64 0, .int .i64 0, .int .i64 0, .int .i64 0, .int .i64 0, .int .i64 0, .int .i64 0, .string (⟨#[]⟩ : ByteArray), .string (⟨#[]⟩ : ByteArray), .slice none 0 0, .bool false] 38]] := H
  refine wl_cons (wl_store (i := 2) (vs := [.int .i64 1, .int .i64 0, .int .i64 0, .int .i64 0, .int .i64 0, .int .i64 0, .int .i64 4294967295, .int .i64 4294967295, .int .i64 a0.Dev, .int .i64 a0.Ino, .string (⟨#[105, 110, 105, 116]⟩ : ByteArray), .string (⟨#[47, 105, 110, 105, 116]⟩ : ByteArray), .slice none 0 0, .bool true]) (cs' := [.int .i64 1, .int .i64 0, .int .i64 0, .int .i64 0, .int .i64 0, .int .i64 0, .int .i64 4294967295, .int .i64 4294967295, .int .i64 a0.Dev, .int .i64 a0.Ino, .string (⟨#[105, 110, 105, 116]⟩ : ByteArray), .string (⟨#[47, 105, 110, 105, 116]⟩ : ByteArray), .slice none 0 0, .bool true]) E53 H rfl rfl rfl rfl ti38 rfl rfl rfl rfl rfl rfl fun w56 a54 E55 H' => ?_)
  clear H E53; have H := H'; clear H'
  refine wl_nil ?_
  refine then_normal (hK45 _ _ ?_)
  refine wp_seq_k fun _ hK57 => ?_
  refine wp_region_lit ?_
  refine wl_cons (wl_val E55 rfl (rn_ldN (i := 2) [.int .i64 1, .int .i64 0, .int .i64 0, .int .i64 0, .int .i64 0, .int .i64 0, .int .i64 4294967295, .int .i64 4294967295, .int .i64 a0.Dev, .int .i64 a0.Ino, .string (⟨#[105, 110, 105, 116]⟩ : ByteArray), .string (⟨#[47, 105, 110, 105, 116]⟩ : ByteArray), .slice none 0 0, .bool true] E55 H rfl Try.underlying38 rfl ti38 rfl rfl rfl rfl) rfl fun a58 E59 => ?_)
  clear E55
  refine wl_cons (wl_buildSlice (ps := [(0, .agg #[.int .i64 1, .int .i64 0, .int .i64 0, .int .i64 0, .int .i64 0, .int .i64 0, .int .i64 4294967295, .int .i64 4294967295, .int .i64 a0.Dev, .int .i64 a0.Ino, .string (⟨#[105, 110, 105, 116]⟩ : ByteArray), .string (⟨#[47, 105, 110, 105, 116]⟩ : ByteArray), .slice none 0 0, .bool true])]) (cs := [.int .i64 1, .int .i64 0, .int .i64 0, .int .i64 0, .int .i64 0, .int .i64 0, .int .i64 4294967295, .int .i64 4294967295, .int .i64 a0.Dev, .int .i64 a0.Ino, .string (⟨#[105, 110, 105, 116]⟩ : ByteArray), .string (⟨#[47, 105, 110, 105, 116]⟩ : ByteArray), .slice none 0 0, .bool true]) E59 H rfl Try.underlying26 ti38 rfl rfl (by kernel_rfl) rfl fun g60 w61 a62 E63 H' => ?_)
  clear H E59; have H := H'; clear H'
  refine wl_cons (wl_val E63 rfl (rn_build (ps := [(0, .int .i64 2), (1, .int .i64 1), (2, .slice (some ⟨g60, 0, none⟩) 1 1)]) (cs := [.int .i64 2, .int .i64 1, .slice (some ⟨g60, 0, none⟩) 1 1]) E63 rfl rfl (by kernel_rfl)) rfl fun a64 E65 => ?_)
  clear E63
  refine wl_cons (wl_store (i := 1) (vs := [.int .i64 2, .int .i64 1, .slice (some ⟨g60, 0, none⟩) 1 1]) (cs' := [.int .i64 2, .int .i64 1, .slice (some ⟨g60, 0, none⟩) 1 1]) E65 H rfl rfl rfl rfl ti28 rfl rfl rfl rfl rfl rfl fun w68 a66 E67 H' => ?_)
  clear H E65; have H := H'; clear H'
  replace H : St w Nil Z w68 [] [[blk g37 [.int .i64 a0.Dev, .int .i64 a0.Ino] 31], [blk g41 [.int .i64 2, .int .i64 1, .slice (some ⟨g60, 0, none⟩) 1 1] 28], [blk g50 [.int .i64 1, .int .i64 0, .int .i64 0, .int .i64 0, .int .i64 0, .int .i64 0, .int .i64 4294967295, .int .i64 4294967295, .int .i64 a0.Dev, .int .i64 a0.Ino, .string (⟨#[105, 110, 105, 116]⟩ : ByteArray), .string (⟨#[47, 105, 110, 105, 116]⟩ : ByteArray), .slice none 0 0, .bool true] 38], [blk g60 [.int .i64 1, .int .i64 0, .int .i64 0, .int .i64 0, .int .i64 0, .int .i64 0, .int .i64 4294967295, .int .i64 4294967295, .int .i64 a0.Dev, .int .i64 a0.Ino, .string (⟨#[105, 110, 105, 116]⟩ : ByteArray), .string (⟨#[47, 105, 110, 105, 116]⟩ : ByteArray), .slice none 0 0, .bool true] 38]] := H
  refine wl_nil ?_
  refine then_normal (hK57 _ _ ?_)
  refine wp_ret ?_
  refine ?_
  replace H := H.toRow (i := 3) (K := k_api_Process) (xs := [(⟨1, 0, 0, 0, 0, 0, 4294967295, 4294967295, a0, (⟨#[105, 110, 105, 116]⟩ : ByteArray), (⟨#[47, 105, 110, 105, 116]⟩ : ByteArray), ([] : List api_Descriptor), true⟩ : api_Process)]) rfl rfl (fun Z hA => ⟨[.int .i64 1, .int .i64 0, .int .i64 0, .int .i64 0, .int .i64 0, .int .i64 0, .int .i64 4294967295, .int .i64 4294967295, .int .i64 a0.Dev, .int .i64 a0.Ino, .string (⟨#[105, 110, 105, 116]⟩ : ByteArray), .string (⟨#[47, 105, 110, 105, 116]⟩ : ByteArray), .slice none 0 0, .bool true], _, rfl, (k_api_Process_shuts (x := (⟨1, 0, 0, 0, 0, 0, 4294967295, 4294967295, a0, (⟨#[105, 110, 105, 116]⟩ : ByteArray), (⟨#[47, 105, 110, 105, 116]⟩ : ByteArray), ([] : List api_Descriptor), true⟩ : api_Process)) (t := (none, 0)) ⟨(nil_view 81 k_api_Descriptor _ _), trivial⟩), rfl⟩)
  obtain rfl := Option.some.inj h
  replace H : St w Nil Z w68 [] [[blk g37 [.int .i64 a0.Dev, .int .i64 a0.Ino] 31], [blk g41 [.int .i64 2, .int .i64 1, .slice (some ⟨g60, 0, none⟩) 1 1] 28], [blk g50 [.int .i64 1, .int .i64 0, .int .i64 0, .int .i64 0, .int .i64 0, .int .i64 0, .int .i64 4294967295, .int .i64 4294967295, .int .i64 a0.Dev, .int .i64 a0.Ino, .string (⟨#[105, 110, 105, 116]⟩ : ByteArray), .string (⟨#[47, 105, 110, 105, 116]⟩ : ByteArray), .slice none 0 0, .bool true] 38], [row 38 k_api_Process [(⟨1, 0, 0, 0, 0, 0, 4294967295, 4294967295, a0, (⟨#[105, 110, 105, 116]⟩ : ByteArray), (⟨#[47, 105, 110, 105, 116]⟩ : ByteArray), ([] : List api_Descriptor), true⟩ : api_Process)] (.slice (some ⟨g60, 0, none⟩) 1 1)]] := H
  refine wb_ret1 E67 rfl (rv_cellN (cs := [.int .i64 2, .int .i64 1, .slice (some ⟨g60, 0, none⟩) 1 1]) E67 rfl Try.underlying28 rfl ti28 (H.get (i := 1) (k := 0) rfl rfl) rfl) ?_
  exact ⟨_, rfl, [], [[row 38 k_api_Process [(⟨1, 0, 0, 0, 0, 0, 4294967295, 4294967295, a0, (⟨#[105, 110, 105, 116]⟩ : ByteArray), (⟨#[47, 105, 110, 105, 116]⟩ : ByteArray), ([] : List api_Descriptor), true⟩ : api_Process)] (.slice (some ⟨g60, 0, none⟩) 1 1)]], ⟨_, _, rfl, rfl, rfl⟩, H.leave (fun Z hA => trivial) (fun Z S hA hL => Holds_sub (.cons _ (.cons _ (.cons _ (.cons_cons _ .slnil)))) hL)⟩
end Go.Proofs.Ytanimjbmkhpnaaa.Gx
