/- Function 9, kaudit/process.New: what it answers as a plain function, and that the Go code comes to exactly that (where the plain function gives an answer). -/
import Derived.Test.YtanimjbmkhpnaaaYT
set_option linter.unusedVariables false
set_option linter.unusedSimpArgs false
namespace Go.Proofs.Ytanimjbmkhpnaaa.Gx
open Go.Gx Go.RowKit
/-! ### kaudit/process.New: function 9 -/
def f_process_New (z0 : api_File) : Option (api_Table) := some (⟨2, 1, [(⟨1, 0, 0, 0, 0, 0, 4294967295, 4294967295, z0, (⟨#[105, 110, 105, 116]⟩ : ByteArray), (⟨#[47, 105, 110, 105, 116]⟩ : ByteArray), ([] : List api_Descriptor), true⟩ : api_Process)]⟩ : api_Table)
set_option maxHeartbeats 4000000 in
set_option maxRecDepth 100000 in
theorem C9 (z0 : api_File) (r : api_Table) (h : f_process_New z0 = some r) : FunG Try.prog 9 #[.agg #[.int .i64 z0.Dev, .int .i64 z0.Ino]] [] [] (fun t : (Option Addr × Nat × Nat) => .agg #[.int .i64 r.Next, .int .i64 r.NextSession, .slice t.1 t.2.1 t.2.2]) (fun t => []) (fun t => [[row 38 k_api_Process r.Processes (.slice t.1 t.2.1 t.2.2)]]) := by
  unfold f_process_New at h
  refine t_begin (args := [.agg #[.int .i64 z0.Dev, .int .i64 z0.Ino]]) Try.func9 rfl Try.ntmps9 rfl fun c R hR => ?_
  have hQ : ∀ X, X = r → ∀ w2 (t : (Option Addr × Nat × Nat)), PostG c.w0 w2 c.M c.Y [] [[row 38 k_api_Process X.Processes (.slice t.1 t.2.1 t.2.2)]] → R (.returned (.agg #[.int .i64 X.Next, .int .i64 X.NextSession, .slice t.1 t.2.1 t.2.2])) w2 := fun X e => by subst e; exact hR
  refine t_seq fun K1 hK2 => ?_
  refine t_region ?_
  refine nx (t_bx (cs := [.int .i64 z0.Dev, .int .i64 z0.Ino]) rfl rfl rfl fun g3 => ?_)
  refine nx (t_al (cs := [.int .i64 0, .int .i64 0, .slice none 0 0]) ti28 rfl rfl fun g4 => ?_)
  refine t_nil ?_
  refine t_then hK2 ?_
  refine t_seq fun K5 hK6 => ?_
  refine t_region ?_
  refine c_s (r_ldA a1 Try.underlying31 rfl ti31 rfl rfl) rfl ?_
  refine c_p (r_bu (ps := [(0, .int .i64 1), (6, .int .i64 4294967295), (7, .int .i64 4294967295), (8, .agg #[.int .i64 z0.Dev, .int .i64 z0.Ino]), (9, .string (⟨#[105, 110, 105, 116]⟩ : ByteArray)), (10, .string (⟨#[47, 105, 110, 105, 116]⟩ : ByteArray)), (12, .bool true)]) (cs := [.int .i64 1, .int .i64 0, .int .i64 0, .int .i64 0, .int .i64 0, .int .i64 0, .int .i64 4294967295, .int .i64 4294967295, .int .i64 z0.Dev, .int .i64 z0.Ino, .string (⟨#[105, 110, 105, 116]⟩ : ByteArray), .string (⟨#[47, 105, 110, 105, 116]⟩ : ByteArray), .slice none 0 0, .bool true]) rfl (by kernel_rfl)) rfl ?_
  refine nx (t_al (cs := [.int .i64 0, .int .i64 0, .int .i64 0, .int .i64 0, .int .i64 0, .int .i64 0, .int .i64 0, .int .i64 0, .int .i64 0, .int .i64 0, .string (⟨#[]⟩ : ByteArray), .string (⟨#[]⟩ : ByteArray), .slice none 0 0, .bool false]) ti38 rfl rfl fun g7 => ?_)
  refine nx (t_st u0 ti38 rfl rfl rfl rfl rfl (.t (.s (.s (.s (.s (.s (.s (.s (.s (.s (.s (.s (.s (.s (.s .z))))))))))))))) ?_)
  refine t_nil ?_
  refine t_then hK6 ?_
  refine t_seq fun K8 hK9 => ?_
  refine t_region ?_
  refine c_s (r_ldA a0 Try.underlying38 rfl ti38 rfl rfl) rfl ?_
  refine nx (t_bs (ps := [(0, .agg #[.int .i64 1, .int .i64 0, .int .i64 0, .int .i64 0, .int .i64 0, .int .i64 0, .int .i64 4294967295, .int .i64 4294967295, .int .i64 z0.Dev, .int .i64 z0.Ino, .string (⟨#[105, 110, 105, 116]⟩ : ByteArray), .string (⟨#[47, 105, 110, 105, 116]⟩ : ByteArray), .slice none 0 0, .bool true])]) (cs := [.int .i64 1, .int .i64 0, .int .i64 0, .int .i64 0, .int .i64 0, .int .i64 0, .int .i64 4294967295, .int .i64 4294967295, .int .i64 z0.Dev, .int .i64 z0.Ino, .string (⟨#[105, 110, 105, 116]⟩ : ByteArray), .string (⟨#[47, 105, 110, 105, 116]⟩ : ByteArray), .slice none 0 0, .bool true]) Try.underlying26 ti38 rfl rfl (by kernel_rfl) rfl fun g10 => ?_)
  refine c_p (r_bu (ps := [(0, .int .i64 2), (1, .int .i64 1), (2, .slice (some ⟨g10, 0, none⟩) 1 1)]) (cs := [.int .i64 2, .int .i64 1, .slice (some ⟨g10, 0, none⟩) 1 1]) rfl (by kernel_rfl)) rfl ?_
  refine nx (t_st u2 ti28 rfl rfl rfl rfl rfl (.t (.s (.s (.s .z)))) ?_)
  refine t_nil ?_
  refine t_then hK9 ?_
  refine t_ret ?_
  refine t_nr 81 k_api_Descriptor ?_
  refine t_tr (Kd := k_api_Process) (xs := [(⟨1, 0, 0, 0, 0, 0, 4294967295, 4294967295, z0, (⟨#[105, 110, 105, 116]⟩ : ByteArray), (⟨#[47, 105, 110, 105, 116]⟩ : ByteArray), ([] : List api_Descriptor), true⟩ : api_Process)]) (.cons e1 (.cons e0 .nil)) rfl (fun w Z S hA hN => (eoC (x := (⟨1, 0, 0, 0, 0, 0, 4294967295, 4294967295, z0, (⟨#[105, 110, 105, 116]⟩ : ByteArray), (⟨#[47, 105, 110, 105, 116]⟩ : ByteArray), ([] : List api_Descriptor), true⟩ : api_Process)) (t := (none, 0, 0)) k_api_Process_shutsO trivial eoN) S hN) ?_
  exact ret1 rfl (v_N rfl a2 Try.underlying28 rfl ti28 rfl) (t_leave (hQ _ (Option.some.inj h)) ((some ⟨g10, 0, none⟩), 1, 1) rfl (fun w Z hA => V0) (.cons e0 .nil))
end Go.Proofs.Ytanimjbmkhpnaaa.Gx
