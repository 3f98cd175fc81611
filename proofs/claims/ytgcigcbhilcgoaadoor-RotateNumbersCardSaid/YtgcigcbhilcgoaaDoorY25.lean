/- Function 25, (*kaudit/kauditmill.Case).Text: what it answers as a plain function, and that the Go code comes to exactly that (where the plain function gives an answer). -/
import Derived.Test.YtgcigcbhilcgoaaDoorYT
import Derived.Test.YtgcigcbhilcgoaaDoorY16
set_option linter.unusedVariables false
set_option linter.unusedSimpArgs false
namespace Go.Proofs.YtgcigcbhilcgoaaDoor.Gx
open Go.Gx Go.RowKit
/-! ### (*kaudit/kauditmill.Case).Text: function 25 -/
def f_kauditmill_Case_Text (z0 : kauditmill_Case) : Option (ByteArray × Int) := (f_kauditmill_Case_Int z0 10).bind fun y11 => (at_ [(⟨#[]⟩ : ByteArray), (⟨#[97]⟩ : ByteArray), (⟨#[97, 110, 110]⟩ : ByteArray), (⟨#[47, 97, 47, 98]⟩ : ByteArray), (⟨#[110, 111]⟩ : ByteArray), (⟨#[121, 101, 115]⟩ : ByteArray), (⟨#[97, 32, 98]⟩ : ByteArray), (⟨#[120, 54, 102]⟩ : ByteArray), (⟨#[0]⟩ : ByteArray), (⟨#[109, 107, 100, 105, 114]⟩ : ByteArray)] y11.1).bind fun el16 => some (el16, y11.2)
set_option maxHeartbeats 4000000 in
set_option maxRecDepth 100000 in
theorem C25 (z0 : kauditmill_Case) (g_ : Nat) (p1 : Option Addr) (m2 : Nat) (c3 : Nat) (r : ByteArray × Int) (h : f_kauditmill_Case_Text z0 = some r) : FunG Tryd.prog 25 #[.pointer (some ⟨g_, 0, none⟩)] [vw (kSlice 5 (kInt .u8)) z0.codes [.slice p1 m2 c3], g_pow10, g_errs] [[blk g_ [.slice p1 m2 c3, .int .i64 z0.at_] 53]] (fun (_ : Unit) => .string r.1) (fun _ => []) (fun _ => [[blk g_ [.slice p1 m2 c3, .int .i64 r.2] 53]]) := by
  unfold f_kauditmill_Case_Text at h
  refine t_begin (args := [.pointer (some ⟨g_, 0, none⟩)]) Tryd.func25 rfl Tryd.ntmps25 rfl fun c R hR => ?_
  have hQ : ∀ X, X = r → ∀ w2 (_ : Unit), PostG c.w0 w2 c.M c.Y [] [[blk g_ [.slice p1 m2 c3, .int .i64 X.2] 53]] → R (.returned (.string X.1)) w2 := fun X e => by subst e; exact hR
  refine t_seq fun K4 hK5 => ?_
  refine t_region ?_
  refine c_p (r_as rfl) rfl ?_
  refine t_nil ?_
  refine t_then hK5 ?_
  refine t_seq fun K6 hK7 => ?_
  refine t_region ?_
  refine nx (t_bs (ps := [(0, .string (⟨#[]⟩ : ByteArray)), (1, .string (⟨#[97]⟩ : ByteArray)), (2, .string (⟨#[97, 110, 110]⟩ : ByteArray)), (3, .string (⟨#[47, 97, 47, 98]⟩ : ByteArray)), (4, .string (⟨#[110, 111]⟩ : ByteArray)), (5, .string (⟨#[121, 101, 115]⟩ : ByteArray)), (6, .string (⟨#[97, 32, 98]⟩ : ByteArray)), (7, .string (⟨#[120, 54, 102]⟩ : ByteArray)), (8, .string (⟨#[0]⟩ : ByteArray)), (9, .string (⟨#[109, 107, 100, 105, 114]⟩ : ByteArray))]) (cs := [.string (⟨#[]⟩ : ByteArray), .string (⟨#[97]⟩ : ByteArray), .string (⟨#[97, 110, 110]⟩ : ByteArray), .string (⟨#[47, 97, 47, 98]⟩ : ByteArray), .string (⟨#[110, 111]⟩ : ByteArray), .string (⟨#[121, 101, 115]⟩ : ByteArray), .string (⟨#[97, 32, 98]⟩ : ByteArray), .string (⟨#[120, 54, 102]⟩ : ByteArray), .string (⟨#[0]⟩ : ByteArray), .string (⟨#[109, 107, 100, 105, 114]⟩ : ByteArray)]) Tryd.underlying43 ti9 rfl rfl (by kernel_rfl) rfl fun g8 => ?_)
  refine c_p (r_as rfl) rfl ?_
  refine t_nil ?_
  refine t_then hK7 ?_
  refine t_seq fun K9 hK10 => ?_
  refine t_region ?_
  refine c_p (r_mv rfl) rfl ?_
  refine c_p (r_mv rfl) rfl ?_
  refine c_p (r_mv rfl) rfl ?_
  refine c_p (r_ln0 Tryd.underlying43 rfl) rfl ?_
  obtain ⟨y11, hy11, h⟩ := bs h
  refine nx (t_ca (C16 _ _ _ _ _ _ _ hy11) Tryd.func16 nm16 rfl rfl rfl (.cons e1 .nil) (fun w Z hA => (V1 a0 hA (V1 a1 hA (V1 a2 hA V0)))) rfl fun t12 => ?_)
  refine t_tr (Kd := kStr) (xs := [(⟨#[]⟩ : ByteArray), (⟨#[97]⟩ : ByteArray), (⟨#[97, 110, 110]⟩ : ByteArray), (⟨#[47, 97, 47, 98]⟩ : ByteArray), (⟨#[110, 111]⟩ : ByteArray), (⟨#[121, 101, 115]⟩ : ByteArray), (⟨#[97, 32, 98]⟩ : ByteArray), (⟨#[120, 54, 102]⟩ : ByteArray), (⟨#[0]⟩ : ByteArray), (⟨#[109, 107, 100, 105, 114]⟩ : ByteArray)]) (.cons e1 .nil) rfl (fun w Z S hA hN => flat_EO (S := Nil) flatK_str (er1 (c1 := [.string (⟨#[]⟩ : ByteArray)]) rfl (er1 (c1 := [.string (⟨#[97]⟩ : ByteArray)]) rfl (er1 (c1 := [.string (⟨#[97, 110, 110]⟩ : ByteArray)]) rfl (er1 (c1 := [.string (⟨#[47, 97, 47, 98]⟩ : ByteArray)]) rfl (er1 (c1 := [.string (⟨#[110, 111]⟩ : ByteArray)]) rfl (er1 (c1 := [.string (⟨#[121, 101, 115]⟩ : ByteArray)]) rfl (er1 (c1 := [.string (⟨#[97, 32, 98]⟩ : ByteArray)]) rfl (er1 (c1 := [.string (⟨#[120, 54, 102]⟩ : ByteArray)]) rfl (er1 (c1 := [.string (⟨#[0]⟩ : ByteArray)]) rfl (er1 (c1 := [.string (⟨#[109, 107, 100, 105, 114]⟩ : ByteArray)]) rfl er0))))))))))) ?_
  obtain ⟨el16, hel16, h⟩ := bs h
  refine t_qL a0 hel16 fun q13 hq14 hm15 => ?_
  refine c_p (r_idx hq14 hm15 hel16 Tryd.underlying43 ti9 rfl rfl) rfl ?_
  refine t_oI opensO_str e0 hel16 fun t17 => ?_
  refine c_s (r_h1 a0 hq14 Tryd.underlying9 rfl rfl rfl) rfl ?_
  refine c_p (r_as rfl) rfl ?_
  refine t_nil ?_
  refine t_then hK10 ?_
  refine t_ret ?_
  refine t_cS (u := el16) (t := ()) shutsO_str hel16 (.cons e0 .nil) rfl (fun w Z hA => trivial) ?_
  exact ret1 rfl (v_t rfl) (t_leave (hQ _ (Option.some.inj h)) () rfl (fun w Z hA => V0) (.cons e1 .nil))
end Go.Proofs.YtgcigcbhilcgoaaDoor.Gx
