/- The plain types of this seat's program: how they lie in memory. -/
import Derived.Test.YtgcigcbhilcgoaaDoorProg
import Derived.Test.YtgcigcbhilcgoaaDoorHRow
import Derived.Test.YtgcigcbhilcgoaaDoorHShelf
import Derived.Lib.ItoaNum
set_option linter.unusedVariables false
set_option linter.unusedSimpArgs false
namespace Go.Proofs.YtgcigcbhilcgoaaDoor.Gx
open Go.Gx Go.RowKit
structure runtime_boundsError where
  x : Int
  y : Int
  signed : Bool
  code : Int
def k_runtime_boundsError : Kind runtime_boundsError := kIso (kPair (kInt .i64) (kPair (kInt .i64) (kPair kBool (kInt .u8)))) (fun x => (x.x, x.y, x.signed, x.code))
theorem k_runtime_boundsError_opens : Opens k_runtime_boundsError (fun (x : runtime_boundsError) (_t : Unit) => [.int .i64 x.x, .int .i64 x.y, .bool x.signed, .int .u8 x.code]) (fun (_x : runtime_boundsError) (_t : Unit) => []) := opens_map (opens_iso (opens_pair (opens_int .i64) (opens_pair (opens_int .i64) (opens_pair opens_bool (opens_int .u8))))) (fun _ => ()) (fun _ _ => rfl) (fun _ _ => rfl)
theorem k_runtime_boundsError_shuts : Shuts k_runtime_boundsError (fun (x : runtime_boundsError) (_t : Unit) => [.int .i64 x.x, .int .i64 x.y, .bool x.signed, .int .u8 x.code]) (fun (_x : runtime_boundsError) (_t : Unit) => []) := shuts_map (shuts_iso (shuts_pair (shuts_int .i64) (shuts_pair (shuts_int .i64) (shuts_pair shuts_bool (shuts_int .u8))))) (fun _ => ((), ((), ((), ())))) (fun _ _ => rfl) (fun _ _ => rfl)
theorem k_runtime_boundsError_opensO : OpensO k_runtime_boundsError (fun (x : runtime_boundsError) (_t : Unit) => [.int .i64 x.x, .int .i64 x.y, .bool x.signed, .int .u8 x.code]) (fun (_x : runtime_boundsError) (_t : Unit) => []) (fun (_x : runtime_boundsError) (_t : Unit) => []) := opensO_map (opensO_iso (opensO_pair (opensO_int .i64) (opensO_pair (opensO_int .i64) (opensO_pair opensO_bool (opensO_int .u8))))) (fun _ => ()) (fun _ _ => rfl) (fun _ _ => rfl) (fun _ _ => rfl)
theorem k_runtime_boundsError_shutsO : ShutsO k_runtime_boundsError (fun (x : runtime_boundsError) (_t : Unit) => [.int .i64 x.x, .int .i64 x.y, .bool x.signed, .int .u8 x.code]) (fun (_x : runtime_boundsError) (_t : Unit) => []) (fun (_x : runtime_boundsError) (_t : Unit) => []) := shutsO_map (shutsO_iso (shutsO_pair (shutsO_int .i64) (shutsO_pair (shutsO_int .i64) (shutsO_pair shutsO_bool (shutsO_int .u8))))) (fun _ => ((), ((), ((), ())))) (fun _ _ => rfl) (fun _ _ => rfl) (fun _ _ => rfl)
theorem k_runtime_boundsError_flatK : FlatK k_runtime_boundsError := (flatK_iso (flatK_pair (flatK_int .i64) (flatK_pair (flatK_int .i64) (flatK_pair flatK_bool (flatK_int .u8)))))
theorem k_runtime_boundsError_indK : IndK k_runtime_boundsError := (indK_iso (indK_pair (indK_int .i64) (indK_pair (indK_int .i64) (indK_pair indK_bool (indK_int .u8)))))
structure runtime_errorAddressString where
  msg : ByteArray
  addr : Int
def k_runtime_errorAddressString : Kind runtime_errorAddressString := kIso (kPair kStr (kInt .u64)) (fun x => (x.msg, x.addr))
theorem k_runtime_errorAddressString_opens : Opens k_runtime_errorAddressString (fun (x : runtime_errorAddressString) (_t : Unit) => [.string x.msg, .int .u64 x.addr]) (fun (_x : runtime_errorAddressString) (_t : Unit) => []) := opens_map (opens_iso (opens_pair opens_str (opens_int .u64))) (fun _ => ()) (fun _ _ => rfl) (fun _ _ => rfl)
theorem k_runtime_errorAddressString_shuts : Shuts k_runtime_errorAddressString (fun (x : runtime_errorAddressString) (_t : Unit) => [.string x.msg, .int .u64 x.addr]) (fun (_x : runtime_errorAddressString) (_t : Unit) => []) := shuts_map (shuts_iso (shuts_pair shuts_str (shuts_int .u64))) (fun _ => ((), ())) (fun _ _ => rfl) (fun _ _ => rfl)
theorem k_runtime_errorAddressString_opensO : OpensO k_runtime_errorAddressString (fun (x : runtime_errorAddressString) (_t : Unit) => [.string x.msg, .int .u64 x.addr]) (fun (_x : runtime_errorAddressString) (_t : Unit) => []) (fun (_x : runtime_errorAddressString) (_t : Unit) => []) := opensO_map (opensO_iso (opensO_pair opensO_str (opensO_int .u64))) (fun _ => ()) (fun _ _ => rfl) (fun _ _ => rfl) (fun _ _ => rfl)
theorem k_runtime_errorAddressString_shutsO : ShutsO k_runtime_errorAddressString (fun (x : runtime_errorAddressString) (_t : Unit) => [.string x.msg, .int .u64 x.addr]) (fun (_x : runtime_errorAddressString) (_t : Unit) => []) (fun (_x : runtime_errorAddressString) (_t : Unit) => []) := shutsO_map (shutsO_iso (shutsO_pair shutsO_str (shutsO_int .u64))) (fun _ => ((), ())) (fun _ _ => rfl) (fun _ _ => rfl) (fun _ _ => rfl)
theorem k_runtime_errorAddressString_flatK : FlatK k_runtime_errorAddressString := (flatK_iso (flatK_pair flatK_str (flatK_int .u64)))
theorem k_runtime_errorAddressString_indK : IndK k_runtime_errorAddressString := (indK_iso (indK_pair indK_str (indK_int .u64)))
structure api_Rotation where
  Most : Int
  Keep : Int
  Action : Int
def k_api_Rotation : Kind api_Rotation := kIso (kPair (kInt .i64) (kPair (kInt .i64) (kInt .i64))) (fun x => (x.Most, x.Keep, x.Action))
theorem k_api_Rotation_opens : Opens k_api_Rotation (fun (x : api_Rotation) (_t : Unit) => [.int .i64 x.Most, .int .i64 x.Keep, .int .i64 x.Action]) (fun (_x : api_Rotation) (_t : Unit) => []) := opens_map (opens_iso (opens_pair (opens_int .i64) (opens_pair (opens_int .i64) (opens_int .i64)))) (fun _ => ()) (fun _ _ => rfl) (fun _ _ => rfl)
theorem k_api_Rotation_shuts : Shuts k_api_Rotation (fun (x : api_Rotation) (_t : Unit) => [.int .i64 x.Most, .int .i64 x.Keep, .int .i64 x.Action]) (fun (_x : api_Rotation) (_t : Unit) => []) := shuts_map (shuts_iso (shuts_pair (shuts_int .i64) (shuts_pair (shuts_int .i64) (shuts_int .i64)))) (fun _ => ((), ((), ()))) (fun _ _ => rfl) (fun _ _ => rfl)
theorem k_api_Rotation_opensO : OpensO k_api_Rotation (fun (x : api_Rotation) (_t : Unit) => [.int .i64 x.Most, .int .i64 x.Keep, .int .i64 x.Action]) (fun (_x : api_Rotation) (_t : Unit) => []) (fun (_x : api_Rotation) (_t : Unit) => []) := opensO_map (opensO_iso (opensO_pair (opensO_int .i64) (opensO_pair (opensO_int .i64) (opensO_int .i64)))) (fun _ => ()) (fun _ _ => rfl) (fun _ _ => rfl) (fun _ _ => rfl)
theorem k_api_Rotation_shutsO : ShutsO k_api_Rotation (fun (x : api_Rotation) (_t : Unit) => [.int .i64 x.Most, .int .i64 x.Keep, .int .i64 x.Action]) (fun (_x : api_Rotation) (_t : Unit) => []) (fun (_x : api_Rotation) (_t : Unit) => []) := shutsO_map (shutsO_iso (shutsO_pair (shutsO_int .i64) (shutsO_pair (shutsO_int .i64) (shutsO_int .i64)))) (fun _ => ((), ((), ()))) (fun _ _ => rfl) (fun _ _ => rfl) (fun _ _ => rfl)
theorem k_api_Rotation_flatK : FlatK k_api_Rotation := (flatK_iso (flatK_pair (flatK_int .i64) (flatK_pair (flatK_int .i64) (flatK_int .i64))))
theorem k_api_Rotation_indK : IndK k_api_Rotation := (indK_iso (indK_pair (indK_int .i64) (indK_pair (indK_int .i64) (indK_int .i64))))
structure kauditmill_Case where
  codes : (List Int)
  at_ : Int
def k_kauditmill_Case : Kind kauditmill_Case := kIso (kPair (kSlice 5 (kInt .u8)) (kInt .i64)) (fun x => (x.codes, x.at_))
theorem k_kauditmill_Case_opens : Opens k_kauditmill_Case (fun (x : kauditmill_Case) (t : (Option Addr × Nat × Nat)) => [.slice t.1 t.2.1 t.2.2, .int .i64 x.at_]) (fun (x : kauditmill_Case) (t : (Option Addr × Nat × Nat)) => [vw (kSlice 5 (kInt .u8)) x.codes [.slice t.1 t.2.1 t.2.2]]) := opens_map (opens_iso (opens_pair (opens_slice 5 (kInt .u8)) (opens_int .i64))) (fun t => t.1) (fun _ _ => rfl) (fun _ _ => rfl)
theorem k_kauditmill_Case_shuts : Shuts k_kauditmill_Case (fun (x : kauditmill_Case) (t : (Option Addr × Nat × Nat)) => [.slice t.1 t.2.1 t.2.2, .int .i64 x.at_]) (fun (x : kauditmill_Case) (t : (Option Addr × Nat × Nat)) => [vw (kSlice 5 (kInt .u8)) x.codes [.slice t.1 t.2.1 t.2.2]]) := shuts_map (shuts_iso (shuts_pair (shuts_slice 5 (kInt .u8)) (shuts_int .i64))) (fun t => (t, ())) (fun _ _ => rfl) (fun _ _ => rfl)
theorem k_kauditmill_Case_opensO : OpensO k_kauditmill_Case (fun (x : kauditmill_Case) (t : (Option Addr × Nat × Nat)) => [.slice t.1 t.2.1 t.2.2, .int .i64 x.at_]) (fun (x : kauditmill_Case) (t : (Option Addr × Nat × Nat)) => [[row 5 (kInt .u8) x.codes (.slice t.1 t.2.1 t.2.2)]]) (fun (_x : kauditmill_Case) (_t : (Option Addr × Nat × Nat)) => []) := opensO_map (opensO_iso (opensO_pair (opensO_slice 5 (kInt .u8)) (opensO_int .i64))) (fun t => t.1) (fun _ _ => rfl) (fun _ _ => rfl) (fun _ _ => rfl)
theorem k_kauditmill_Case_shutsO : ShutsO k_kauditmill_Case (fun (x : kauditmill_Case) (t : (Option Addr × Nat × Nat)) => [.slice t.1 t.2.1 t.2.2, .int .i64 x.at_]) (fun (x : kauditmill_Case) (t : (Option Addr × Nat × Nat)) => [[row 5 (kInt .u8) x.codes (.slice t.1 t.2.1 t.2.2)]]) (fun (_x : kauditmill_Case) (_t : (Option Addr × Nat × Nat)) => []) := shutsO_map (shutsO_iso (shutsO_pair (shutsO_slice 5 (kInt .u8)) (shutsO_int .i64))) (fun t => (t, ())) (fun _ _ => rfl) (fun _ _ => rfl) (fun _ _ => rfl)
theorem k_kauditmill_Case_indK : IndK k_kauditmill_Case := (indK_iso (indK_pair (indK_slice 5 (indK_int .u8)) (indK_int .i64)))
structure errors_errorString where
  s : ByteArray
def k_errors_errorString : Kind errors_errorString := kIso kStr (fun x => x.s)
theorem k_errors_errorString_opens : Opens k_errors_errorString (fun (x : errors_errorString) (_t : Unit) => [.string x.s]) (fun (_x : errors_errorString) (_t : Unit) => []) := opens_map (opens_iso opens_str) (fun _ => ()) (fun _ _ => rfl) (fun _ _ => rfl)
theorem k_errors_errorString_shuts : Shuts k_errors_errorString (fun (x : errors_errorString) (_t : Unit) => [.string x.s]) (fun (_x : errors_errorString) (_t : Unit) => []) := shuts_map (shuts_iso shuts_str) (fun _ => ()) (fun _ _ => rfl) (fun _ _ => rfl)
theorem k_errors_errorString_opensO : OpensO k_errors_errorString (fun (x : errors_errorString) (_t : Unit) => [.string x.s]) (fun (_x : errors_errorString) (_t : Unit) => []) (fun (_x : errors_errorString) (_t : Unit) => []) := opensO_map (opensO_iso opensO_str) (fun _ => ()) (fun _ _ => rfl) (fun _ _ => rfl) (fun _ _ => rfl)
theorem k_errors_errorString_shutsO : ShutsO k_errors_errorString (fun (x : errors_errorString) (_t : Unit) => [.string x.s]) (fun (_x : errors_errorString) (_t : Unit) => []) (fun (_x : errors_errorString) (_t : Unit) => []) := shutsO_map (shutsO_iso shutsO_str) (fun _ => ()) (fun _ _ => rfl) (fun _ _ => rfl) (fun _ _ => rfl)
theorem k_errors_errorString_flatK : FlatK k_errors_errorString := (flatK_iso flatK_str)
theorem k_errors_errorString_indK : IndK k_errors_errorString := (indK_iso indK_str)
structure St29 where
  c0 : Int
  c1 : Int
def k_St29 : Kind St29 := kIso (kPair (kInt .i64) (kInt .i64)) (fun x => (x.c0, x.c1))
theorem k_St29_opens : Opens k_St29 (fun (x : St29) (_t : Unit) => [.int .i64 x.c0, .int .i64 x.c1]) (fun (_x : St29) (_t : Unit) => []) := opens_map (opens_iso (opens_pair (opens_int .i64) (opens_int .i64))) (fun _ => ()) (fun _ _ => rfl) (fun _ _ => rfl)
theorem k_St29_shuts : Shuts k_St29 (fun (x : St29) (_t : Unit) => [.int .i64 x.c0, .int .i64 x.c1]) (fun (_x : St29) (_t : Unit) => []) := shuts_map (shuts_iso (shuts_pair (shuts_int .i64) (shuts_int .i64))) (fun _ => ((), ())) (fun _ _ => rfl) (fun _ _ => rfl)
theorem k_St29_opensO : OpensO k_St29 (fun (x : St29) (_t : Unit) => [.int .i64 x.c0, .int .i64 x.c1]) (fun (_x : St29) (_t : Unit) => []) (fun (_x : St29) (_t : Unit) => []) := opensO_map (opensO_iso (opensO_pair (opensO_int .i64) (opensO_int .i64))) (fun _ => ()) (fun _ _ => rfl) (fun _ _ => rfl) (fun _ _ => rfl)
theorem k_St29_shutsO : ShutsO k_St29 (fun (x : St29) (_t : Unit) => [.int .i64 x.c0, .int .i64 x.c1]) (fun (_x : St29) (_t : Unit) => []) (fun (_x : St29) (_t : Unit) => []) := shutsO_map (shutsO_iso (shutsO_pair (shutsO_int .i64) (shutsO_int .i64))) (fun _ => ((), ())) (fun _ _ => rfl) (fun _ _ => rfl) (fun _ _ => rfl)
theorem k_St29_flatK : FlatK k_St29 := (flatK_iso (flatK_pair (flatK_int .i64) (flatK_int .i64)))
theorem k_St29_indK : IndK k_St29 := (indK_iso (indK_pair (indK_int .i64) (indK_int .i64)))
theorem ti2 : TI Tryd.prog 2 (.int .i64 0) 1 8 := by unfold TI; kernel_rfl
theorem ti3 : TI Tryd.prog 3 (.int .i64 0) 1 8 := by unfold TI; kernel_rfl
theorem ti4 : TI Tryd.prog 4 (.bool false) 1 1 := by unfold TI; kernel_rfl
theorem ti5 : TI Tryd.prog 5 (.int .u8 0) 1 1 := by unfold TI; kernel_rfl
theorem ti6 : TI Tryd.prog 6 (.int .u8 0) 1 1 := by unfold TI; kernel_rfl
theorem ti7 : TI Tryd.prog 7 (.agg #[.int .i64 0, .int .i64 0, .bool false, .int .u8 0]) 4 24 := by unfold TI; kernel_rfl
theorem ti8 : TI Tryd.prog 8 (.agg #[.int .i64 0, .int .i64 0, .bool false, .int .u8 0]) 4 24 := by unfold TI; kernel_rfl
theorem ti9 : TI Tryd.prog 9 (.string (⟨#[]⟩ : ByteArray)) 1 16 := by unfold TI; kernel_rfl
theorem ti10 : TI Tryd.prog 10 (.string (⟨#[]⟩ : ByteArray)) 1 16 := by unfold TI; kernel_rfl
theorem ti11 : TI Tryd.prog 11 (.string (⟨#[]⟩ : ByteArray)) 1 16 := by unfold TI; kernel_rfl
theorem ti12 : TI Tryd.prog 12 (.int .u64 0) 1 8 := by unfold TI; kernel_rfl
theorem ti13 : TI Tryd.prog 13 (.agg #[.string (⟨#[]⟩ : ByteArray), .int .u64 0]) 2 24 := by unfold TI; kernel_rfl
theorem ti14 : TI Tryd.prog 14 (.agg #[.string (⟨#[]⟩ : ByteArray), .int .u64 0]) 2 24 := by unfold TI; kernel_rfl
theorem ti15 : TI Tryd.prog 15 (.pointer none) 1 8 := by unfold TI; kernel_rfl
theorem ti16 : TI Tryd.prog 16 (.pointer none) 1 8 := by unfold TI; kernel_rfl
theorem ti17 : TI Tryd.prog 17 (.pointer none) 1 8 := by unfold TI; kernel_rfl
theorem ti18 : TI Tryd.prog 18 (.agg #[.pointer none]) 1 8 := by unfold TI; kernel_rfl
theorem ti19 : TI Tryd.prog 19 (.agg #[.pointer none]) 1 8 := by unfold TI; kernel_rfl
theorem ti21 : TI Tryd.prog 21 (.int .i32 0) 1 4 := by unfold TI; kernel_rfl
theorem ti22 : TI Tryd.prog 22 (.agg #[.int .i64 0, .int .i64 0, .int .i64 0]) 3 24 := by unfold TI; kernel_rfl
theorem ti23 : TI Tryd.prog 23 (.agg #[.int .i64 0, .int .i64 0, .int .i64 0]) 3 24 := by unfold TI; kernel_rfl
theorem ti24 : TI Tryd.prog 24 (.slice none 0 0) 1 24 := by unfold TI; kernel_rfl
theorem ti25 : TI Tryd.prog 25 (.pointer none) 1 8 := by unfold TI; kernel_rfl
theorem ti28 : TI Tryd.prog 28 (.slice none 0 0) 1 24 := by unfold TI; kernel_rfl
theorem ti29 : TI Tryd.prog 29 (.agg #[.int .i64 0, .int .i64 0]) 2 16 := by unfold TI; kernel_rfl
theorem ti31 : TI Tryd.prog 31 (.slice none 0 0) 1 24 := by unfold TI; kernel_rfl
theorem ti36 : TI Tryd.prog 36 (.slice none 0 0) 1 24 := by unfold TI; kernel_rfl
theorem ti41 : TI Tryd.prog 41 (.int .u16 0) 1 2 := by unfold TI; kernel_rfl
theorem ti43 : TI Tryd.prog 43 (.slice none 0 0) 1 24 := by unfold TI; kernel_rfl
theorem ti52 : TI Tryd.prog 52 (.agg #[.slice none 0 0, .int .i64 0]) 2 32 := by unfold TI; kernel_rfl
theorem ti53 : TI Tryd.prog 53 (.agg #[.slice none 0 0, .int .i64 0]) 2 32 := by unfold TI; kernel_rfl
theorem ti64 : TI Tryd.prog 64 (.int .u64 0) 1 8 := by unfold TI; kernel_rfl
theorem ti68 : TI Tryd.prog 68 (.pointer none) 1 8 := by unfold TI; kernel_rfl
theorem ti69 : TI Tryd.prog 69 (.agg #[.pointer none, .slice none 0 0]) 2 32 := by unfold TI; kernel_rfl
theorem ti70 : TI Tryd.prog 70 (.agg #[.pointer none, .slice none 0 0]) 2 32 := by unfold TI; kernel_rfl
theorem ti77 : TI Tryd.prog 77 (.int .u32 0) 1 4 := by unfold TI; kernel_rfl
theorem ti80 : TI Tryd.prog 80 (.int .u64 0) 1 8 := by unfold TI; kernel_rfl
theorem ti83 : TI Tryd.prog 83 (.pointer none) 1 8 := by unfold TI; kernel_rfl
theorem ti84 : TI Tryd.prog 84 (.int .i64 0) 1 8 := by unfold TI; kernel_rfl
theorem ti87 : TI Tryd.prog 87 (.pointer none) 1 8 := by unfold TI; kernel_rfl
theorem ti91 : TI Tryd.prog 91 (.int .i64 0) 1 8 := by unfold TI; kernel_rfl
theorem ti101 : TI Tryd.prog 101 (.agg #[.int .u8 0, .int .u8 0, .int .u8 0, .int .u8 0, .int .u8 0, .int .u8 0, .int .u8 0, .int .u8 0, .int .u8 0, .int .u8 0, .int .u8 0, .int .u8 0, .int .u8 0, .int .u8 0, .int .u8 0, .int .u8 0, .int .u8 0, .int .u8 0, .int .u8 0, .int .u8 0, .int .u8 0, .int .u8 0, .int .u8 0, .int .u8 0]) 24 24 := by unfold TI; kernel_rfl
theorem ti114 : TI Tryd.prog 114 (.int .u64 0) 1 8 := by unfold TI; kernel_rfl
theorem ti118 : TI Tryd.prog 118 (.pointer none) 1 8 := by unfold TI; kernel_rfl
theorem ti122 : TI Tryd.prog 122 (.agg #[.int .u64 0, .int .u64 0, .int .u64 0, .int .u64 0, .int .u64 0, .int .u64 0, .int .u64 0, .int .u64 0, .int .u64 0, .int .u64 0, .int .u64 0, .int .u64 0, .int .u64 0, .int .u64 0, .int .u64 0, .int .u64 0, .int .u64 0, .int .u64 0, .int .u64 0, .int .u64 0]) 20 160 := by unfold TI; kernel_rfl
theorem ti123 : TI Tryd.prog 123 (.agg #[.int .u8 0, .int .u8 0, .int .u8 0, .int .u8 0, .int .u8 0, .int .u8 0, .int .u8 0, .int .u8 0, .int .u8 0, .int .u8 0, .int .u8 0, .int .u8 0, .int .u8 0, .int .u8 0, .int .u8 0, .int .u8 0, .int .u8 0, .int .u8 0, .int .u8 0, .int .u8 0, .int .u8 0, .int .u8 0, .int .u8 0, .int .u8 0, .int .u8 0, .int .u8 0, .int .u8 0, .int .u8 0, .int .u8 0, .int .u8 0, .int .u8 0, .int .u8 0, .int .u8 0, .int .u8 0, .int .u8 0, .int .u8 0, .int .u8 0, .int .u8 0, .int .u8 0, .int .u8 0, .int .u8 0, .int .u8 0, .int .u8 0, .int .u8 0, .int .u8 0, .int .u8 0, .int .u8 0, .int .u8 0, .int .u8 0, .int .u8 0, .int .u8 0, .int .u8 0, .int .u8 0, .int .u8 0, .int .u8 0, .int .u8 0, .int .u8 0, .int .u8 0, .int .u8 0, .int .u8 0, .int .u8 0, .int .u8 0, .int .u8 0, .int .u8 0, .int .u8 0]) 65 65 := by unfold TI; kernel_rfl
theorem ti126 : TI Tryd.prog 126 (.pointer none) 1 8 := by unfold TI; kernel_rfl
theorem ti127 : TI Tryd.prog 127 (.agg #[.string (⟨#[]⟩ : ByteArray)]) 1 16 := by unfold TI; kernel_rfl
theorem ti128 : TI Tryd.prog 128 (.agg #[.string (⟨#[]⟩ : ByteArray)]) 1 16 := by unfold TI; kernel_rfl
theorem ti129 : TI Tryd.prog 129 (.pointer none) 1 8 := by unfold TI; kernel_rfl
theorem ti132 : TI Tryd.prog 132 (.agg #[.int .u8 0, .int .u8 0, .int .u8 0, .int .u8 0, .int .u8 0, .int .u8 0, .int .u8 0, .int .u8 0, .int .u8 0, .int .u8 0, .int .u8 0, .int .u8 0, .int .u8 0, .int .u8 0, .int .u8 0, .int .u8 0, .int .u8 0, .int .u8 0, .int .u8 0, .int .u8 0, .int .u8 0, .int .u8 0, .int .u8 0, .int .u8 0, .int .u8 0, .int .u8 0, .int .u8 0, .int .u8 0, .int .u8 0, .int .u8 0, .int .u8 0, .int .u8 0]) 32 32 := by unfold TI; kernel_rfl
theorem ti133 : TI Tryd.prog 133 (.agg #[.int .u8 0, .int .u8 0, .int .u8 0, .int .u8 0, .int .u8 0, .int .u8 0, .int .u8 0, .int .u8 0, .int .u8 0, .int .u8 0, .int .u8 0, .int .u8 0, .int .u8 0, .int .u8 0, .int .u8 0, .int .u8 0, .int .u8 0, .int .u8 0, .int .u8 0, .int .u8 0, .int .u8 0, .int .u8 0, .int .u8 0, .int .u8 0, .int .u8 0, .int .u8 0, .int .u8 0, .int .u8 0, .int .u8 0, .int .u8 0, .int .u8 0, .int .u8 0, .int .u8 0, .int .u8 0, .int .u8 0, .int .u8 0, .int .u8 0, .int .u8 0, .int .u8 0, .int .u8 0, .int .u8 0, .int .u8 0, .int .u8 0, .int .u8 0, .int .u8 0, .int .u8 0, .int .u8 0, .int .u8 0, .int .u8 0, .int .u8 0, .int .u8 0, .int .u8 0, .int .u8 0, .int .u8 0, .int .u8 0, .int .u8 0, .int .u8 0, .int .u8 0, .int .u8 0, .int .u8 0, .int .u8 0, .int .u8 0, .int .u8 0, .int .u8 0]) 64 64 := by unfold TI; kernel_rfl
theorem ti134 : TI Tryd.prog 134 (.agg #[.pointer none, .pointer none, .pointer none, .string (⟨#[]⟩ : ByteArray)]) 4 40 := by unfold TI; kernel_rfl
theorem ti135 : TI Tryd.prog 135 (.agg #[.pointer none, .pointer none, .pointer none, .string (⟨#[]⟩ : ByteArray)]) 4 40 := by unfold TI; kernel_rfl
theorem ti136 : TI Tryd.prog 136 (.agg #[]) 0 0 := by unfold TI; kernel_rfl
theorem ti137 : TI Tryd.prog 137 (.agg #[]) 0 0 := by unfold TI; kernel_rfl
theorem ti138 : TI Tryd.prog 138 (.agg #[]) 0 0 := by unfold TI; kernel_rfl
theorem ti139 : TI Tryd.prog 139 (.int .u8 0) 1 1 := by unfold TI; kernel_rfl
theorem ti140 : TI Tryd.prog 140 (.int .u8 0) 1 1 := by unfold TI; kernel_rfl
theorem ti142 : TI Tryd.prog 142 (.int .i32 0) 1 4 := by unfold TI; kernel_rfl
theorem ti143 : TI Tryd.prog 143 (.int .i32 0) 1 4 := by unfold TI; kernel_rfl
theorem mixed : Tryd.prog.follows .mixedOrders = true := by kernel_rfl
theorem nm3 : (Tryd.f3.name == "runtime.NumGoroutine") = false := by kernel_rfl
theorem nm4 : (Tryd.f4.name == "runtime.NumGoroutine") = false := by kernel_rfl
theorem nm5 : (Tryd.f5.name == "runtime.NumGoroutine") = false := by kernel_rfl
theorem nm6 : (Tryd.f6.name == "runtime.NumGoroutine") = false := by kernel_rfl
theorem nm7 : (Tryd.f7.name == "runtime.NumGoroutine") = false := by kernel_rfl
theorem nm8 : (Tryd.f8.name == "runtime.NumGoroutine") = false := by kernel_rfl
theorem nm9 : (Tryd.f9.name == "runtime.NumGoroutine") = false := by kernel_rfl
theorem nm10 : (Tryd.f10.name == "runtime.NumGoroutine") = false := by kernel_rfl
theorem nm11 : (Tryd.f11.name == "runtime.NumGoroutine") = false := by kernel_rfl
theorem nm12 : (Tryd.f12.name == "runtime.NumGoroutine") = false := by kernel_rfl
theorem nm13 : (Tryd.f13.name == "runtime.NumGoroutine") = false := by kernel_rfl
theorem nm14 : (Tryd.f14.name == "runtime.NumGoroutine") = false := by kernel_rfl
theorem nm15 : (Tryd.f15.name == "runtime.NumGoroutine") = false := by kernel_rfl
theorem nm16 : (Tryd.f16.name == "runtime.NumGoroutine") = false := by kernel_rfl
theorem nm17 : (Tryd.f17.name == "runtime.NumGoroutine") = false := by kernel_rfl
theorem nm18 : (Tryd.f18.name == "runtime.NumGoroutine") = false := by kernel_rfl
theorem nm19 : (Tryd.f19.name == "runtime.NumGoroutine") = false := by kernel_rfl
theorem nm20 : (Tryd.f20.name == "runtime.NumGoroutine") = false := by kernel_rfl
theorem nm21 : (Tryd.f21.name == "runtime.NumGoroutine") = false := by kernel_rfl
theorem nm22 : (Tryd.f22.name == "runtime.NumGoroutine") = false := by kernel_rfl
theorem nm23 : (Tryd.f23.name == "runtime.NumGoroutine") = false := by kernel_rfl
theorem nm24 : (Tryd.f24.name == "runtime.NumGoroutine") = false := by kernel_rfl
theorem nm25 : (Tryd.f25.name == "runtime.NumGoroutine") = false := by kernel_rfl
theorem nm26 : (Tryd.f26.name == "runtime.NumGoroutine") = false := by kernel_rfl
theorem nm27 : (Tryd.f27.name == "runtime.NumGoroutine") = false := by kernel_rfl
theorem nm28 : (Tryd.f28.name == "runtime.NumGoroutine") = false := by kernel_rfl
theorem nm29 : (Tryd.f29.name == "runtime.NumGoroutine") = false := by kernel_rfl
theorem nm30 : (Tryd.f30.name == "runtime.NumGoroutine") = false := by kernel_rfl
theorem nm31 : (Tryd.f31.name == "runtime.NumGoroutine") = false := by kernel_rfl
theorem nm32 : (Tryd.f32.name == "runtime.NumGoroutine") = false := by kernel_rfl
theorem nm33 : (Tryd.f33.name == "runtime.NumGoroutine") = false := by kernel_rfl
theorem nm34 : (Tryd.f34.name == "runtime.NumGoroutine") = false := by kernel_rfl
theorem nm35 : (Tryd.f35.name == "runtime.NumGoroutine") = false := by kernel_rfl
theorem nm36 : (Tryd.f36.name == "runtime.NumGoroutine") = false := by kernel_rfl
theorem nm37 : (Tryd.f37.name == "runtime.NumGoroutine") = false := by kernel_rfl
theorem nm38 : (Tryd.f38.name == "runtime.NumGoroutine") = false := by kernel_rfl
theorem nm39 : (Tryd.f39.name == "runtime.NumGoroutine") = false := by kernel_rfl
theorem nm40 : (Tryd.f40.name == "runtime.NumGoroutine") = false := by kernel_rfl
theorem nm41 : (Tryd.f41.name == "runtime.NumGoroutine") = false := by kernel_rfl
theorem nm42 : (Tryd.f42.name == "runtime.NumGoroutine") = false := by kernel_rfl
theorem nm43 : (Tryd.f43.name == "runtime.NumGoroutine") = false := by kernel_rfl
theorem nm44 : (Tryd.f44.name == "runtime.NumGoroutine") = false := by kernel_rfl
theorem nm45 : (Tryd.f45.name == "runtime.NumGoroutine") = false := by kernel_rfl
theorem nm46 : (Tryd.f46.name == "runtime.NumGoroutine") = false := by kernel_rfl
theorem nm47 : (Tryd.f47.name == "runtime.NumGoroutine") = false := by kernel_rfl
theorem nm48 : (Tryd.f48.name == "runtime.NumGoroutine") = false := by kernel_rfl
theorem nm49 : (Tryd.f49.name == "runtime.NumGoroutine") = false := by kernel_rfl
theorem nm50 : (Tryd.f50.name == "runtime.NumGoroutine") = false := by kernel_rfl
theorem nm51 : (Tryd.f51.name == "runtime.NumGoroutine") = false := by kernel_rfl
theorem nm52 : (Tryd.f52.name == "runtime.NumGoroutine") = false := by kernel_rfl
theorem nm53 : (Tryd.f53.name == "runtime.NumGoroutine") = false := by kernel_rfl
theorem nm54 : (Tryd.f54.name == "runtime.NumGoroutine") = false := by kernel_rfl
theorem nm55 : (Tryd.f55.name == "runtime.NumGoroutine") = false := by kernel_rfl
theorem nm56 : (Tryd.f56.name == "runtime.NumGoroutine") = false := by kernel_rfl
theorem nm57 : (Tryd.f57.name == "runtime.NumGoroutine") = false := by kernel_rfl
theorem nm58 : (Tryd.f58.name == "runtime.NumGoroutine") = false := by kernel_rfl
theorem nm59 : (Tryd.f59.name == "runtime.NumGoroutine") = false := by kernel_rfl
theorem nm60 : (Tryd.f60.name == "runtime.NumGoroutine") = false := by kernel_rfl
theorem nm61 : (Tryd.f61.name == "runtime.NumGoroutine") = false := by kernel_rfl
theorem nm62 : (Tryd.f62.name == "runtime.NumGoroutine") = false := by kernel_rfl
theorem nm63 : (Tryd.f63.name == "runtime.NumGoroutine") = false := by kernel_rfl
theorem nm64 : (Tryd.f64.name == "runtime.NumGoroutine") = false := by kernel_rfl
theorem nm65 : (Tryd.f65.name == "runtime.NumGoroutine") = false := by kernel_rfl
theorem nm66 : (Tryd.f66.name == "runtime.NumGoroutine") = false := by kernel_rfl
theorem nm67 : (Tryd.f67.name == "runtime.NumGoroutine") = false := by kernel_rfl
theorem nm68 : (Tryd.f68.name == "runtime.NumGoroutine") = false := by kernel_rfl
theorem nm69 : (Tryd.f69.name == "runtime.NumGoroutine") = false := by kernel_rfl
theorem nm70 : (Tryd.f70.name == "runtime.NumGoroutine") = false := by kernel_rfl
theorem nm71 : (Tryd.f71.name == "runtime.NumGoroutine") = false := by kernel_rfl
theorem nm72 : (Tryd.f72.name == "runtime.NumGoroutine") = false := by kernel_rfl
theorem nm73 : (Tryd.f73.name == "runtime.NumGoroutine") = false := by kernel_rfl
theorem nm74 : (Tryd.f74.name == "runtime.NumGoroutine") = false := by kernel_rfl
theorem nm75 : (Tryd.f75.name == "runtime.NumGoroutine") = false := by kernel_rfl
theorem nm76 : (Tryd.f76.name == "runtime.NumGoroutine") = false := by kernel_rfl
theorem nm77 : (Tryd.f77.name == "runtime.NumGoroutine") = false := by kernel_rfl
theorem nm78 : (Tryd.f78.name == "runtime.NumGoroutine") = false := by kernel_rfl
theorem nm79 : (Tryd.f79.name == "runtime.NumGoroutine") = false := by kernel_rfl
theorem nm80 : (Tryd.f80.name == "runtime.NumGoroutine") = false := by kernel_rfl
theorem nm81 : (Tryd.f81.name == "runtime.NumGoroutine") = false := by kernel_rfl
theorem nm82 : (Tryd.f82.name == "runtime.NumGoroutine") = false := by kernel_rfl
theorem nm83 : (Tryd.f83.name == "runtime.NumGoroutine") = false := by kernel_rfl
theorem nm84 : (Tryd.f84.name == "runtime.NumGoroutine") = false := by kernel_rfl
theorem nm85 : (Tryd.f85.name == "runtime.NumGoroutine") = false := by kernel_rfl
theorem nm86 : (Tryd.f86.name == "runtime.NumGoroutine") = false := by kernel_rfl
theorem nm87 : (Tryd.f87.name == "runtime.NumGoroutine") = false := by kernel_rfl
theorem nm88 : (Tryd.f88.name == "runtime.NumGoroutine") = false := by kernel_rfl
theorem nm89 : (Tryd.f89.name == "runtime.NumGoroutine") = false := by kernel_rfl
theorem nm90 : (Tryd.f90.name == "runtime.NumGoroutine") = false := by kernel_rfl
theorem nm91 : (Tryd.f91.name == "runtime.NumGoroutine") = false := by kernel_rfl
theorem nm92 : (Tryd.f92.name == "runtime.NumGoroutine") = false := by kernel_rfl
theorem nm93 : (Tryd.f93.name == "runtime.NumGoroutine") = false := by kernel_rfl
theorem nm94 : (Tryd.f94.name == "runtime.NumGoroutine") = false := by kernel_rfl
theorem nm95 : (Tryd.f95.name == "runtime.NumGoroutine") = false := by kernel_rfl
theorem nm96 : (Tryd.f96.name == "runtime.NumGoroutine") = false := by kernel_rfl
theorem nm97 : (Tryd.f97.name == "runtime.NumGoroutine") = false := by kernel_rfl
theorem nm98 : (Tryd.f98.name == "runtime.NumGoroutine") = false := by kernel_rfl
theorem nm99 : (Tryd.f99.name == "runtime.NumGoroutine") = false := by kernel_rfl
theorem nm100 : (Tryd.f100.name == "runtime.NumGoroutine") = false := by kernel_rfl
theorem nm101 : (Tryd.f101.name == "runtime.NumGoroutine") = false := by kernel_rfl
theorem nm102 : (Tryd.f102.name == "runtime.NumGoroutine") = false := by kernel_rfl
theorem nm103 : (Tryd.f103.name == "runtime.NumGoroutine") = false := by kernel_rfl
theorem nm104 : (Tryd.f104.name == "runtime.NumGoroutine") = false := by kernel_rfl
theorem nm105 : (Tryd.f105.name == "runtime.NumGoroutine") = false := by kernel_rfl
theorem nm106 : (Tryd.f106.name == "runtime.NumGoroutine") = false := by kernel_rfl
theorem nm107 : (Tryd.f107.name == "runtime.NumGoroutine") = false := by kernel_rfl
theorem nm108 : (Tryd.f108.name == "runtime.NumGoroutine") = false := by kernel_rfl
theorem nm109 : (Tryd.f109.name == "runtime.NumGoroutine") = false := by kernel_rfl
theorem nm110 : (Tryd.f110.name == "runtime.NumGoroutine") = false := by kernel_rfl
theorem nm111 : (Tryd.f111.name == "runtime.NumGoroutine") = false := by kernel_rfl
theorem nm112 : (Tryd.f112.name == "runtime.NumGoroutine") = false := by kernel_rfl
theorem nm113 : (Tryd.f113.name == "runtime.NumGoroutine") = false := by kernel_rfl
theorem nm114 : (Tryd.f114.name == "runtime.NumGoroutine") = false := by kernel_rfl
theorem nm115 : (Tryd.f115.name == "runtime.NumGoroutine") = false := by kernel_rfl
theorem nm116 : (Tryd.f116.name == "runtime.NumGoroutine") = false := by kernel_rfl
theorem nm117 : (Tryd.f117.name == "runtime.NumGoroutine") = false := by kernel_rfl
theorem nm118 : (Tryd.f118.name == "runtime.NumGoroutine") = false := by kernel_rfl
theorem nm119 : (Tryd.f119.name == "runtime.NumGoroutine") = false := by kernel_rfl
theorem nm120 : (Tryd.f120.name == "runtime.NumGoroutine") = false := by kernel_rfl
theorem nm121 : (Tryd.f121.name == "runtime.NumGoroutine") = false := by kernel_rfl
theorem nm122 : (Tryd.f122.name == "runtime.NumGoroutine") = false := by kernel_rfl
theorem nm123 : (Tryd.f123.name == "runtime.NumGoroutine") = false := by kernel_rfl
theorem nm124 : (Tryd.f124.name == "runtime.NumGoroutine") = false := by kernel_rfl
theorem nm125 : (Tryd.f125.name == "runtime.NumGoroutine") = false := by kernel_rfl
theorem nm126 : (Tryd.f126.name == "runtime.NumGoroutine") = false := by kernel_rfl
theorem nm127 : (Tryd.f127.name == "runtime.NumGoroutine") = false := by kernel_rfl
def g_pow10 : VP := gv Tryd.prog "internal/strconv.uint64pow10" 2 (by kernel_rfl) fun cs => cs = (Lib.pow10Tab.map fun z => Value.int .u64 z).toArray
def g_errs : VP := gv Tryd.prog "strconv.ErrSyntax" 0 (by kernel_rfl) fun cs => ∃ tp p, cs = #[.iface tp p]
end Go.Proofs.YtgcigcbhilcgoaaDoor.Gx
