/- The plain types of this seat's program: how they lie in memory. -/
import Derived.Test.YtanimjbmkhpnaaaProg
import Derived.Test.YtanimjbmkhpnaaaHRow
set_option linter.unusedVariables false
set_option linter.unusedSimpArgs false
namespace Go.Proofs.Ytanimjbmkhpnaaa.Gx
open Go.Gx Go.RowKit
structure runtime_boundsError where
  x : Int
  y : Int
  signed : Bool
  code : Int
def k_runtime_boundsError : Kind runtime_boundsError := kIso (kPair (kInt .i64) (kPair (kInt .i64) (kPair kBool (kInt .u8)))) (fun x => (x.x, x.y, x.signed, x.code))
theorem k_runtime_boundsError_opens : Opens k_runtime_boundsError (fun (x : runtime_boundsError) (_t : Unit) => [.int .i64 x.x, .int .i64 x.y, .bool x.signed, .int .u8 x.code]) (fun (_x : runtime_boundsError) (_t : Unit) => []) := opens_map (opens_iso (opens_pair (opens_int .i64) (opens_pair (opens_int .i64) (opens_pair opens_bool (opens_int .u8))))) (fun _ => ()) (fun _ _ => rfl) (fun _ _ => rfl)
theorem k_runtime_boundsError_shuts : Shuts k_runtime_boundsError (fun (x : runtime_boundsError) (_t : Unit) => [.int .i64 x.x, .int .i64 x.y, .bool x.signed, .int .u8 x.code]) (fun (_x : runtime_boundsError) (_t : Unit) => []) := shuts_map (shuts_iso (shuts_pair (shuts_int .i64) (shuts_pair (shuts_int .i64) (shuts_pair shuts_bool (shuts_int .u8))))) (fun _ => ((), ((), ((), ())))) (fun _ _ => rfl) (fun _ _ => rfl)
theorem k_runtime_boundsError_opensO : OpensO k_runtime_boundsError (fun (x : runtime_boundsError) (_t : Unit) => [.int .i64 x.x, .int .i64 x.y, .bool x.signed, .int .u8 x.code]) (fun (_x : runtime_boundsError) (_t : Unit) => []) (fun (_x : runtime_boundsError) (_t : Unit) => []) := opensO_map (opensO_iso (opensO_pair (opensO_int .i64) (opensO_pair (opensO_int .i64) (opensO_pair opensO_bool (opensO_int .u8))))) (fun _ => ()) (fun _ _ => rfl) (fun _ _ => rfl) (fun _ _ => rfl)
theorem k_runtime_boundsError_shutsO : ShutsO k_runtime_boundsError (fun (x : runtime_boundsError) (_t : Unit) => [.int .i64 x.x, .int .i64 x.y, .bool x.signed, .int .u8 x.code]) (fun (_x : runtime_boundsError) (_t : Unit) => []) (fun (_x : runtime_boundsError) (_t : Unit) => []) := shutsO_map (shutsO_iso (shutsO_pair (shutsO_int .i64) (shutsO_pair (shutsO_int .i64) (shutsO_pair shutsO_bool (shutsO_int .u8))))) (fun _ => ((), ((), ((), ())))) (fun _ _ => rfl) (fun _ _ => rfl) (fun _ _ => rfl)
theorem k_runtime_boundsError_flatK : FlatK k_runtime_boundsError := (flatK_iso (flatK_pair (flatK_int .i64) (flatK_pair (flatK_int .i64) (flatK_pair flatK_bool (flatK_int .u8)))))
theorem k_runtime_boundsError_indK : IndK k_runtime_boundsError := (indK_iso (indK_pair (indK_int .i64) (indK_pair (indK_int .i64) (indK_pair indK_bool (indK_int .u8)))))
structure runtime_errorAddressString where
  msg : ByteArray
  addr : Int
def k_runtime_errorAddressString : Kind runtime_errorAddressString := kIso (kPair kStr (kInt .u64)) (fun x => (x.msg, x.addr))
theorem k_runtime_errorAddressString_opens : Opens k_runtime_errorAddressString (fun (x : runtime_errorAddressString) (_t : Unit) => [.string x.msg, .int .u64 x.addr]) (fun (_x : runtime_errorAddressString) (_t : Unit) => []) := opens_map (opens_iso (opens_pair opens_str (opens_int .u64))) (fun _ => ()) (fun _ _ => rfl) (fun _ _ => rfl)
theorem k_runtime_errorAddressString_shuts : Shuts k_runtime_errorAddressString (fun (x : runtime_errorAddressString) (_t : Unit) => [.string x.msg, .int .u64 x.addr]) (fun (_x : runtime_errorAddressString) (_t : Unit) => []) := shuts_map (shuts_iso (shuts_pair shuts_str (shuts_int .u64))) (fun _ => ((), ())) (fun _ _ => rfl) (fun _ _ => rfl)
theorem k_runtime_errorAddressString_opensO : OpensO k_runtime_errorAddressString (fun (x : runtime_errorAddressString) (_t : Unit) => [.string x.msg, .int .u64 x.addr]) (fun (_x : runtime_errorAddressString) (_t : Unit) => []) (fun (_x : runtime_errorAddressString) (_t : Unit) => []) := opensO_map (opensO_iso (opensO_pair opensO_str (opensO_int .u64))) (fun _ => ()) (fun _ _ => rfl) (fun _ _ => rfl) (fun _ _ => rfl)
theorem k_runtime_errorAddressString_shutsO : ShutsO k_runtime_errorAddressString (fun (x : runtime_errorAddressString) (_t : Unit) => [.string x.msg, .int .u64 x.addr]) (fun (_x : runtime_errorAddressString) (_t : Unit) => []) (fun (_x : runtime_errorAddressString) (_t : Unit) => []) := shutsO_map (shutsO_iso (shutsO_pair shutsO_str (shutsO_int .u64))) (fun _ => ((), ())) (fun _ _ => rfl) (fun _ _ => rfl) (fun _ _ => rfl)
theorem k_runtime_errorAddressString_flatK : FlatK k_runtime_errorAddressString := (flatK_iso (flatK_pair flatK_str (flatK_int .u64)))
theorem k_runtime_errorAddressString_indK : IndK k_runtime_errorAddressString := (indK_iso (indK_pair indK_str (indK_int .u64)))
structure api_File where
  Dev : Int
  Ino : Int
def k_api_File : Kind api_File := kIso (kPair (kInt .i64) (kInt .i64)) (fun x => (x.Dev, x.Ino))
theorem k_api_File_opens : Opens k_api_File (fun (x : api_File) (_t : Unit) => [.int .i64 x.Dev, .int .i64 x.Ino]) (fun (_x : api_File) (_t : Unit) => []) := opens_map (opens_iso (opens_pair (opens_int .i64) (opens_int .i64))) (fun _ => ()) (fun _ _ => rfl) (fun _ _ => rfl)
theorem k_api_File_shuts : Shuts k_api_File (fun (x : api_File) (_t : Unit) => [.int .i64 x.Dev, .int .i64 x.Ino]) (fun (_x : api_File) (_t : Unit) => []) := shuts_map (shuts_iso (shuts_pair (shuts_int .i64) (shuts_int .i64))) (fun _ => ((), ())) (fun _ _ => rfl) (fun _ _ => rfl)
theorem k_api_File_opensO : OpensO k_api_File (fun (x : api_File) (_t : Unit) => [.int .i64 x.Dev, .int .i64 x.Ino]) (fun (_x : api_File) (_t : Unit) => []) (fun (_x : api_File) (_t : Unit) => []) := opensO_map (opensO_iso (opensO_pair (opensO_int .i64) (opensO_int .i64))) (fun _ => ()) (fun _ _ => rfl) (fun _ _ => rfl) (fun _ _ => rfl)
theorem k_api_File_shutsO : ShutsO k_api_File (fun (x : api_File) (_t : Unit) => [.int .i64 x.Dev, .int .i64 x.Ino]) (fun (_x : api_File) (_t : Unit) => []) (fun (_x : api_File) (_t : Unit) => []) := shutsO_map (shutsO_iso (shutsO_pair (shutsO_int .i64) (shutsO_int .i64))) (fun _ => ((), ())) (fun _ _ => rfl) (fun _ _ => rfl) (fun _ _ => rfl)
theorem k_api_File_flatK : FlatK k_api_File := (flatK_iso (flatK_pair (flatK_int .i64) (flatK_int .i64)))
theorem k_api_File_indK : IndK k_api_File := (indK_iso (indK_pair (indK_int .i64) (indK_int .i64)))
structure api_Descriptor where
  FD : Int
  File : api_File
  Flags : Int
def k_api_Descriptor : Kind api_Descriptor := kIso (kPair (kInt .i64) (kPair k_api_File (kInt .i64))) (fun x => (x.FD, x.File, x.Flags))
theorem k_api_Descriptor_opens : Opens k_api_Descriptor (fun (x : api_Descriptor) (_t : Unit) => [.int .i64 x.FD, .int .i64 x.File.Dev, .int .i64 x.File.Ino, .int .i64 x.Flags]) (fun (_x : api_Descriptor) (_t : Unit) => []) := opens_map (opens_iso (opens_pair (opens_int .i64) (opens_pair k_api_File_opens (opens_int .i64)))) (fun _ => ()) (fun _ _ => rfl) (fun _ _ => rfl)
theorem k_api_Descriptor_shuts : Shuts k_api_Descriptor (fun (x : api_Descriptor) (_t : Unit) => [.int .i64 x.FD, .int .i64 x.File.Dev, .int .i64 x.File.Ino, .int .i64 x.Flags]) (fun (_x : api_Descriptor) (_t : Unit) => []) := shuts_map (shuts_iso (shuts_pair (shuts_int .i64) (shuts_pair k_api_File_shuts (shuts_int .i64)))) (fun _ => ((), ((), ()))) (fun _ _ => rfl) (fun _ _ => rfl)
theorem k_api_Descriptor_opensO : OpensO k_api_Descriptor (fun (x : api_Descriptor) (_t : Unit) => [.int .i64 x.FD, .int .i64 x.File.Dev, .int .i64 x.File.Ino, .int .i64 x.Flags]) (fun (_x : api_Descriptor) (_t : Unit) => []) (fun (_x : api_Descriptor) (_t : Unit) => []) := opensO_map (opensO_iso (opensO_pair (opensO_int .i64) (opensO_pair k_api_File_opensO (opensO_int .i64)))) (fun _ => ()) (fun _ _ => rfl) (fun _ _ => rfl) (fun _ _ => rfl)
theorem k_api_Descriptor_shutsO : ShutsO k_api_Descriptor (fun (x : api_Descriptor) (_t : Unit) => [.int .i64 x.FD, .int .i64 x.File.Dev, .int .i64 x.File.Ino, .int .i64 x.Flags]) (fun (_x : api_Descriptor) (_t : Unit) => []) (fun (_x : api_Descriptor) (_t : Unit) => []) := shutsO_map (shutsO_iso (shutsO_pair (shutsO_int .i64) (shutsO_pair k_api_File_shutsO (shutsO_int .i64)))) (fun _ => ((), ((), ()))) (fun _ _ => rfl) (fun _ _ => rfl) (fun _ _ => rfl)
theorem k_api_Descriptor_flatK : FlatK k_api_Descriptor := (flatK_iso (flatK_pair (flatK_int .i64) (flatK_pair k_api_File_flatK (flatK_int .i64))))
theorem k_api_Descriptor_indK : IndK k_api_Descriptor := (indK_iso (indK_pair (indK_int .i64) (indK_pair k_api_File_indK (indK_int .i64))))
structure api_Process where
  PID : Int
  PPID : Int
  UID : Int
  EUID : Int
  GID : Int
  EGID : Int
  AUID : Int
  Session : Int
  Cwd : api_File
  Comm : ByteArray
  Exe : ByteArray
  Open : (List api_Descriptor)
  Audited : Bool
def k_api_Process : Kind api_Process := kIso (kPair (kInt .i64) (kPair (kInt .i64) (kPair (kInt .i64) (kPair (kInt .i64) (kPair (kInt .i64) (kPair (kInt .i64) (kPair (kInt .i64) (kPair (kInt .i64) (kPair k_api_File (kPair kStr (kPair kStr (kPair (kSlice 81 k_api_Descriptor) kBool)))))))))))) (fun x => (x.PID, x.PPID, x.UID, x.EUID, x.GID, x.EGID, x.AUID, x.Session, x.Cwd, x.Comm, x.Exe, x.Open, x.Audited))
theorem k_api_Process_opens : Opens k_api_Process (fun (x : api_Process) (t : (Option Addr × Nat × Nat)) => [.int .i64 x.PID, .int .i64 x.PPID, .int .i64 x.UID, .int .i64 x.EUID, .int .i64 x.GID, .int .i64 x.EGID, .int .i64 x.AUID, .int .i64 x.Session, .int .i64 x.Cwd.Dev, .int .i64 x.Cwd.Ino, .string x.Comm, .string x.Exe, .slice t.1 t.2.1 t.2.2, .bool x.Audited]) (fun (x : api_Process) (t : (Option Addr × Nat × Nat)) => [vw (kSlice 81 k_api_Descriptor) x.Open [.slice t.1 t.2.1 t.2.2]]) := opens_map (opens_iso (opens_pair (opens_int .i64) (opens_pair (opens_int .i64) (opens_pair (opens_int .i64) (opens_pair (opens_int .i64) (opens_pair (opens_int .i64) (opens_pair (opens_int .i64) (opens_pair (opens_int .i64) (opens_pair (opens_int .i64) (opens_pair k_api_File_opens (opens_pair opens_str (opens_pair opens_str (opens_pair (opens_slice 81 k_api_Descriptor) opens_bool))))))))))))) (fun t => t.2.2.2.2.2.2.2.2.2.2.2.1) (fun _ _ => rfl) (fun _ _ => rfl)
theorem k_api_Process_shuts : Shuts k_api_Process (fun (x : api_Process) (t : (Option Addr × Nat × Nat)) => [.int .i64 x.PID, .int .i64 x.PPID, .int .i64 x.UID, .int .i64 x.EUID, .int .i64 x.GID, .int .i64 x.EGID, .int .i64 x.AUID, .int .i64 x.Session, .int .i64 x.Cwd.Dev, .int .i64 x.Cwd.Ino, .string x.Comm, .string x.Exe, .slice t.1 t.2.1 t.2.2, .bool x.Audited]) (fun (x : api_Process) (t : (Option Addr × Nat × Nat)) => [vw (kSlice 81 k_api_Descriptor) x.Open [.slice t.1 t.2.1 t.2.2]]) := shuts_map (shuts_iso (shuts_pair (shuts_int .i64) (shuts_pair (shuts_int .i64) (shuts_pair (shuts_int .i64) (shuts_pair (shuts_int .i64) (shuts_pair (shuts_int .i64) (shuts_pair (shuts_int .i64) (shuts_pair (shuts_int .i64) (shuts_pair (shuts_int .i64) (shuts_pair k_api_File_shuts (shuts_pair shuts_str (shuts_pair shuts_str (shuts_pair (shuts_slice 81 k_api_Descriptor) shuts_bool))))))))))))) (fun t => ((), ((), ((), ((), ((), ((), ((), ((), ((), ((), ((), (t, ()))))))))))))) (fun _ _ => rfl) (fun _ _ => rfl)
theorem k_api_Process_opensO : OpensO k_api_Process (fun (x : api_Process) (t : (Option Addr × Nat × Nat)) => [.int .i64 x.PID, .int .i64 x.PPID, .int .i64 x.UID, .int .i64 x.EUID, .int .i64 x.GID, .int .i64 x.EGID, .int .i64 x.AUID, .int .i64 x.Session, .int .i64 x.Cwd.Dev, .int .i64 x.Cwd.Ino, .string x.Comm, .string x.Exe, .slice t.1 t.2.1 t.2.2, .bool x.Audited]) (fun (x : api_Process) (t : (Option Addr × Nat × Nat)) => [[row 81 k_api_Descriptor x.Open (.slice t.1 t.2.1 t.2.2)]]) (fun (_x : api_Process) (_t : (Option Addr × Nat × Nat)) => []) := opensO_map (opensO_iso (opensO_pair (opensO_int .i64) (opensO_pair (opensO_int .i64) (opensO_pair (opensO_int .i64) (opensO_pair (opensO_int .i64) (opensO_pair (opensO_int .i64) (opensO_pair (opensO_int .i64) (opensO_pair (opensO_int .i64) (opensO_pair (opensO_int .i64) (opensO_pair k_api_File_opensO (opensO_pair opensO_str (opensO_pair opensO_str (opensO_pair (opensO_slice 81 k_api_Descriptor) opensO_bool))))))))))))) (fun t => t.2.2.2.2.2.2.2.2.2.2.2.1) (fun _ _ => rfl) (fun _ _ => rfl) (fun _ _ => rfl)
theorem k_api_Process_shutsO : ShutsO k_api_Process (fun (x : api_Process) (t : (Option Addr × Nat × Nat)) => [.int .i64 x.PID, .int .i64 x.PPID, .int .i64 x.UID, .int .i64 x.EUID, .int .i64 x.GID, .int .i64 x.EGID, .int .i64 x.AUID, .int .i64 x.Session, .int .i64 x.Cwd.Dev, .int .i64 x.Cwd.Ino, .string x.Comm, .string x.Exe, .slice t.1 t.2.1 t.2.2, .bool x.Audited]) (fun (x : api_Process) (t : (Option Addr × Nat × Nat)) => [[row 81 k_api_Descriptor x.Open (.slice t.1 t.2.1 t.2.2)]]) (fun (_x : api_Process) (_t : (Option Addr × Nat × Nat)) => []) := shutsO_map (shutsO_iso (shutsO_pair (shutsO_int .i64) (shutsO_pair (shutsO_int .i64) (shutsO_pair (shutsO_int .i64) (shutsO_pair (shutsO_int .i64) (shutsO_pair (shutsO_int .i64) (shutsO_pair (shutsO_int .i64) (shutsO_pair (shutsO_int .i64) (shutsO_pair (shutsO_int .i64) (shutsO_pair k_api_File_shutsO (shutsO_pair shutsO_str (shutsO_pair shutsO_str (shutsO_pair (shutsO_slice 81 k_api_Descriptor) shutsO_bool))))))))))))) (fun t => ((), ((), ((), ((), ((), ((), ((), ((), ((), ((), ((), (t, ()))))))))))))) (fun _ _ => rfl) (fun _ _ => rfl) (fun _ _ => rfl)
theorem k_api_Process_indK : IndK k_api_Process := (indK_iso (indK_pair (indK_int .i64) (indK_pair (indK_int .i64) (indK_pair (indK_int .i64) (indK_pair (indK_int .i64) (indK_pair (indK_int .i64) (indK_pair (indK_int .i64) (indK_pair (indK_int .i64) (indK_pair (indK_int .i64) (indK_pair k_api_File_indK (indK_pair indK_str (indK_pair indK_str (indK_pair (indK_slice 81 k_api_Descriptor_indK) indK_bool)))))))))))))
structure api_Table where
  Next : Int
  NextSession : Int
  Processes : (List api_Process)
def k_api_Table : Kind api_Table := kIso (kPair (kInt .i64) (kPair (kInt .i64) (kSlice 38 k_api_Process))) (fun x => (x.Next, x.NextSession, x.Processes))
theorem k_api_Table_opens : Opens k_api_Table (fun (x : api_Table) (t : (Option Addr × Nat × Nat)) => [.int .i64 x.Next, .int .i64 x.NextSession, .slice t.1 t.2.1 t.2.2]) (fun (x : api_Table) (t : (Option Addr × Nat × Nat)) => [vw (kSlice 38 k_api_Process) x.Processes [.slice t.1 t.2.1 t.2.2]]) := opens_map (opens_iso (opens_pair (opens_int .i64) (opens_pair (opens_int .i64) (opens_slice 38 k_api_Process)))) (fun t => t.2.2) (fun _ _ => rfl) (fun _ _ => rfl)
theorem k_api_Table_shuts : Shuts k_api_Table (fun (x : api_Table) (t : (Option Addr × Nat × Nat)) => [.int .i64 x.Next, .int .i64 x.NextSession, .slice t.1 t.2.1 t.2.2]) (fun (x : api_Table) (t : (Option Addr × Nat × Nat)) => [vw (kSlice 38 k_api_Process) x.Processes [.slice t.1 t.2.1 t.2.2]]) := shuts_map (shuts_iso (shuts_pair (shuts_int .i64) (shuts_pair (shuts_int .i64) (shuts_slice 38 k_api_Process)))) (fun t => ((), ((), t))) (fun _ _ => rfl) (fun _ _ => rfl)
theorem k_api_Table_opensO : OpensO k_api_Table (fun (x : api_Table) (t : (Option Addr × Nat × Nat)) => [.int .i64 x.Next, .int .i64 x.NextSession, .slice t.1 t.2.1 t.2.2]) (fun (x : api_Table) (t : (Option Addr × Nat × Nat)) => [[row 38 k_api_Process x.Processes (.slice t.1 t.2.1 t.2.2)]]) (fun (_x : api_Table) (_t : (Option Addr × Nat × Nat)) => []) := opensO_map (opensO_iso (opensO_pair (opensO_int .i64) (opensO_pair (opensO_int .i64) (opensO_slice 38 k_api_Process)))) (fun t => t.2.2) (fun _ _ => rfl) (fun _ _ => rfl) (fun _ _ => rfl)
theorem k_api_Table_shutsO : ShutsO k_api_Table (fun (x : api_Table) (t : (Option Addr × Nat × Nat)) => [.int .i64 x.Next, .int .i64 x.NextSession, .slice t.1 t.2.1 t.2.2]) (fun (x : api_Table) (t : (Option Addr × Nat × Nat)) => [[row 38 k_api_Process x.Processes (.slice t.1 t.2.1 t.2.2)]]) (fun (_x : api_Table) (_t : (Option Addr × Nat × Nat)) => []) := shutsO_map (shutsO_iso (shutsO_pair (shutsO_int .i64) (shutsO_pair (shutsO_int .i64) (shutsO_slice 38 k_api_Process)))) (fun t => ((), ((), t))) (fun _ _ => rfl) (fun _ _ => rfl) (fun _ _ => rfl)
theorem k_api_Table_indK : IndK k_api_Table := (indK_iso (indK_pair (indK_int .i64) (indK_pair (indK_int .i64) (indK_slice 38 k_api_Process_indK))))
structure kauditmake_Src where
  l : (List Int)
  at_ : Int
def k_kauditmake_Src : Kind kauditmake_Src := kIso (kPair (kSlice 3 (kInt .i64)) (kInt .i64)) (fun x => (x.l, x.at_))
theorem k_kauditmake_Src_opens : Opens k_kauditmake_Src (fun (x : kauditmake_Src) (t : (Option Addr × Nat × Nat)) => [.slice t.1 t.2.1 t.2.2, .int .i64 x.at_]) (fun (x : kauditmake_Src) (t : (Option Addr × Nat × Nat)) => [vw (kSlice 3 (kInt .i64)) x.l [.slice t.1 t.2.1 t.2.2]]) := opens_map (opens_iso (opens_pair (opens_slice 3 (kInt .i64)) (opens_int .i64))) (fun t => t.1) (fun _ _ => rfl) (fun _ _ => rfl)
theorem k_kauditmake_Src_shuts : Shuts k_kauditmake_Src (fun (x : kauditmake_Src) (t : (Option Addr × Nat × Nat)) => [.slice t.1 t.2.1 t.2.2, .int .i64 x.at_]) (fun (x : kauditmake_Src) (t : (Option Addr × Nat × Nat)) => [vw (kSlice 3 (kInt .i64)) x.l [.slice t.1 t.2.1 t.2.2]]) := shuts_map (shuts_iso (shuts_pair (shuts_slice 3 (kInt .i64)) (shuts_int .i64))) (fun t => (t, ())) (fun _ _ => rfl) (fun _ _ => rfl)
theorem k_kauditmake_Src_opensO : OpensO k_kauditmake_Src (fun (x : kauditmake_Src) (t : (Option Addr × Nat × Nat)) => [.slice t.1 t.2.1 t.2.2, .int .i64 x.at_]) (fun (x : kauditmake_Src) (t : (Option Addr × Nat × Nat)) => [[row 3 (kInt .i64) x.l (.slice t.1 t.2.1 t.2.2)]]) (fun (_x : kauditmake_Src) (_t : (Option Addr × Nat × Nat)) => []) := opensO_map (opensO_iso (opensO_pair (opensO_slice 3 (kInt .i64)) (opensO_int .i64))) (fun t => t.1) (fun _ _ => rfl) (fun _ _ => rfl) (fun _ _ => rfl)
theorem k_kauditmake_Src_shutsO : ShutsO k_kauditmake_Src (fun (x : kauditmake_Src) (t : (Option Addr × Nat × Nat)) => [.slice t.1 t.2.1 t.2.2, .int .i64 x.at_]) (fun (x : kauditmake_Src) (t : (Option Addr × Nat × Nat)) => [[row 3 (kInt .i64) x.l (.slice t.1 t.2.1 t.2.2)]]) (fun (_x : kauditmake_Src) (_t : (Option Addr × Nat × Nat)) => []) := shutsO_map (shutsO_iso (shutsO_pair (shutsO_slice 3 (kInt .i64)) (shutsO_int .i64))) (fun t => (t, ())) (fun _ _ => rfl) (fun _ _ => rfl) (fun _ _ => rfl)
theorem k_kauditmake_Src_indK : IndK k_kauditmake_Src := (indK_iso (indK_pair (indK_slice 3 (indK_int .i64)) (indK_int .i64)))
theorem ti2 : TI Try.prog 2 (.int .i64 0) 1 8 := by unfold TI; kernel_rfl
theorem ti3 : TI Try.prog 3 (.int .i64 0) 1 8 := by unfold TI; kernel_rfl
theorem ti4 : TI Try.prog 4 (.bool false) 1 1 := by unfold TI; kernel_rfl
theorem ti5 : TI Try.prog 5 (.int .u8 0) 1 1 := by unfold TI; kernel_rfl
theorem ti6 : TI Try.prog 6 (.int .u8 0) 1 1 := by unfold TI; kernel_rfl
theorem ti7 : TI Try.prog 7 (.agg #[.int .i64 0, .int .i64 0, .bool false, .int .u8 0]) 4 24 := by unfold TI; kernel_rfl
theorem ti8 : TI Try.prog 8 (.agg #[.int .i64 0, .int .i64 0, .bool false, .int .u8 0]) 4 24 := by unfold TI; kernel_rfl
theorem ti9 : TI Try.prog 9 (.string (⟨#[]⟩ : ByteArray)) 1 16 := by unfold TI; kernel_rfl
theorem ti10 : TI Try.prog 10 (.string (⟨#[]⟩ : ByteArray)) 1 16 := by unfold TI; kernel_rfl
theorem ti11 : TI Try.prog 11 (.string (⟨#[]⟩ : ByteArray)) 1 16 := by unfold TI; kernel_rfl
theorem ti12 : TI Try.prog 12 (.int .u64 0) 1 8 := by unfold TI; kernel_rfl
theorem ti13 : TI Try.prog 13 (.agg #[.string (⟨#[]⟩ : ByteArray), .int .u64 0]) 2 24 := by unfold TI; kernel_rfl
theorem ti14 : TI Try.prog 14 (.agg #[.string (⟨#[]⟩ : ByteArray), .int .u64 0]) 2 24 := by unfold TI; kernel_rfl
theorem ti15 : TI Try.prog 15 (.pointer none) 1 8 := by unfold TI; kernel_rfl
theorem ti16 : TI Try.prog 16 (.pointer none) 1 8 := by unfold TI; kernel_rfl
theorem ti17 : TI Try.prog 17 (.pointer none) 1 8 := by unfold TI; kernel_rfl
theorem ti18 : TI Try.prog 18 (.agg #[.pointer none]) 1 8 := by unfold TI; kernel_rfl
theorem ti19 : TI Try.prog 19 (.agg #[.pointer none]) 1 8 := by unfold TI; kernel_rfl
theorem ti21 : TI Try.prog 21 (.int .i32 0) 1 4 := by unfold TI; kernel_rfl
theorem ti22 : TI Try.prog 22 (.slice none 0 0) 1 24 := by unfold TI; kernel_rfl
theorem ti23 : TI Try.prog 23 (.int .u16 0) 1 2 := by unfold TI; kernel_rfl
theorem ti24 : TI Try.prog 24 (.pointer none) 1 8 := by unfold TI; kernel_rfl
theorem ti26 : TI Try.prog 26 (.slice none 0 0) 1 24 := by unfold TI; kernel_rfl
theorem ti27 : TI Try.prog 27 (.agg #[.int .i64 0, .int .i64 0, .slice none 0 0]) 3 40 := by unfold TI; kernel_rfl
theorem ti28 : TI Try.prog 28 (.agg #[.int .i64 0, .int .i64 0, .slice none 0 0]) 3 40 := by unfold TI; kernel_rfl
theorem ti30 : TI Try.prog 30 (.agg #[.int .i64 0, .int .i64 0]) 2 16 := by unfold TI; kernel_rfl
theorem ti31 : TI Try.prog 31 (.agg #[.int .i64 0, .int .i64 0]) 2 16 := by unfold TI; kernel_rfl
theorem ti32 : TI Try.prog 32 (.int .i64 0) 1 8 := by unfold TI; kernel_rfl
theorem ti36 : TI Try.prog 36 (.slice none 0 0) 1 24 := by unfold TI; kernel_rfl
theorem ti37 : TI Try.prog 37 (.agg #[.int .i64 0, .int .i64 0, .int .i64 0, .int .i64 0, .int .i64 0, .int .i64 0, .int .i64 0, .int .i64 0, .int .i64 0, .int .i64 0, .string (⟨#[]⟩ : ByteArray), .string (⟨#[]⟩ : ByteArray), .slice none 0 0, .bool false]) 14 144 := by unfold TI; kernel_rfl
theorem ti38 : TI Try.prog 38 (.agg #[.int .i64 0, .int .i64 0, .int .i64 0, .int .i64 0, .int .i64 0, .int .i64 0, .int .i64 0, .int .i64 0, .int .i64 0, .int .i64 0, .string (⟨#[]⟩ : ByteArray), .string (⟨#[]⟩ : ByteArray), .slice none 0 0, .bool false]) 14 144 := by unfold TI; kernel_rfl
theorem ti56 : TI Try.prog 56 (.agg #[.bool false, .bool false, .bool false, .bool false, .bool false, .bool false, .bool false, .bool false]) 8 8 := by unfold TI; kernel_rfl
theorem ti58 : TI Try.prog 58 (.agg #[.slice none 0 0, .int .i64 0]) 2 32 := by unfold TI; kernel_rfl
theorem ti59 : TI Try.prog 59 (.agg #[.slice none 0 0, .int .i64 0]) 2 32 := by unfold TI; kernel_rfl
theorem ti61 : TI Try.prog 61 (.pointer none) 1 8 := by unfold TI; kernel_rfl
theorem ti62 : TI Try.prog 62 (.pointer none) 1 8 := by unfold TI; kernel_rfl
theorem ti67 : TI Try.prog 67 (.pointer none) 1 8 := by unfold TI; kernel_rfl
theorem ti73 : TI Try.prog 73 (.slice none 0 0) 1 24 := by unfold TI; kernel_rfl
theorem ti80 : TI Try.prog 80 (.agg #[.int .i64 0, .int .i64 0, .int .i64 0, .int .i64 0]) 4 32 := by unfold TI; kernel_rfl
theorem ti81 : TI Try.prog 81 (.agg #[.int .i64 0, .int .i64 0, .int .i64 0, .int .i64 0]) 4 32 := by unfold TI; kernel_rfl
theorem ti100 : TI Try.prog 100 (.int .u64 0) 1 8 := by unfold TI; kernel_rfl
theorem ti104 : TI Try.prog 104 (.agg #[.pointer none, .pointer none, .pointer none, .string (⟨#[]⟩ : ByteArray)]) 4 40 := by unfold TI; kernel_rfl
theorem ti105 : TI Try.prog 105 (.agg #[.pointer none, .pointer none, .pointer none, .string (⟨#[]⟩ : ByteArray)]) 4 40 := by unfold TI; kernel_rfl
theorem ti106 : TI Try.prog 106 (.agg #[]) 0 0 := by unfold TI; kernel_rfl
theorem ti107 : TI Try.prog 107 (.agg #[]) 0 0 := by unfold TI; kernel_rfl
theorem ti108 : TI Try.prog 108 (.agg #[]) 0 0 := by unfold TI; kernel_rfl
theorem ti110 : TI Try.prog 110 (.int .u32 0) 1 4 := by unfold TI; kernel_rfl
theorem ti111 : TI Try.prog 111 (.int .u8 0) 1 1 := by unfold TI; kernel_rfl
theorem ti112 : TI Try.prog 112 (.int .u8 0) 1 1 := by unfold TI; kernel_rfl
theorem ti114 : TI Try.prog 114 (.pointer none) 1 8 := by unfold TI; kernel_rfl
theorem ti115 : TI Try.prog 115 (.int .i32 0) 1 4 := by unfold TI; kernel_rfl
theorem ti116 : TI Try.prog 116 (.int .i32 0) 1 4 := by unfold TI; kernel_rfl
theorem mixed : Try.prog.follows .mixedOrders = true := by kernel_rfl
theorem nm3 : (Try.f3.name == "runtime.NumGoroutine") = false := by kernel_rfl
theorem nm4 : (Try.f4.name == "runtime.NumGoroutine") = false := by kernel_rfl
theorem nm5 : (Try.f5.name == "runtime.NumGoroutine") = false := by kernel_rfl
theorem nm6 : (Try.f6.name == "runtime.NumGoroutine") = false := by kernel_rfl
theorem nm7 : (Try.f7.name == "runtime.NumGoroutine") = false := by kernel_rfl
theorem nm8 : (Try.f8.name == "runtime.NumGoroutine") = false := by kernel_rfl
theorem nm9 : (Try.f9.name == "runtime.NumGoroutine") = false := by kernel_rfl
theorem nm10 : (Try.f10.name == "runtime.NumGoroutine") = false := by kernel_rfl
theorem nm11 : (Try.f11.name == "runtime.NumGoroutine") = false := by kernel_rfl
theorem nm12 : (Try.f12.name == "runtime.NumGoroutine") = false := by kernel_rfl
theorem nm13 : (Try.f13.name == "runtime.NumGoroutine") = false := by kernel_rfl
theorem nm14 : (Try.f14.name == "runtime.NumGoroutine") = false := by kernel_rfl
theorem nm15 : (Try.f15.name == "runtime.NumGoroutine") = false := by kernel_rfl
theorem nm16 : (Try.f16.name == "runtime.NumGoroutine") = false := by kernel_rfl
theorem nm17 : (Try.f17.name == "runtime.NumGoroutine") = false := by kernel_rfl
theorem nm18 : (Try.f18.name == "runtime.NumGoroutine") = false := by kernel_rfl
theorem nm19 : (Try.f19.name == "runtime.NumGoroutine") = false := by kernel_rfl
theorem nm20 : (Try.f20.name == "runtime.NumGoroutine") = false := by kernel_rfl
theorem nm21 : (Try.f21.name == "runtime.NumGoroutine") = false := by kernel_rfl
theorem nm22 : (Try.f22.name == "runtime.NumGoroutine") = false := by kernel_rfl
theorem nm23 : (Try.f23.name == "runtime.NumGoroutine") = false := by kernel_rfl
theorem nm24 : (Try.f24.name == "runtime.NumGoroutine") = false := by kernel_rfl
theorem nm25 : (Try.f25.name == "runtime.NumGoroutine") = false := by kernel_rfl
theorem nm26 : (Try.f26.name == "runtime.NumGoroutine") = false := by kernel_rfl
theorem nm27 : (Try.f27.name == "runtime.NumGoroutine") = false := by kernel_rfl
theorem nm28 : (Try.f28.name == "runtime.NumGoroutine") = false := by kernel_rfl
theorem nm29 : (Try.f29.name == "runtime.NumGoroutine") = false := by kernel_rfl
theorem nm30 : (Try.f30.name == "runtime.NumGoroutine") = false := by kernel_rfl
theorem nm31 : (Try.f31.name == "runtime.NumGoroutine") = false := by kernel_rfl
theorem nm32 : (Try.f32.name == "runtime.NumGoroutine") = false := by kernel_rfl
theorem nm33 : (Try.f33.name == "runtime.NumGoroutine") = false := by kernel_rfl
theorem nm34 : (Try.f34.name == "runtime.NumGoroutine") = false := by kernel_rfl
theorem nm35 : (Try.f35.name == "runtime.NumGoroutine") = false := by kernel_rfl
theorem nm36 : (Try.f36.name == "runtime.NumGoroutine") = false := by kernel_rfl
theorem nm37 : (Try.f37.name == "runtime.NumGoroutine") = false := by kernel_rfl
theorem nm38 : (Try.f38.name == "runtime.NumGoroutine") = false := by kernel_rfl
theorem nm39 : (Try.f39.name == "runtime.NumGoroutine") = false := by kernel_rfl
theorem nm40 : (Try.f40.name == "runtime.NumGoroutine") = false := by kernel_rfl
theorem nm41 : (Try.f41.name == "runtime.NumGoroutine") = false := by kernel_rfl
theorem nm42 : (Try.f42.name == "runtime.NumGoroutine") = false := by kernel_rfl
theorem nm43 : (Try.f43.name == "runtime.NumGoroutine") = false := by kernel_rfl
theorem nm44 : (Try.f44.name == "runtime.NumGoroutine") = false := by kernel_rfl
theorem nm45 : (Try.f45.name == "runtime.NumGoroutine") = false := by kernel_rfl
theorem nm46 : (Try.f46.name == "runtime.NumGoroutine") = false := by kernel_rfl
theorem nm47 : (Try.f47.name == "runtime.NumGoroutine") = false := by kernel_rfl
theorem nm48 : (Try.f48.name == "runtime.NumGoroutine") = false := by kernel_rfl
theorem nm49 : (Try.f49.name == "runtime.NumGoroutine") = false := by kernel_rfl
theorem nm50 : (Try.f50.name == "runtime.NumGoroutine") = false := by kernel_rfl
theorem nm51 : (Try.f51.name == "runtime.NumGoroutine") = false := by kernel_rfl
theorem nm52 : (Try.f52.name == "runtime.NumGoroutine") = false := by kernel_rfl
theorem nm53 : (Try.f53.name == "runtime.NumGoroutine") = false := by kernel_rfl
theorem nm54 : (Try.f54.name == "runtime.NumGoroutine") = false := by kernel_rfl
theorem nm55 : (Try.f55.name == "runtime.NumGoroutine") = false := by kernel_rfl
theorem nm56 : (Try.f56.name == "runtime.NumGoroutine") = false := by kernel_rfl
theorem nm57 : (Try.f57.name == "runtime.NumGoroutine") = false := by kernel_rfl
theorem nm58 : (Try.f58.name == "runtime.NumGoroutine") = false := by kernel_rfl
theorem nm59 : (Try.f59.name == "runtime.NumGoroutine") = false := by kernel_rfl
theorem nm60 : (Try.f60.name == "runtime.NumGoroutine") = false := by kernel_rfl
theorem nm61 : (Try.f61.name == "runtime.NumGoroutine") = false := by kernel_rfl
theorem nm62 : (Try.f62.name == "runtime.NumGoroutine") = false := by kernel_rfl
theorem nm63 : (Try.f63.name == "runtime.NumGoroutine") = false := by kernel_rfl
theorem nm64 : (Try.f64.name == "runtime.NumGoroutine") = false := by kernel_rfl
theorem nm65 : (Try.f65.name == "runtime.NumGoroutine") = false := by kernel_rfl
theorem nm66 : (Try.f66.name == "runtime.NumGoroutine") = false := by kernel_rfl
theorem nm67 : (Try.f67.name == "runtime.NumGoroutine") = false := by kernel_rfl
theorem nm68 : (Try.f68.name == "runtime.NumGoroutine") = false := by kernel_rfl
theorem nm69 : (Try.f69.name == "runtime.NumGoroutine") = false := by kernel_rfl
theorem nm70 : (Try.f70.name == "runtime.NumGoroutine") = false := by kernel_rfl
theorem nm71 : (Try.f71.name == "runtime.NumGoroutine") = false := by kernel_rfl
theorem nm72 : (Try.f72.name == "runtime.NumGoroutine") = false := by kernel_rfl
theorem nm73 : (Try.f73.name == "runtime.NumGoroutine") = false := by kernel_rfl
theorem nm74 : (Try.f74.name == "runtime.NumGoroutine") = false := by kernel_rfl
theorem nm75 : (Try.f75.name == "runtime.NumGoroutine") = false := by kernel_rfl
theorem nm76 : (Try.f76.name == "runtime.NumGoroutine") = false := by kernel_rfl
theorem nm77 : (Try.f77.name == "runtime.NumGoroutine") = false := by kernel_rfl
theorem nm78 : (Try.f78.name == "runtime.NumGoroutine") = false := by kernel_rfl
theorem nm79 : (Try.f79.name == "runtime.NumGoroutine") = false := by kernel_rfl
theorem nm80 : (Try.f80.name == "runtime.NumGoroutine") = false := by kernel_rfl
theorem nm81 : (Try.f81.name == "runtime.NumGoroutine") = false := by kernel_rfl
theorem nm82 : (Try.f82.name == "runtime.NumGoroutine") = false := by kernel_rfl
theorem nm83 : (Try.f83.name == "runtime.NumGoroutine") = false := by kernel_rfl
theorem nm84 : (Try.f84.name == "runtime.NumGoroutine") = false := by kernel_rfl
theorem nm85 : (Try.f85.name == "runtime.NumGoroutine") = false := by kernel_rfl
theorem nm86 : (Try.f86.name == "runtime.NumGoroutine") = false := by kernel_rfl
theorem nm87 : (Try.f87.name == "runtime.NumGoroutine") = false := by kernel_rfl
theorem nm88 : (Try.f88.name == "runtime.NumGoroutine") = false := by kernel_rfl
theorem nm89 : (Try.f89.name == "runtime.NumGoroutine") = false := by kernel_rfl
theorem nm90 : (Try.f90.name == "runtime.NumGoroutine") = false := by kernel_rfl
theorem nm91 : (Try.f91.name == "runtime.NumGoroutine") = false := by kernel_rfl
theorem eg_31 : Try.prog.eqGuardType Try.prog.depth 31 = false := by kernel_rfl
theorem eq_31 (d : Nat) (x0 y0 : Int) (x1 y1 : Int) (w : World) : (Op.equalIn (d + 2) 31 (.agg #[.int .i64 x0, .int .i64 x1]) (.agg #[.int .i64 y0, .int .i64 y1])).run Try.prog w = .ok ((x0 == y0) && ((x1 == y1) && true)) w :=
  eqS_of Try.underlying31 (by kernel_rfl) (eqS_cons (by kernel_rfl) (part1 Try.underlying3 rfl rfl) (part1 Try.underlying3 rfl rfl) (run_equalIn_int w _ _ _ _ _ _ Try.underlying3) (eqS_cons (by kernel_rfl) (part1 Try.underlying3 rfl rfl) (part1 Try.underlying3 rfl rfl) (run_equalIn_int w _ _ _ _ _ _ Try.underlying3) eqS_nil))
theorem eg_81 : Try.prog.eqGuardType Try.prog.depth 81 = false := by kernel_rfl
theorem eq_81 (d : Nat) (x0 y0 : Int) (x1 y1 : Int) (x2 y2 : Int) (x3 y3 : Int) (w : World) : (Op.equalIn (d + 3) 81 (.agg #[.int .i64 x0, .int .i64 x1, .int .i64 x2, .int .i64 x3]) (.agg #[.int .i64 y0, .int .i64 y1, .int .i64 y2, .int .i64 y3])).run Try.prog w = .ok ((x0 == y0) && (((x1 == y1) && ((x2 == y2) && true)) && ((x3 == y3) && true))) w :=
  eqS_of Try.underlying81 (by kernel_rfl) (eqS_cons (by kernel_rfl) (part1 Try.underlying3 rfl rfl) (part1 Try.underlying3 rfl rfl) (run_equalIn_int w _ _ _ _ _ _ Try.underlying3) (eqS_cons (by kernel_rfl) (partN (vs := [.int .i64 x1, .int .i64 x2]) Try.underlying31 rfl ti31 rfl) (partN (vs := [.int .i64 y1, .int .i64 y2]) Try.underlying31 rfl ti31 rfl) (eq_31 (d + 0) x1 y1 x2 y2 w) (eqS_cons (by kernel_rfl) (part1 Try.underlying3 rfl rfl) (part1 Try.underlying3 rfl rfl) (run_equalIn_int w _ _ _ _ _ _ Try.underlying3) eqS_nil)))
end Go.Proofs.Ytanimjbmkhpnaaa.Gx
