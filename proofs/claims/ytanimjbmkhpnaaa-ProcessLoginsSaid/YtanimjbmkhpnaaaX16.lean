/- Function 16, kaudit/process.Login: what it answers as a plain function, and that the Go code comes to exactly that (where the plain function gives an answer). -/
import Derived.Test.YtanimjbmkhpnaaaXT
import Derived.Test.YtanimjbmkhpnaaaX37
import Derived.Test.YtanimjbmkhpnaaaX39
import Derived.Test.YtanimjbmkhpnaaaX54
set_option linter.unusedVariables false
set_option linter.unusedSimpArgs false
namespace Go.Proofs.Ytanimjbmkhpnaaa.Gx
open Go.Gx Go.RowKit
/-! ### kaudit/process.Login: function 16 -/
def f_process_Login (a0 : api_Table) (a1 : Int) (a2 : Int) : Option (api_Table × Int) := (f_process_place a0 a1).bind fun y966 => if y966.2 = true then ((f_own_Table a0).bind fun y991 => (at_ y991.Processes y966.1).bind fun u1011 => (f_process_between 4294967294 [a2]).bind fun y1048 => if y1048 = true then (if (u1011.AUID != 4294967295) = true then (if (u1011.EUID != 0) = true then (some (((⟨0, 0, ([] : List api_Process)⟩ : api_Table), 1))) else (if (decide (y991.NextSession ≥ 1073741824)) = true then (some (((⟨0, 0, ([] : List api_Process)⟩ : api_Table), 11))) else ((at_ (y991.Processes.set y966.1.toNat (⟨u1011.PID, u1011.PPID, u1011.UID, u1011.EUID, u1011.GID, u1011.EGID, a2, u1011.Session, u1011.Cwd, u1011.Comm, u1011.Exe, u1011.Open, u1011.Audited⟩ : api_Process)) y966.1).bind fun u1306 => some (((⟨y991.Next, (IntKind.wrap .i64 (y991.NextSession + 1)), ((y991.Processes.set y966.1.toNat (⟨u1011.PID, u1011.PPID, u1011.UID, u1011.EUID, u1011.GID, u1011.EGID, a2, u1011.Session, u1011.Cwd, u1011.Comm, u1011.Exe, u1011.Open, u1011.Audited⟩ : api_Process)).set y966.1.toNat (⟨u1306.PID, u1306.PPID, u1306.UID, u1306.EUID, u1306.GID, u1306.EGID, u1306.AUID, y991.NextSession, u1306.Cwd, u1306.Comm, u1306.Exe, u1306.Open, u1306.Audited⟩ : api_Process))⟩ : api_Table), 0))))) else (if (decide (y991.NextSession ≥ 1073741824)) = true then (some (((⟨0, 0, ([] : List api_Process)⟩ : api_Table), 11))) else ((at_ (y991.Processes.set y966.1.toNat (⟨u1011.PID, u1011.PPID, u1011.UID, u1011.EUID, u1011.GID, u1011.EGID, a2, u1011.Session, u1011.Cwd, u1011.Comm, u1011.Exe, u1011.Open, u1011.Audited⟩ : api_Process)) y966.1).bind fun u1551 => some (((⟨y991.Next, (IntKind.wrap .i64 (y991.NextSession + 1)), ((y991.Processes.set y966.1.toNat (⟨u1011.PID, u1011.PPID, u1011.UID, u1011.EUID, u1011.GID, u1011.EGID, a2, u1011.Session, u1011.Cwd, u1011.Comm, u1011.Exe, u1011.Open, u1011.Audited⟩ : api_Process)).set y966.1.toNat (⟨u1551.PID, u1551.PPID, u1551.UID, u1551.EUID, u1551.GID, u1551.EGID, u1551.AUID, y991.NextSession, u1551.Cwd, u1551.Comm, u1551.Exe, u1551.Open, u1551.Audited⟩ : api_Process))⟩ : api_Table), 0))))) else (some (((⟨0, 0, ([] : List api_Process)⟩ : api_Table), 22)))) else (some (((⟨0, 0, ([] : List api_Process)⟩ : api_Table), 3)))
set_option maxHeartbeats 4000000 in
set_option maxRecDepth 100000 in
theorem C16 (a0 : api_Table) (a1 : Int) (a2 : Int) (p891 : Option Addr) (c892 : Nat) (r : api_Table × Int) (w : World) (h : f_process_Login a0 a1 a2 = some r) : Fun Try.prog 16 #[.agg #[.int .i64 a0.Next, .int .i64 a0.NextSession, .slice p891 a0.Processes.length c892], .int .i64 a1, .int .i64 a2] w [vw (kSlice 38 k_api_Process) a0.Processes [.slice p891 a0.Processes.length c892]] (fun (v_ : Value) (A_ : List VP) (N_ : List (List SP)) => ∃ (p893 : Option Addr) (c894 : Nat), v_ = .tuple #[.agg #[.int .i64 r.1.Next, .int .i64 r.1.NextSession, .slice p893 r.1.Processes.length c894], .int .i64 r.2] ∧ A_ = [] ∧ N_ = [[row 38 k_api_Process r.1.Processes (.slice p893 r.1.Processes.length c894)]]) := by
  unfold f_process_Login at h
  refine fun_begin (args := [.agg #[.int .i64 a0.Next, .int .i64 a0.NextSession, .slice p891 a0.Processes.length c892], .int .i64 a1, .int .i64 a2]) Try.func16 rfl Try.ntmps16 rfl fun Z a E H => ?_
  refine wp_seq_k fun _ hK895 => ?_
  refine wp_region_lit ?_
  refine wl_cons (wl_box (T := 28) (cs := [.int .i64 a0.Next, .int .i64 a0.NextSession, .slice p891 a0.Processes.length c892]) E H rfl rfl rfl rfl fun g896 w897 a898 E899 H' => ?_)
  clear H E; have H := H'; clear H'
  refine wl_cons (wl_box (T := 3) (cs := [.int .i64 a2]) E899 H rfl rfl rfl rfl fun g900 w901 a902 E903 H' => ?_)
  clear H E899; have H := H'; clear H'
  refine wl_cons (wl_alloc (cs := [.int .i64 0, .int .i64 0, .slice none 0 0]) E903 H rfl ti28 rfl rfl fun g904 w905 a906 E907 H' => ?_)
  clear H E903; have H := H'; clear H'
  replace H : St w Nil Z w905 [vw (kSlice 38 k_api_Process) a0.Processes [.slice p891 a0.Processes.length c892]] [[blk g896 [.int .i64 a0.Next, .int .i64 a0.NextSession, .slice p891 a0.Processes.length c892] 28], [blk g900 [.int .i64 a2] 3], [blk g904 [.int .i64 0, .int .i64 0, .slice none 0 0] 28]] := H
  refine wl_cons (wl_val E907 rfl (rn_assign E907 rfl rfl) rfl fun a908 E909 => ?_)
  clear E907
  refine wl_nil ?_
  refine then_normal (hK895 _ _ ?_)
  refine wp_seq_k fun _ hK910 => ?_
  refine wp_region_lit ?_
  refine wl_cons (wl_val E909 rfl (rn_ldN (i := 0) [.int .i64 a0.Next, .int .i64 a0.NextSession, .slice p891 a0.Processes.length c892] E909 H rfl Try.underlying28 rfl ti28 rfl rfl rfl rfl) rfl fun a911 E912 => ?_)
  clear E909
  refine wl_cons (wl_val E912 rfl (rn_move E912 rfl rfl) rfl fun a913 E914 => ?_)
  clear E912
  refine wl_cons (wl_val E914 rfl (rn_makeFunc (vs := [.pointer (some ⟨g900, 0, none⟩)]) E914 rfl rfl) rfl fun a915 E916 => ?_)
  clear E914
  refine wl_cons (wl_in rfl (rn_callC (args := [.agg #[.int .i64 a0.Next, .int .i64 a0.NextSession, .slice p891 a0.Processes.length c892], .int .i64 a1, .func (.func 38) #[] #[.pointer (some ⟨g900, 0, none⟩)]]) (cap := []) (all := [.agg #[.int .i64 a0.Next, .int .i64 a0.NextSession, .slice p891 a0.Processes.length c892], .int .i64 a1, .func (.func 38) #[] #[.pointer (some ⟨g900, 0, none⟩)]]) E916 rfl rfl rfl Try.func34 nm34 rfl rfl) Try.func34 rfl fun a917 he918 => ?_)
  have E919 : Env 20 a917 (enumA 0 [.agg #[.int .i64 a0.Next, .int .i64 a0.NextSession, .slice p891 a0.Processes.length c892], .int .i64 a1, .func (.func 38) #[] #[.pointer (some ⟨g900, 0, none⟩)]]) := he918 ▸ Env.init Try.ntmps34 rfl
  clear he918
  refine wp_seq_k fun _ hK920 => ?_
  refine wp_region_lit ?_
  refine wl_cons (wl_box (T := 28) (cs := [.int .i64 a0.Next, .int .i64 a0.NextSession, .slice p891 a0.Processes.length c892]) E919 H rfl rfl rfl rfl fun g921 w922 a923 E924 H' => ?_)
  clear H E919; have H := H'; clear H'
  refine wl_cons (wl_box (T := 68) (cs := [.func (.func 38) #[] #[.pointer (some ⟨g900, 0, none⟩)]]) E924 H rfl rfl rfl rfl fun g925 w926 a927 E928 H' => ?_)
  clear H E924; have H := H'; clear H'
  refine wl_cons (wl_alloc (cs := [.int .i64 0, .int .i64 0, .slice none 0 0]) E928 H rfl ti28 rfl rfl fun g929 w930 a931 E932 H' => ?_)
  clear H E928; have H := H'; clear H'
  replace H : St w Nil Z w930 [vw (kSlice 38 k_api_Process) a0.Processes [.slice p891 a0.Processes.length c892]] [[blk g896 [.int .i64 a0.Next, .int .i64 a0.NextSession, .slice p891 a0.Processes.length c892] 28], [blk g900 [.int .i64 a2] 3], [blk g904 [.int .i64 0, .int .i64 0, .slice none 0 0] 28], [blk g921 [.int .i64 a0.Next, .int .i64 a0.NextSession, .slice p891 a0.Processes.length c892] 28], [blk g925 [.func (.func 38) #[] #[.pointer (some ⟨g900, 0, none⟩)]] 68], [blk g929 [.int .i64 0, .int .i64 0, .slice none 0 0] 28]] := H
  refine wl_cons (wl_val E932 rfl (rn_assign E932 rfl rfl) rfl fun a933 E934 => ?_)
  clear E932
  refine wl_nil ?_
  refine then_normal (hK920 _ _ ?_)
  refine wp_seq_k fun _ hK935 => ?_
  refine wp_region_lit ?_
  refine wl_cons (wl_val E934 rfl (rn_ldN (i := 3) [.int .i64 a0.Next, .int .i64 a0.NextSession, .slice p891 a0.Processes.length c892] E934 H rfl Try.underlying28 rfl ti28 rfl rfl rfl rfl) rfl fun a936 E937 => ?_)
  clear E934
  refine wl_cons (wl_val E937 rfl (rn_move E937 rfl rfl) rfl fun a938 E939 => ?_)
  clear E937
  refine wl_cons (wl_val E939 rfl (rn_makeFunc (vs := [.pointer (some ⟨g925, 0, none⟩)]) E939 rfl rfl) rfl fun a940 E941 => ?_)
  clear E939
  refine wl_cons (wl_in rfl (rn_callC (args := [.agg #[.int .i64 a0.Next, .int .i64 a0.NextSession, .slice p891 a0.Processes.length c892], .int .i64 a1, .func (.func 57) #[] #[.pointer (some ⟨g925, 0, none⟩)]]) (cap := []) (all := [.agg #[.int .i64 a0.Next, .int .i64 a0.NextSession, .slice p891 a0.Processes.length c892], .int .i64 a1, .func (.func 57) #[] #[.pointer (some ⟨g925, 0, none⟩)]]) E941 rfl rfl rfl Try.func56 nm56 rfl rfl) Try.func56 rfl fun a942 he943 => ?_)
  have E944 : Env 42 a942 (enumA 0 [.agg #[.int .i64 a0.Next, .int .i64 a0.NextSession, .slice p891 a0.Processes.length c892], .int .i64 a1, .func (.func 57) #[] #[.pointer (some ⟨g925, 0, none⟩)]]) := he943 ▸ Env.init Try.ntmps56 rfl
  clear he943
  refine wp_seq_k fun _ hK945 => ?_
  refine wp_region_lit ?_
  refine wl_cons (wl_box (T := 28) (cs := [.int .i64 a0.Next, .int .i64 a0.NextSession, .slice p891 a0.Processes.length c892]) E944 H rfl rfl rfl rfl fun g946 w947 a948 E949 H' => ?_)
  clear H E944; have H := H'; clear H'
  refine wl_cons (wl_alloc (cs := [.int .i64 0, .int .i64 0, .slice none 0 0]) E949 H rfl ti28 rfl rfl fun g950 w951 a952 E953 H' => ?_)
  clear H E949; have H := H'; clear H'
  refine wl_cons (wl_val E953 rfl (rn_assign E953 rfl rfl) rfl fun a954 E955 => ?_)
  clear E953
  refine wl_cons (wl_val E955 rfl (rn_assign E955 rfl rfl) rfl fun a956 E957 => ?_)
  clear E955
  refine wl_nil ?_
  refine then_normal (hK945 _ _ ?_)
  refine wp_seq_k fun _ hK958 => ?_
  refine wp_region_lit ?_
  refine wl_cons (wl_val E957 rfl (rn_assign E957 rfl rfl) rfl fun a959 E960 => ?_)
  clear E957
  refine wl_nil ?_
  refine then_normal (hK958 _ _ ?_)
  refine wp_seq_k fun _ hK961 => ?_
  refine wp_region_lit ?_
  refine wl_cons (wl_val E960 rfl (rn_ldN (i := 6) [.int .i64 a0.Next, .int .i64 a0.NextSession, .slice p891 a0.Processes.length c892] E960 H rfl Try.underlying28 rfl ti28 rfl rfl rfl rfl) rfl fun a962 E963 => ?_)
  clear E960
  refine wl_cons (wl_val E963 rfl (rn_move E963 rfl rfl) rfl fun a964 E965 => ?_)
  clear E963
  obtain ⟨y966, hy967, h⟩ := bs h
  refine wl_cons (wl_fun E965 H rfl (rn_call (args := [.agg #[.int .i64 a0.Next, .int .i64 a0.NextSession, .slice p891 a0.Processes.length c892], .int .i64 a1]) E965 rfl rfl rfl Try.func37 nm37 rfl) rfl (by exact fun Z hA => ⟨(argHolds_get hA (k := 0) rfl), trivial⟩) (C37 a0 a1 p891 c892 _ _ hy967) ?_)
  rintro v_ A_ N_ w970 a968 ⟨rfl, rfl, rfl⟩ E969 H'
  replace H := H'; clear H' E965
  replace H : St w Nil Z w970 [vw (kSlice 38 k_api_Process) a0.Processes [.slice p891 a0.Processes.length c892]] [[blk g896 [.int .i64 a0.Next, .int .i64 a0.NextSession, .slice p891 a0.Processes.length c892] 28], [blk g900 [.int .i64 a2] 3], [blk g904 [.int .i64 0, .int .i64 0, .slice none 0 0] 28], [blk g921 [.int .i64 a0.Next, .int .i64 a0.NextSession, .slice p891 a0.Processes.length c892] 28], [blk g925 [.func (.func 38) #[] #[.pointer (some ⟨g900, 0, none⟩)]] 68], [blk g929 [.int .i64 0, .int .i64 0, .slice none 0 0] 28], [blk g946 [.int .i64 a0.Next, .int .i64 a0.NextSession, .slice p891 a0.Processes.length c892] 28], [blk g950 [.int .i64 0, .int .i64 0, .slice none 0 0] 28]] := H
  refine wl_cons (wl_val E969 rfl (rn_move E969 rfl rfl) rfl fun a971 E972 => ?_)
  clear E969
  refine wl_cons (wl_val E972 rfl (rn_extract E972 rfl rfl rfl) rfl fun a973 E974 => ?_)
  clear E972
  refine wl_cons (wl_val E974 rfl (rn_extract E974 rfl rfl rfl) rfl fun a975 E976 => ?_)
  clear E974
  refine wl_cons (wl_val E976 rfl (rn_assign E976 rfl rfl) rfl fun a977 E978 => ?_)
  clear E976
  refine wl_cons (wl_val E978 rfl (rn_assign E978 rfl rfl) rfl fun a979 E980 => ?_)
  clear E978
  refine wl_nil ?_
  refine then_normal (hK961 _ _ ?_)
  refine wp_seq_k fun _ hK981 => ?_
  refine wp_seq_k fun _ hK982 => ?_
  refine wp_region_lit ?_
  refine wl_cons (wl_val E980 rfl (rn_move E980 rfl rfl) rfl fun a983 E984 => ?_)
  clear E980
  refine wl_cons (wl_val E984 rfl (rn_not E984 rfl rfl) rfl fun a985 E986 => ?_)
  clear E984
  refine wl_nil ?_
  refine then_normal (hK982 _ _ ?_)
  rcases Bool.eq_false_or_eq_true y966.2 with hb987 | hb987
  · replace h := itT hb987 h
    refine wc_F E986 rfl (congrArg Bool.not hb987) ?_
    refine wp_skip ?_
    refine then_normal (hK981 _ _ ?_)
    refine wp_seq_k fun _ hK988 => ?_
    refine wp_region_lit ?_
    refine wl_cons (wl_val E986 rfl (rn_ldN (i := 6) [.int .i64 a0.Next, .int .i64 a0.NextSession, .slice p891 a0.Processes.length c892] E986 H rfl Try.underlying28 rfl ti28 rfl rfl rfl rfl) rfl fun a989 E990 => ?_)
    clear E986
    obtain ⟨y991, hy992, h⟩ := bs h
    refine wl_cons (wl_fun E990 H rfl (rn_call (args := [.agg #[.int .i64 a0.Next, .int .i64 a0.NextSession, .slice p891 a0.Processes.length c892]]) E990 rfl rfl rfl Try.func54 nm54 rfl) rfl (by exact fun Z hA => ⟨(argHolds_get hA (k := 0) rfl), trivial⟩) (C54 a0 p891 c892 _ _ hy992) ?_)
    rintro v_ A_ N_ w998 a996 ⟨p993, c994, rfl, rfl, rfl⟩ E997 H'
    replace H := H'; clear H' E990
    refine wl_cons (wl_store (i := 6) (vs := [.int .i64 y991.Next, .int .i64 y991.NextSession, .slice p993 y991.Processes.length c994]) (cs' := [.int .i64 y991.Next, .int .i64 y991.NextSession, .slice p993 y991.Processes.length c994]) E997 H rfl rfl rfl rfl ti28 rfl rfl rfl rfl rfl rfl fun w1001 a999 E1000 H' => ?_)
    clear H E997; have H := H'; clear H'
    refine wl_nil ?_
    refine then_normal (hK988 _ _ ?_)
    refine wp_seq_k fun _ hK1002 => ?_
    refine wp_region_lit ?_
    refine wl_cons (wl_val E1000 rfl (rn_move E1000 rfl rfl) rfl fun a1003 E1004 => ?_)
    clear E1000
    refine wl_cons (wl_val E1004 rfl (rn_fieldAddr E1004 rfl Try.underlying28 rfl ti26 rfl rfl) rfl fun a1005 E1006 => ?_)
    clear E1004
    refine wl_cons (wl_val E1006 rfl (rn_ld1 (i := 6) E1006 H rfl Try.underlying26 rfl rfl rfl rfl) rfl fun a1007 E1008 => ?_)
    clear E1006
    refine wl_cons (wl_val E1008 rfl (rn_move E1008 rfl rfl) rfl fun a1009 E1010 => ?_)
    clear E1008
    obtain ⟨u1011, hy1012, h⟩ := bs h
    obtain ⟨q1013, hq1014, hr1015⟩ := rn_idx (K := k_api_Process) (P := Try.prog) (o := ⟨some 31, .indexAddr 26 (.tmp 29) (.tmp 30), 0, "", #[], none⟩) E1010 rfl Try.underlying26 ti38 rfl rfl (H.readL (i := 8) rfl) hy1012
    refine wl_cons (wl_val E1010 rfl ((hr1015 _)) rfl fun a1016 E1017 => ?_)
    clear E1010
    refine wl_cons (wl_in rfl (rn_callC (args := [.pointer (some ⟨g946, 0, none⟩), .pointer (some q1013)]) (cap := [.pointer (some ⟨g925, 0, none⟩)]) (all := [.pointer (some ⟨g946, 0, none⟩), .pointer (some q1013), .pointer (some ⟨g925, 0, none⟩)]) E1017 rfl rfl rfl Try.func57 nm57 rfl rfl) Try.func57 rfl fun a1018 he1019 => ?_)
    have E1020 : Env 11 a1018 (enumA 0 [.pointer (some ⟨g946, 0, none⟩), .pointer (some q1013), .pointer (some ⟨g925, 0, none⟩)]) := he1019 ▸ Env.init Try.ntmps57 rfl
    clear he1019
    refine wp_seq_k fun _ hK1021 => ?_
    refine wp_region_lit ?_
    refine wl_cons (wl_val E1020 rfl (rn_assign E1020 rfl rfl) rfl fun a1022 E1023 => ?_)
    clear E1020
    refine wl_cons (wl_val E1023 rfl (rn_assign E1023 rfl rfl) rfl fun a1024 E1025 => ?_)
    clear E1023
    refine wl_nil ?_
    refine then_normal (hK1021 _ _ ?_)
    refine wp_seq_k fun _ hK1026 => ?_
    refine wp_region_lit ?_
    refine wl_cons (wl_val E1025 rfl (rn_ld1 (i := 4) E1025 H rfl Try.underlying68 rfl rfl rfl rfl) rfl fun a1027 E1028 => ?_)
    clear E1025
    refine wl_cons (wl_val E1028 rfl (rn_move E1028 rfl rfl) rfl fun a1029 E1030 => ?_)
    clear E1028
    refine wl_cons (wl_val E1030 rfl (rn_move E1030 rfl rfl) rfl fun a1031 E1032 => ?_)
    clear E1030
    refine wl_cons (wl_in rfl (rn_callC (args := [.pointer (some ⟨g946, 0, none⟩), .pointer (some q1013)]) (cap := [.pointer (some ⟨g900, 0, none⟩)]) (all := [.pointer (some ⟨g946, 0, none⟩), .pointer (some q1013), .pointer (some ⟨g900, 0, none⟩)]) E1032 rfl rfl rfl Try.func38 nm38 rfl rfl) Try.func38 rfl fun a1033 he1034 => ?_)
    have E1035 : Env 48 a1033 (enumA 0 [.pointer (some ⟨g946, 0, none⟩), .pointer (some q1013), .pointer (some ⟨g900, 0, none⟩)]) := he1034 ▸ Env.init Try.ntmps38 rfl
    clear he1034
    refine wp_seq_k fun _ hK1036 => ?_
    refine wp_region_lit ?_
    refine wl_cons (wl_val E1035 rfl (rn_assign E1035 rfl rfl) rfl fun a1037 E1038 => ?_)
    clear E1035
    refine wl_nil ?_
    refine then_normal (hK1036 _ _ ?_)
    refine wp_seq_k fun _ hK1039 => ?_
    refine wp_block ?_
    refine wp_seq_k fun _ hK1040 => ?_
    refine wp_region_lit ?_
    refine wl_cons (wl_val E1038 rfl (rn_ld1 (i := 1) E1038 H rfl Try.underlying3 rfl rfl rfl rfl) rfl fun a1041 E1042 => ?_)
    clear E1038
    refine wl_cons (wl_buildSlice (ps := [(0, .int .i64 a2)]) (cs := [.int .i64 a2]) E1042 H rfl Try.underlying22 ti3 rfl rfl (by kernel_rfl) rfl fun g1043 w1044 a1045 E1046 H' => ?_)
    clear H E1042; have H := H'; clear H'
    replace H : St w Nil Z w1044 [vw (kSlice 38 k_api_Process) a0.Processes [.slice p891 a0.Processes.length c892]] [[blk g896 [.int .i64 a0.Next, .int .i64 a0.NextSession, .slice p891 a0.Processes.length c892] 28], [blk g900 [.int .i64 a2] 3], [blk g904 [.int .i64 0, .int .i64 0, .slice none 0 0] 28], [blk g921 [.int .i64 a0.Next, .int .i64 a0.NextSession, .slice p891 a0.Processes.length c892] 28], [blk g925 [.func (.func 38) #[] #[.pointer (some ⟨g900, 0, none⟩)]] 68], [blk g929 [.int .i64 0, .int .i64 0, .slice none 0 0] 28], [blk g946 [.int .i64 y991.Next, .int .i64 y991.NextSession, .slice p993 y991.Processes.length c994] 28], [blk g950 [.int .i64 0, .int .i64 0, .slice none 0 0] 28], [row 38 k_api_Process y991.Processes (.slice p993 y991.Processes.length c994)], [blk g1043 [.int .i64 a2] 3]] := H
    replace H := H.toRow (i := 9) (K := (kInt .i64)) (xs := [a2]) rfl rfl (fun Z hA => ⟨[.int .i64 a2], _, rfl, rfl, rfl⟩)
    obtain ⟨y1048, hy1049, h⟩ := bs h
    refine wl_cons (wl_funFlat E1046 H rfl (rn_call (args := [.int .i64 4294967294, .slice (some ⟨g1043, 0, none⟩) 1 1]) E1046 rfl rfl rfl Try.func39 nm39 rfl) rfl (by exact fun Z S hA hL => ⟨(Holds_row hL (i := 9) rfl), trivial⟩) (C39 4294967294 [a2] (some ⟨g1043, 0, none⟩) 1 _ _ hy1049) C39_flat ?_)
    rintro v_ A_ N_ w1052 a1050 ⟨rfl, rfl, rfl⟩ E1051 H'
    replace H := H'; clear H' E1046
    refine wl_cons (wl_val E1051 rfl (rn_not E1051 rfl rfl) rfl fun a1053 E1054 => ?_)
    clear E1051
    refine wl_cons (wl_val E1054 rfl (rn_assign E1054 rfl rfl) rfl fun a1055 E1056 => ?_)
    clear E1054
    refine wl_nil ?_
    refine then_normal (hK1040 _ _ ?_)
    rcases Bool.eq_false_or_eq_true y1048 with hb1057 | hb1057
    · replace h := itT hb1057 h
      refine wc_F E1056 rfl (congrArg Bool.not hb1057) ?_
      refine wp_seq_k fun _ hK1058 => ?_
      refine wp_region_lit ?_
      refine wl_cons (wl_val E1056 rfl (rn_move E1056 rfl rfl) rfl fun a1059 E1060 => ?_)
      clear E1056
      refine wl_cons (wl_val E1060 rfl (rn_nilCheck E1060 rfl rfl) rfl fun a1061 E1062 => ?_)
      clear E1060
      obtain ⟨q1063, hq1064, hr1065⟩ := rn_fieldAddrI (P := Try.prog) (o := ⟨some 14, .fieldAddr 38 (.tmp 13) 6, 0, "", #[], none⟩) E1062 rfl Try.underlying38 rfl ti3 rfl hq1014 (off' := 6) rfl
      refine wl_cons (wl_val E1062 rfl ((hr1065 _)) rfl fun a1066 E1067 => ?_)
      clear E1062
      obtain ⟨⟨p1069, c1070⟩, H', hc1068⟩ := St.openL k_api_Process_opens H (k := 8) rfl hy1012
      replace H := H'; clear H'
      refine wl_cons (wl_val E1067 rfl (rn_loadI1 E1067 rfl Try.underlying3 rfl rfl hq1064 hc1068 rfl) rfl fun a1071 E1072 => ?_)
      clear E1067
      refine wl_cons (wl_val E1072 rfl (rn_int E1072 rfl rfl rfl rfl) rfl fun a1073 E1074 => ?_)
      clear E1072
      refine wl_cons (wl_val E1074 rfl (rn_move E1074 rfl rfl) rfl fun a1075 E1076 => ?_)
      clear E1074
      rcases Bool.eq_false_or_eq_true (u1011.AUID != 4294967295) with hb1077 | hb1077
      · replace h := itT hb1077 h
        refine wl_cons (wl_val E1076 (E1076.wantedB rfl rfl rfl hb1077) (rn_move E1076 rfl rfl) rfl fun a1078 E1079 => ?_)
        clear E1076
        refine wl_cons (wl_val E1079 (E1079.wantedB rfl rfl rfl hb1077) (rn_nilCheck E1079 rfl rfl) rfl fun a1080 E1081 => ?_)
        clear E1079
        obtain ⟨q1082, hq1083, hr1084⟩ := rn_fieldAddrI (P := Try.prog) (o := ⟨some 20, .fieldAddr 38 (.tmp 19) 3, 0, "", #[], none⟩) E1081 rfl Try.underlying38 rfl ti3 rfl hq1014 (off' := 3) rfl
        refine wl_cons (wl_val E1081 (E1081.wantedB rfl rfl rfl hb1077) ((hr1084 _)) rfl fun a1085 E1086 => ?_)
        clear E1081
        obtain ⟨⟨p1088, c1089⟩, H', hc1087⟩ := St.openL k_api_Process_opens H (k := 8) rfl hy1012
        replace H := H'; clear H'
        refine wl_cons (wl_val E1086 (E1086.wantedB rfl rfl rfl hb1077) (rn_loadI1 E1086 rfl Try.underlying3 rfl rfl hq1083 hc1087 rfl) rfl fun a1090 E1091 => ?_)
        clear E1086
        refine wl_cons (wl_val E1091 (E1091.wantedB rfl rfl rfl hb1077) (rn_int E1091 rfl rfl rfl rfl) rfl fun a1092 E1093 => ?_)
        clear E1091
        refine wl_cons (wl_val E1093 rfl (rn_pickT E1093 rfl rfl hb1077 rfl) rfl fun a1094 E1095 => ?_)
        clear E1093
        refine wl_cons (wl_val E1095 rfl (rn_assign E1095 rfl rfl) rfl fun a1096 E1097 => ?_)
        clear E1095
        refine wl_nil ?_
        refine then_normal (hK1058 _ _ ?_)
        rcases Bool.eq_false_or_eq_true (u1011.EUID != 0) with hb1098 | hb1098
        · replace h := itT hb1098 h
          refine wc_T E1097 rfl hb1098 ?_
          refine wp_seq_k fun _ hK1099 => ?_
          refine wp_region_lit ?_
          refine wl_cons (wl_val E1097 rfl (rn_assign E1097 rfl rfl) rfl fun a1100 E1101 => ?_)
          clear E1097
          refine wl_nil ?_
          refine then_normal (hK1099 _ _ ?_)
          refine wp_ret ?_
          refine block_ret (then_ret (?_))
          refine wb_ret1 E1101 rfl (rv_tmp E1101 rfl) ⟨_, rfl, ?_⟩
          have E1102 := Env.put E1032 (d := 10) rfl (.int .i64 1)
          generalize hae : Act.put _ (some 10) _ = a1103 at E1102 ⊢; clear hae
          refine wl_cons (wl_val E1102 rfl (rn_assign E1102 rfl rfl) rfl fun a1104 E1105 => ?_)
          clear E1102
          refine wl_cons (wl_val E1105 rfl (rn_assign E1105 rfl rfl) rfl fun a1106 E1107 => ?_)
          clear E1105
          refine wl_nil ?_
          refine then_normal (hK1026 _ _ ?_)
          refine wp_ret ?_
          refine ?_
          refine wb_ret2 E1107 rfl (rv_tmp E1107 rfl) (rv_tmp E1107 rfl) ⟨_, rfl, ?_⟩
          have E1108 := Env.put E1017 (d := 32) rfl (.tuple #[.bool true, .int .i64 1])
          generalize hae : Act.put _ (some 32) _ = a1109 at E1108 ⊢; clear hae
          refine wl_cons (wl_val E1108 rfl (rn_move E1108 rfl rfl) rfl fun a1110 E1111 => ?_)
          clear E1108
          refine wl_cons (wl_val E1111 rfl (rn_extract E1111 rfl rfl rfl) rfl fun a1112 E1113 => ?_)
          clear E1111
          refine wl_cons (wl_val E1113 rfl (rn_extract E1113 rfl rfl rfl) rfl fun a1114 E1115 => ?_)
          clear E1113
          refine wl_cons (wl_val E1115 rfl (rn_assign E1115 rfl rfl) rfl fun a1116 E1117 => ?_)
          clear E1115
          refine wl_cons (wl_val E1117 rfl (rn_assign E1117 rfl rfl) rfl fun a1118 E1119 => ?_)
          clear E1117
          refine wl_nil ?_
          refine then_normal (hK1002 _ _ ?_)
          refine wp_seq_k fun _ hK1120 => ?_
          refine wp_seq_k fun _ hK1121 => ?_
          refine wp_region_lit ?_
          refine wl_cons (wl_val E1119 rfl (rn_move E1119 rfl rfl) rfl fun a1122 E1123 => ?_)
          clear E1119
          refine wl_cons (wl_val E1123 rfl (rn_int E1123 rfl rfl rfl rfl) rfl fun a1124 E1125 => ?_)
          clear E1123
          refine wl_nil ?_
          refine then_normal (hK1121 _ _ ?_)
          refine wc_T E1125 rfl rfl ?_
          refine wp_seq_k fun _ hK1126 => ?_
          refine wp_region_lit ?_
          refine wl_cons (wl_val E1125 rfl (rn_build (ps := []) (cs := [.int .i64 0, .int .i64 0, .slice none 0 0]) E1125 rfl rfl (by kernel_rfl)) rfl fun a1127 E1128 => ?_)
          clear E1125
          refine wl_cons (wl_val E1128 rfl (rn_move E1128 rfl rfl) rfl fun a1129 E1130 => ?_)
          clear E1128
          refine wl_cons (wl_val E1130 rfl (rn_move E1130 rfl rfl) rfl fun a1131 E1132 => ?_)
          clear E1130
          refine wl_cons (wl_store (i := 7) (vs := [.int .i64 0, .int .i64 0, .slice none 0 0]) (cs' := [.int .i64 0, .int .i64 0, .slice none 0 0]) E1132 H rfl rfl rfl rfl ti28 rfl rfl rfl rfl rfl rfl fun w1135 a1133 E1134 H' => ?_)
          clear H E1132; have H := H'; clear H'
          refine wl_cons (wl_val E1134 rfl (rn_assign E1134 rfl rfl) rfl fun a1136 E1137 => ?_)
          clear E1134
          refine wl_cons (wl_val E1137 rfl (rn_assign E1137 rfl rfl) rfl fun a1138 E1139 => ?_)
          clear E1137
          refine wl_nil ?_
          refine then_normal (hK1126 _ _ ?_)
          refine wp_ret ?_
          refine then_ret (?_)
          refine wb_ret3 E1139 rfl (rv_cellN (cs := [.int .i64 0, .int .i64 0, .slice none 0 0]) E1139 rfl Try.underlying28 rfl ti28 (H.get (i := 7) (k := 0) rfl rfl) rfl) (rv_tmp E1139 rfl) (rv_tmp E1139 rfl) ⟨_, rfl, ?_⟩
          have E1140 := Env.put E941 (d := 14) rfl (.tuple #[.agg #[.int .i64 0, .int .i64 0, .slice none 0 0], .bool false, .int .i64 1])
          generalize hae : Act.put _ (some 14) _ = a1141 at E1140 ⊢; clear hae
          refine wl_cons (wl_val E1140 rfl (rn_move E1140 rfl rfl) rfl fun a1142 E1143 => ?_)
          clear E1140
          refine wl_cons (wl_val E1143 rfl (rn_extract E1143 rfl rfl rfl) rfl fun a1144 E1145 => ?_)
          clear E1143
          refine wl_cons (wl_val E1145 rfl (rn_extract E1145 rfl rfl rfl) rfl fun a1146 E1147 => ?_)
          clear E1145
          refine wl_cons (wl_val E1147 rfl (rn_extract E1147 rfl rfl rfl) rfl fun a1148 E1149 => ?_)
          clear E1147
          refine wl_cons (wl_store (i := 3) (vs := [.int .i64 0, .int .i64 0, .slice none 0 0]) (cs' := [.int .i64 0, .int .i64 0, .slice none 0 0]) E1149 H rfl rfl rfl rfl ti28 rfl rfl rfl rfl rfl rfl fun w1152 a1150 E1151 H' => ?_)
          clear H E1149; have H := H'; clear H'
          replace H : St w Nil Z w1152 [vw (kSlice 38 k_api_Process) a0.Processes [.slice p891 a0.Processes.length c892], vw (kSlice 81 k_api_Descriptor) u1011.Open [.slice p1069 u1011.Open.length c1070], vw (kSlice 81 k_api_Descriptor) u1011.Open [.slice p1088 u1011.Open.length c1089]] [[blk g896 [.int .i64 a0.Next, .int .i64 a0.NextSession, .slice p891 a0.Processes.length c892] 28], [blk g900 [.int .i64 a2] 3], [blk g904 [.int .i64 0, .int .i64 0, .slice none 0 0] 28], [blk g921 [.int .i64 0, .int .i64 0, .slice none 0 0] 28], [blk g925 [.func (.func 38) #[] #[.pointer (some ⟨g900, 0, none⟩)]] 68], [blk g929 [.int .i64 0, .int .i64 0, .slice none 0 0] 28], [blk g946 [.int .i64 y991.Next, .int .i64 y991.NextSession, .slice p993 y991.Processes.length c994] 28], [blk g950 [.int .i64 0, .int .i64 0, .slice none 0 0] 28], [row 38 k_api_Process y991.Processes (.slice p993 y991.Processes.length c994)], [row 3 (kInt .i64) [a2] (.slice (some ⟨g1043, 0, none⟩) 1 1)]] := H
          refine wl_cons (wl_val E1151 rfl (rn_assign E1151 rfl rfl) rfl fun a1153 E1154 => ?_)
          clear E1151
          refine wl_cons (wl_val E1154 rfl (rn_assign E1154 rfl rfl) rfl fun a1155 E1156 => ?_)
          clear E1154
          refine wl_nil ?_
          refine then_normal (hK935 _ _ ?_)
          refine wp_seq_k fun _ hK1157 => ?_
          refine wp_region_lit ?_
          refine wl_cons (wl_val E1156 rfl (rn_ldN (i := 3) [.int .i64 0, .int .i64 0, .slice none 0 0] E1156 H rfl Try.underlying28 rfl ti28 rfl rfl rfl rfl) rfl fun a1158 E1159 => ?_)
          clear E1156
          refine wl_cons (wl_val E1159 rfl (rn_move E1159 rfl rfl) rfl fun a1160 E1161 => ?_)
          clear E1159
          refine wl_cons (wl_store (i := 5) (vs := [.int .i64 0, .int .i64 0, .slice none 0 0]) (cs' := [.int .i64 0, .int .i64 0, .slice none 0 0]) E1161 H rfl rfl rfl rfl ti28 rfl rfl rfl rfl rfl rfl fun w1164 a1162 E1163 H' => ?_)
          clear H E1161; have H := H'; clear H'
          refine wl_cons (wl_val E1163 rfl (rn_assign E1163 rfl rfl) rfl fun a1165 E1166 => ?_)
          clear E1163
          refine wl_nil ?_
          refine then_normal (hK1157 _ _ ?_)
          refine wp_ret ?_
          refine ?_
          refine wb_ret2 E1166 rfl (rv_cellN (cs := [.int .i64 0, .int .i64 0, .slice none 0 0]) E1166 rfl Try.underlying28 rfl ti28 (H.get (i := 5) (k := 0) rfl rfl) rfl) (rv_tmp E1166 rfl) ⟨_, rfl, ?_⟩
          have E1167 := Env.put E916 (d := 11) rfl (.tuple #[.agg #[.int .i64 0, .int .i64 0, .slice none 0 0], .int .i64 1])
          generalize hae : Act.put _ (some 11) _ = a1168 at E1167 ⊢; clear hae
          refine wl_cons (wl_val E1167 rfl (rn_extract E1167 rfl rfl rfl) rfl fun a1169 E1170 => ?_)
          clear E1167
          refine wl_cons (wl_val E1170 rfl (rn_extract E1170 rfl rfl rfl) rfl fun a1171 E1172 => ?_)
          clear E1170
          refine wl_cons (wl_store (i := 2) (vs := [.int .i64 0, .int .i64 0, .slice none 0 0]) (cs' := [.int .i64 0, .int .i64 0, .slice none 0 0]) E1172 H rfl rfl rfl rfl ti28 rfl rfl rfl rfl rfl rfl fun w1175 a1173 E1174 H' => ?_)
          clear H E1172; have H := H'; clear H'
          refine wl_cons (wl_val E1174 rfl (rn_assign E1174 rfl rfl) rfl fun a1176 E1177 => ?_)
          clear E1174
          refine wl_nil ?_
          refine then_normal (hK910 _ _ ?_)
          refine wp_ret ?_
          refine ?_
          obtain rfl := Option.some.inj h
          replace H := H.nilRow 38 k_api_Process
          replace H : St w Nil Z w1175 [vw (kSlice 38 k_api_Process) a0.Processes [.slice p891 a0.Processes.length c892], vw (kSlice 81 k_api_Descriptor) u1011.Open [.slice p1069 u1011.Open.length c1070], vw (kSlice 81 k_api_Descriptor) u1011.Open [.slice p1088 u1011.Open.length c1089]] [[blk g896 [.int .i64 a0.Next, .int .i64 a0.NextSession, .slice p891 a0.Processes.length c892] 28], [blk g900 [.int .i64 a2] 3], [blk g904 [.int .i64 0, .int .i64 0, .slice none 0 0] 28], [blk g921 [.int .i64 0, .int .i64 0, .slice none 0 0] 28], [blk g925 [.func (.func 38) #[] #[.pointer (some ⟨g900, 0, none⟩)]] 68], [blk g929 [.int .i64 0, .int .i64 0, .slice none 0 0] 28], [blk g946 [.int .i64 y991.Next, .int .i64 y991.NextSession, .slice p993 y991.Processes.length c994] 28], [blk g950 [.int .i64 0, .int .i64 0, .slice none 0 0] 28], [row 38 k_api_Process y991.Processes (.slice p993 y991.Processes.length c994)], [row 3 (kInt .i64) [a2] (.slice (some ⟨g1043, 0, none⟩) 1 1)], [row 38 k_api_Process ([] : List api_Process) (.slice none 0 0)]] := H
          refine wb_ret2 E1177 rfl (rv_cellN (cs := [.int .i64 0, .int .i64 0, .slice none 0 0]) E1177 rfl Try.underlying28 rfl ti28 (H.get (i := 2) (k := 0) rfl rfl) rfl) (rv_tmp E1177 rfl) ?_
          exact ⟨_, rfl, [], [[row 38 k_api_Process ([] : List api_Process) (.slice none 0 0)]], ⟨_, _, rfl, rfl, rfl⟩, H.leave (fun Z hA => trivial) (fun Z S hA hL => Holds_sub (.cons _ (.cons _ (.cons _ (.cons _ (.cons _ (.cons _ (.cons _ (.cons _ (.cons _ (.cons _ (.cons_cons _ .slnil))))))))))) hL)⟩
        · replace h := itF hb1098 h
          refine wc_F E1097 rfl hb1098 ?_
          refine wp_seq_k fun _ hK1178 => ?_
          refine wp_region_lit ?_
          refine wl_cons (wl_val E1097 rfl (rn_move E1097 rfl rfl) rfl fun a1179 E1180 => ?_)
          clear E1097
          refine wl_cons (wl_val E1180 rfl (rn_nilCheck E1180 rfl rfl) rfl fun a1181 E1182 => ?_)
          clear E1180
          refine wl_cons (wl_val E1182 rfl (rn_fieldAddr E1182 rfl Try.underlying28 rfl ti3 rfl rfl) rfl fun a1183 E1184 => ?_)
          clear E1182
          refine wl_cons (wl_val E1184 rfl (rn_ld1 (i := 6) E1184 H rfl Try.underlying3 rfl rfl rfl rfl) rfl fun a1185 E1186 => ?_)
          clear E1184
          refine wl_cons (wl_val E1186 rfl (rn_int E1186 rfl rfl rfl rfl) rfl fun a1187 E1188 => ?_)
          clear E1186
          refine wl_cons (wl_val E1188 rfl (rn_assign E1188 rfl rfl) rfl fun a1189 E1190 => ?_)
          clear E1188
          refine wl_nil ?_
          refine then_normal (hK1178 _ _ ?_)
          rcases Bool.eq_false_or_eq_true (decide (y991.NextSession ≥ 1073741824)) with hb1191 | hb1191
          · replace h := itT hb1191 h
            refine wc_T E1190 rfl hb1191 ?_
            refine wp_seq_k fun _ hK1192 => ?_
            refine wp_region_lit ?_
            refine wl_cons (wl_val E1190 rfl (rn_assign E1190 rfl rfl) rfl fun a1193 E1194 => ?_)
            clear E1190
            refine wl_nil ?_
            refine then_normal (hK1192 _ _ ?_)
            refine wp_ret ?_
            refine block_ret (then_ret (?_))
            refine wb_ret1 E1194 rfl (rv_tmp E1194 rfl) ⟨_, rfl, ?_⟩
            have E1195 := Env.put E1032 (d := 10) rfl (.int .i64 11)
            generalize hae : Act.put _ (some 10) _ = a1196 at E1195 ⊢; clear hae
            refine wl_cons (wl_val E1195 rfl (rn_assign E1195 rfl rfl) rfl fun a1197 E1198 => ?_)
            clear E1195
            refine wl_cons (wl_val E1198 rfl (rn_assign E1198 rfl rfl) rfl fun a1199 E1200 => ?_)
            clear E1198
            refine wl_nil ?_
            refine then_normal (hK1026 _ _ ?_)
            refine wp_ret ?_
            refine ?_
            refine wb_ret2 E1200 rfl (rv_tmp E1200 rfl) (rv_tmp E1200 rfl) ⟨_, rfl, ?_⟩
            have E1201 := Env.put E1017 (d := 32) rfl (.tuple #[.bool true, .int .i64 11])
            generalize hae : Act.put _ (some 32) _ = a1202 at E1201 ⊢; clear hae
            refine wl_cons (wl_val E1201 rfl (rn_move E1201 rfl rfl) rfl fun a1203 E1204 => ?_)
            clear E1201
            refine wl_cons (wl_val E1204 rfl (rn_extract E1204 rfl rfl rfl) rfl fun a1205 E1206 => ?_)
            clear E1204
            refine wl_cons (wl_val E1206 rfl (rn_extract E1206 rfl rfl rfl) rfl fun a1207 E1208 => ?_)
            clear E1206
            refine wl_cons (wl_val E1208 rfl (rn_assign E1208 rfl rfl) rfl fun a1209 E1210 => ?_)
            clear E1208
            refine wl_cons (wl_val E1210 rfl (rn_assign E1210 rfl rfl) rfl fun a1211 E1212 => ?_)
            clear E1210
            refine wl_nil ?_
            refine then_normal (hK1002 _ _ ?_)
            refine wp_seq_k fun _ hK1213 => ?_
            refine wp_seq_k fun _ hK1214 => ?_
            refine wp_region_lit ?_
            refine wl_cons (wl_val E1212 rfl (rn_move E1212 rfl rfl) rfl fun a1215 E1216 => ?_)
            clear E1212
            refine wl_cons (wl_val E1216 rfl (rn_int E1216 rfl rfl rfl rfl) rfl fun a1217 E1218 => ?_)
            clear E1216
            refine wl_nil ?_
            refine then_normal (hK1214 _ _ ?_)
            refine wc_T E1218 rfl rfl ?_
            refine wp_seq_k fun _ hK1219 => ?_
            refine wp_region_lit ?_
            refine wl_cons (wl_val E1218 rfl (rn_build (ps := []) (cs := [.int .i64 0, .int .i64 0, .slice none 0 0]) E1218 rfl rfl (by kernel_rfl)) rfl fun a1220 E1221 => ?_)
            clear E1218
            refine wl_cons (wl_val E1221 rfl (rn_move E1221 rfl rfl) rfl fun a1222 E1223 => ?_)
            clear E1221
            refine wl_cons (wl_val E1223 rfl (rn_move E1223 rfl rfl) rfl fun a1224 E1225 => ?_)
            clear E1223
            refine wl_cons (wl_store (i := 7) (vs := [.int .i64 0, .int .i64 0, .slice none 0 0]) (cs' := [.int .i64 0, .int .i64 0, .slice none 0 0]) E1225 H rfl rfl rfl rfl ti28 rfl rfl rfl rfl rfl rfl fun w1228 a1226 E1227 H' => ?_)
            clear H E1225; have H := H'; clear H'
            refine wl_cons (wl_val E1227 rfl (rn_assign E1227 rfl rfl) rfl fun a1229 E1230 => ?_)
            clear E1227
            refine wl_cons (wl_val E1230 rfl (rn_assign E1230 rfl rfl) rfl fun a1231 E1232 => ?_)
            clear E1230
            refine wl_nil ?_
            refine then_normal (hK1219 _ _ ?_)
            refine wp_ret ?_
            refine then_ret (?_)
            refine wb_ret3 E1232 rfl (rv_cellN (cs := [.int .i64 0, .int .i64 0, .slice none 0 0]) E1232 rfl Try.underlying28 rfl ti28 (H.get (i := 7) (k := 0) rfl rfl) rfl) (rv_tmp E1232 rfl) (rv_tmp E1232 rfl) ⟨_, rfl, ?_⟩
            have E1233 := Env.put E941 (d := 14) rfl (.tuple #[.agg #[.int .i64 0, .int .i64 0, .slice none 0 0], .bool false, .int .i64 11])
            generalize hae : Act.put _ (some 14) _ = a1234 at E1233 ⊢; clear hae
            refine wl_cons (wl_val E1233 rfl (rn_move E1233 rfl rfl) rfl fun a1235 E1236 => ?_)
            clear E1233
            refine wl_cons (wl_val E1236 rfl (rn_extract E1236 rfl rfl rfl) rfl fun a1237 E1238 => ?_)
            clear E1236
            refine wl_cons (wl_val E1238 rfl (rn_extract E1238 rfl rfl rfl) rfl fun a1239 E1240 => ?_)
            clear E1238
            refine wl_cons (wl_val E1240 rfl (rn_extract E1240 rfl rfl rfl) rfl fun a1241 E1242 => ?_)
            clear E1240
            refine wl_cons (wl_store (i := 3) (vs := [.int .i64 0, .int .i64 0, .slice none 0 0]) (cs' := [.int .i64 0, .int .i64 0, .slice none 0 0]) E1242 H rfl rfl rfl rfl ti28 rfl rfl rfl rfl rfl rfl fun w1245 a1243 E1244 H' => ?_)
            clear H E1242; have H := H'; clear H'
            replace H : St w Nil Z w1245 [vw (kSlice 38 k_api_Process) a0.Processes [.slice p891 a0.Processes.length c892], vw (kSlice 81 k_api_Descriptor) u1011.Open [.slice p1069 u1011.Open.length c1070], vw (kSlice 81 k_api_Descriptor) u1011.Open [.slice p1088 u1011.Open.length c1089]] [[blk g896 [.int .i64 a0.Next, .int .i64 a0.NextSession, .slice p891 a0.Processes.length c892] 28], [blk g900 [.int .i64 a2] 3], [blk g904 [.int .i64 0, .int .i64 0, .slice none 0 0] 28], [blk g921 [.int .i64 0, .int .i64 0, .slice none 0 0] 28], [blk g925 [.func (.func 38) #[] #[.pointer (some ⟨g900, 0, none⟩)]] 68], [blk g929 [.int .i64 0, .int .i64 0, .slice none 0 0] 28], [blk g946 [.int .i64 y991.Next, .int .i64 y991.NextSession, .slice p993 y991.Processes.length c994] 28], [blk g950 [.int .i64 0, .int .i64 0, .slice none 0 0] 28], [row 38 k_api_Process y991.Processes (.slice p993 y991.Processes.length c994)], [row 3 (kInt .i64) [a2] (.slice (some ⟨g1043, 0, none⟩) 1 1)]] := H
            refine wl_cons (wl_val E1244 rfl (rn_assign E1244 rfl rfl) rfl fun a1246 E1247 => ?_)
            clear E1244
            refine wl_cons (wl_val E1247 rfl (rn_assign E1247 rfl rfl) rfl fun a1248 E1249 => ?_)
            clear E1247
            refine wl_nil ?_
            refine then_normal (hK935 _ _ ?_)
            refine wp_seq_k fun _ hK1250 => ?_
            refine wp_region_lit ?_
            refine wl_cons (wl_val E1249 rfl (rn_ldN (i := 3) [.int .i64 0, .int .i64 0, .slice none 0 0] E1249 H rfl Try.underlying28 rfl ti28 rfl rfl rfl rfl) rfl fun a1251 E1252 => ?_)
            clear E1249
            refine wl_cons (wl_val E1252 rfl (rn_move E1252 rfl rfl) rfl fun a1253 E1254 => ?_)
            clear E1252
            refine wl_cons (wl_store (i := 5) (vs := [.int .i64 0, .int .i64 0, .slice none 0 0]) (cs' := [.int .i64 0, .int .i64 0, .slice none 0 0]) E1254 H rfl rfl rfl rfl ti28 rfl rfl rfl rfl rfl rfl fun w1257 a1255 E1256 H' => ?_)
            clear H E1254; have H := H'; clear H'
            refine wl_cons (wl_val E1256 rfl (rn_assign E1256 rfl rfl) rfl fun a1258 E1259 => ?_)
            clear E1256
            refine wl_nil ?_
            refine then_normal (hK1250 _ _ ?_)
            refine wp_ret ?_
            refine ?_
            refine wb_ret2 E1259 rfl (rv_cellN (cs := [.int .i64 0, .int .i64 0, .slice none 0 0]) E1259 rfl Try.underlying28 rfl ti28 (H.get (i := 5) (k := 0) rfl rfl) rfl) (rv_tmp E1259 rfl) ⟨_, rfl, ?_⟩
            have E1260 := Env.put E916 (d := 11) rfl (.tuple #[.agg #[.int .i64 0, .int .i64 0, .slice none 0 0], .int .i64 11])
            generalize hae : Act.put _ (some 11) _ = a1261 at E1260 ⊢; clear hae
            refine wl_cons (wl_val E1260 rfl (rn_extract E1260 rfl rfl rfl) rfl fun a1262 E1263 => ?_)
            clear E1260
            refine wl_cons (wl_val E1263 rfl (rn_extract E1263 rfl rfl rfl) rfl fun a1264 E1265 => ?_)
            clear E1263
            refine wl_cons (wl_store (i := 2) (vs := [.int .i64 0, .int .i64 0, .slice none 0 0]) (cs' := [.int .i64 0, .int .i64 0, .slice none 0 0]) E1265 H rfl rfl rfl rfl ti28 rfl rfl rfl rfl rfl rfl fun w1268 a1266 E1267 H' => ?_)
            clear H E1265; have H := H'; clear H'
            refine wl_cons (wl_val E1267 rfl (rn_assign E1267 rfl rfl) rfl fun a1269 E1270 => ?_)
            clear E1267
            refine wl_nil ?_
            refine then_normal (hK910 _ _ ?_)
            refine wp_ret ?_
            refine ?_
            obtain rfl := Option.some.inj h
            replace H := H.nilRow 38 k_api_Process
            replace H : St w Nil Z w1268 [vw (kSlice 38 k_api_Process) a0.Processes [.slice p891 a0.Processes.length c892], vw (kSlice 81 k_api_Descriptor) u1011.Open [.slice p1069 u1011.Open.length c1070], vw (kSlice 81 k_api_Descriptor) u1011.Open [.slice p1088 u1011.Open.length c1089]] [[blk g896 [.int .i64 a0.Next, .int .i64 a0.NextSession, .slice p891 a0.Processes.length c892] 28], [blk g900 [.int .i64 a2] 3], [blk g904 [.int .i64 0, .int .i64 0, .slice none 0 0] 28], [blk g921 [.int .i64 0, .int .i64 0, .slice none 0 0] 28], [blk g925 [.func (.func 38) #[] #[.pointer (some ⟨g900, 0, none⟩)]] 68], [blk g929 [.int .i64 0, .int .i64 0, .slice none 0 0] 28], [blk g946 [.int .i64 y991.Next, .int .i64 y991.NextSession, .slice p993 y991.Processes.length c994] 28], [blk g950 [.int .i64 0, .int .i64 0, .slice none 0 0] 28], [row 38 k_api_Process y991.Processes (.slice p993 y991.Processes.length c994)], [row 3 (kInt .i64) [a2] (.slice (some ⟨g1043, 0, none⟩) 1 1)], [row 38 k_api_Process ([] : List api_Process) (.slice none 0 0)]] := H
            refine wb_ret2 E1270 rfl (rv_cellN (cs := [.int .i64 0, .int .i64 0, .slice none 0 0]) E1270 rfl Try.underlying28 rfl ti28 (H.get (i := 2) (k := 0) rfl rfl) rfl) (rv_tmp E1270 rfl) ?_
            exact ⟨_, rfl, [], [[row 38 k_api_Process ([] : List api_Process) (.slice none 0 0)]], ⟨_, _, rfl, rfl, rfl⟩, H.leave (fun Z hA => trivial) (fun Z S hA hL => Holds_sub (.cons _ (.cons _ (.cons _ (.cons _ (.cons _ (.cons _ (.cons _ (.cons _ (.cons _ (.cons _ (.cons_cons _ .slnil))))))))))) hL)⟩
          · replace h := itF hb1191 h
            refine wc_F E1190 rfl hb1191 ?_
            refine wp_skip ?_
            refine block_normal ?_
            refine then_normal (hK1039 _ _ ?_)
            refine wp_seq_k fun _ hK1271 => ?_
            refine wa_begin mixed (fun w_ => True) [] [9, 12] H rfl fun w1272 H' => ?_
            clear H; have H := H'; clear H'
            refine wa_take (i := 0) E1190 rfl (by kernel_rfl) (panic_then panic_body) rfl (fun w_ => rn_move E1190 rfl rfl) rfl fun a1273 E1274 => ?_
            clear E1190
            refine wa_take (i := 1) E1274 rfl (by kernel_rfl) (panic_then panic_body) rfl (fun w_ => rn_move E1274 rfl rfl) rfl fun a1275 E1276 => ?_
            clear E1274
            refine wa_takeU (i := 2) E1276 rfl (by kernel_rfl) (by kernel_rfl) (panic_then panic_body) rfl (rn_ld1 (i := 1) E1276 H rfl Try.underlying3 rfl rfl rfl rfl) rfl fun a1277 E1278 => ?_
            clear E1276
            refine wa_take (i := 3) E1278 rfl (by kernel_rfl) (panic_then panic_body) rfl (fun w_ => rn_move E1278 rfl rfl) rfl fun a1279 E1280 => ?_
            clear E1278
            refine wa_take (i := 4) E1280 rfl (by kernel_rfl) (panic_then panic_body) rfl (fun w_ => rn_nilCheck E1280 rfl rfl) rfl fun a1281 E1282 => ?_
            clear E1280
            refine wa_take (i := 5) E1282 rfl (by kernel_rfl) (panic_then panic_body) rfl (fun w_ => rn_fieldAddr E1282 rfl Try.underlying28 rfl ti3 rfl rfl) rfl fun a1283 E1284 => ?_
            clear E1282
            refine wa_takeU (i := 6) E1284 rfl (by kernel_rfl) (by kernel_rfl) (panic_then panic_body) rfl (rn_ld1 (i := 6) E1284 H rfl Try.underlying3 rfl rfl rfl rfl) rfl fun a1285 E1286 => ?_
            clear E1284
            refine wa_take (i := 7) E1286 rfl (by kernel_rfl) (panic_then panic_body) rfl (fun w_ => rn_nilCheck E1286 rfl rfl) rfl fun a1287 E1288 => ?_
            clear E1286
            obtain ⟨q1289, hq1290, hr1291⟩ := rn_fieldAddrI (P := Try.prog) (o := ⟨some 38, .fieldAddr 38 (.tmp 37) 6, 0, "", #[], none⟩) E1288 rfl Try.underlying38 rfl ti3 rfl hq1014 (off' := 6) rfl
            refine wa_take (i := 8) E1288 rfl (by kernel_rfl) (panic_then panic_body) rfl (fun w_ => (hr1291 _)) rfl fun a1292 E1293 => ?_
            clear E1288
            refine wa_only (i := 9) rfl (by kernel_rfl) (by kernel_rfl) (wl_storeI (k := 8) (vs := [.int .i64 a2]) (u' := (⟨u1011.PID, u1011.PPID, u1011.UID, u1011.EUID, u1011.GID, u1011.EGID, a2, u1011.Session, u1011.Cwd, u1011.Comm, u1011.Exe, u1011.Open, u1011.Audited⟩ : api_Process)) E1293 H rfl rfl rfl rfl hq1290 hy1012 ti3 rfl rfl rfl (by decide) (fun Z cs hA hR => by obtain ⟨⟨p1294, c1295⟩, rfl, hB⟩ := k_api_Process_opens hR; exact k_api_Process_shuts (x := (⟨u1011.PID, u1011.PPID, u1011.UID, u1011.EUID, u1011.GID, u1011.EGID, a2, u1011.Session, u1011.Cwd, u1011.Comm, u1011.Exe, u1011.Open, u1011.Audited⟩ : api_Process)) (t := (p1294, c1295)) ⟨(argHolds_get hB (k := 0) rfl), trivial⟩) rfl fun w1298 a1296 E1297 H' => ?_)
            clear H E1293; have H := H'; clear H'
            replace H : St w Nil Z w1298 [vw (kSlice 38 k_api_Process) a0.Processes [.slice p891 a0.Processes.length c892], vw (kSlice 81 k_api_Descriptor) u1011.Open [.slice p1069 u1011.Open.length c1070], vw (kSlice 81 k_api_Descriptor) u1011.Open [.slice p1088 u1011.Open.length c1089]] [[blk g896 [.int .i64 a0.Next, .int .i64 a0.NextSession, .slice p891 a0.Processes.length c892] 28], [blk g900 [.int .i64 a2] 3], [blk g904 [.int .i64 0, .int .i64 0, .slice none 0 0] 28], [blk g921 [.int .i64 a0.Next, .int .i64 a0.NextSession, .slice p891 a0.Processes.length c892] 28], [blk g925 [.func (.func 38) #[] #[.pointer (some ⟨g900, 0, none⟩)]] 68], [blk g929 [.int .i64 0, .int .i64 0, .slice none 0 0] 28], [blk g946 [.int .i64 y991.Next, .int .i64 y991.NextSession, .slice p993 y991.Processes.length c994] 28], [blk g950 [.int .i64 0, .int .i64 0, .slice none 0 0] 28], [row 38 k_api_Process (y991.Processes.set y966.1.toNat (⟨u1011.PID, u1011.PPID, u1011.UID, u1011.EUID, u1011.GID, u1011.EGID, a2, u1011.Session, u1011.Cwd, u1011.Comm, u1011.Exe, u1011.Open, u1011.Audited⟩ : api_Process)) (.slice p993 y991.Processes.length c994)], [row 3 (kInt .i64) [a2] (.slice (some ⟨g1043, 0, none⟩) 1 1)]] := H
            refine ⟨fun h_ => (needs_no (by kernel_rfl) h_).elim, ?_⟩
            refine wa_take (i := 10) E1297 rfl (by kernel_rfl) (panic_then panic_body) rfl (fun w_ => rn_nilCheck E1297 rfl rfl) rfl fun a1299 E1300 => ?_
            clear E1297
            obtain ⟨q1301, hq1302, hr1303⟩ := rn_fieldAddrI (P := Try.prog) (o := ⟨some 40, .fieldAddr 38 (.tmp 39) 7, 0, "", #[], none⟩) E1300 rfl Try.underlying38 rfl ti3 rfl hq1014 (off' := 7) rfl
            refine wa_take (i := 11) E1300 rfl (by kernel_rfl) (panic_then panic_body) rfl (fun w_ => (hr1303 _)) rfl fun a1304 E1305 => ?_
            clear E1300
            obtain ⟨u1306, hy1307, h⟩ := bs h
            refine wa_only (i := 12) rfl (by kernel_rfl) (by kernel_rfl) (wl_storeI (k := 8) (vs := [.int .i64 y991.NextSession]) (u' := (⟨u1306.PID, u1306.PPID, u1306.UID, u1306.EUID, u1306.GID, u1306.EGID, u1306.AUID, y991.NextSession, u1306.Cwd, u1306.Comm, u1306.Exe, u1306.Open, u1306.Audited⟩ : api_Process)) E1305 H rfl rfl rfl rfl hq1302 hy1307 ti3 rfl rfl rfl (by decide) (fun Z cs hA hR => by obtain ⟨⟨p1308, c1309⟩, rfl, hB⟩ := k_api_Process_opens hR; exact k_api_Process_shuts (x := (⟨u1306.PID, u1306.PPID, u1306.UID, u1306.EUID, u1306.GID, u1306.EGID, u1306.AUID, y991.NextSession, u1306.Cwd, u1306.Comm, u1306.Exe, u1306.Open, u1306.Audited⟩ : api_Process)) (t := (p1308, c1309)) ⟨(argHolds_get hB (k := 0) rfl), trivial⟩) rfl fun w1312 a1310 E1311 H' => ?_)
            clear H E1305; have H := H'; clear H'
            refine ⟨fun h_ => (needs_no (by kernel_rfl) h_).elim, ?_⟩
            refine wa_done (by kernel_rfl) ?_
            have hl1313 : ((y991.Processes.set y966.1.toNat (⟨u1011.PID, u1011.PPID, u1011.UID, u1011.EUID, u1011.GID, u1011.EGID, a2, u1011.Session, u1011.Cwd, u1011.Comm, u1011.Exe, u1011.Open, u1011.Audited⟩ : api_Process)).set y966.1.toNat (⟨u1306.PID, u1306.PPID, u1306.UID, u1306.EUID, u1306.GID, u1306.EGID, u1306.AUID, y991.NextSession, u1306.Cwd, u1306.Comm, u1306.Exe, u1306.Open, u1306.Audited⟩ : api_Process)).length = y991.Processes.length := by first | exact List.length_set | (simp only [List.length_set])
            replace H : St w Nil Z w1312 [vw (kSlice 38 k_api_Process) a0.Processes [.slice p891 a0.Processes.length c892], vw (kSlice 81 k_api_Descriptor) u1011.Open [.slice p1069 u1011.Open.length c1070], vw (kSlice 81 k_api_Descriptor) u1011.Open [.slice p1088 u1011.Open.length c1089]] [[blk g896 [.int .i64 a0.Next, .int .i64 a0.NextSession, .slice p891 a0.Processes.length c892] 28], [blk g900 [.int .i64 a2] 3], [blk g904 [.int .i64 0, .int .i64 0, .slice none 0 0] 28], [blk g921 [.int .i64 a0.Next, .int .i64 a0.NextSession, .slice p891 a0.Processes.length c892] 28], [blk g925 [.func (.func 38) #[] #[.pointer (some ⟨g900, 0, none⟩)]] 68], [blk g929 [.int .i64 0, .int .i64 0, .slice none 0 0] 28], [blk g946 [.int .i64 y991.Next, .int .i64 y991.NextSession, .slice p993 (((y991.Processes.set y966.1.toNat (⟨u1011.PID, u1011.PPID, u1011.UID, u1011.EUID, u1011.GID, u1011.EGID, a2, u1011.Session, u1011.Cwd, u1011.Comm, u1011.Exe, u1011.Open, u1011.Audited⟩ : api_Process)).set y966.1.toNat (⟨u1306.PID, u1306.PPID, u1306.UID, u1306.EUID, u1306.GID, u1306.EGID, u1306.AUID, y991.NextSession, u1306.Cwd, u1306.Comm, u1306.Exe, u1306.Open, u1306.Audited⟩ : api_Process)).length) c994] 28], [blk g950 [.int .i64 0, .int .i64 0, .slice none 0 0] 28], [row 38 k_api_Process ((y991.Processes.set y966.1.toNat (⟨u1011.PID, u1011.PPID, u1011.UID, u1011.EUID, u1011.GID, u1011.EGID, a2, u1011.Session, u1011.Cwd, u1011.Comm, u1011.Exe, u1011.Open, u1011.Audited⟩ : api_Process)).set y966.1.toNat (⟨u1306.PID, u1306.PPID, u1306.UID, u1306.EUID, u1306.GID, u1306.EGID, u1306.AUID, y991.NextSession, u1306.Cwd, u1306.Comm, u1306.Exe, u1306.Open, u1306.Audited⟩ : api_Process)) (.slice p993 (((y991.Processes.set y966.1.toNat (⟨u1011.PID, u1011.PPID, u1011.UID, u1011.EUID, u1011.GID, u1011.EGID, a2, u1011.Session, u1011.Cwd, u1011.Comm, u1011.Exe, u1011.Open, u1011.Audited⟩ : api_Process)).set y966.1.toNat (⟨u1306.PID, u1306.PPID, u1306.UID, u1306.EUID, u1306.GID, u1306.EGID, u1306.AUID, y991.NextSession, u1306.Cwd, u1306.Comm, u1306.Exe, u1306.Open, u1306.Audited⟩ : api_Process)).length) c994)], [row 3 (kInt .i64) [a2] (.slice (some ⟨g1043, 0, none⟩) 1 1)]] := by rw [hl1313]; exact H
            replace E1017 : Env 42 a1016 [(0, .agg #[.int .i64 a0.Next, .int .i64 a0.NextSession, .slice p891 a0.Processes.length c892]), (1, .int .i64 a1), (2, .func (.func 57) #[] #[.pointer (some ⟨g925, 0, none⟩)]), (3, .pointer (some ⟨g946, 0, none⟩)), (6, .pointer (some ⟨g950, 0, none⟩)), (7, .bool false), (8, .int .i64 0), (9, .bool false), (15, .agg #[.int .i64 a0.Next, .int .i64 a0.NextSession, .slice p891 a0.Processes.length c892]), (16, .int .i64 a1), (17, .tuple #[.int .i64 y966.1, .bool y966.2]), (14, .tuple #[.int .i64 y966.1, .bool y966.2]), (18, .int .i64 y966.1), (19, .bool y966.2), (10, .int .i64 y966.1), (11, .bool y966.2), (20, .bool y966.2), (21, .bool (!y966.2)), (24, .agg #[.int .i64 a0.Next, .int .i64 a0.NextSession, .slice p891 a0.Processes.length c892]), (25, .agg #[.int .i64 y991.Next, .int .i64 y991.NextSession, .slice p993 (((y991.Processes.set y966.1.toNat (⟨u1011.PID, u1011.PPID, u1011.UID, u1011.EUID, u1011.GID, u1011.EGID, a2, u1011.Session, u1011.Cwd, u1011.Comm, u1011.Exe, u1011.Open, u1011.Audited⟩ : api_Process)).set y966.1.toNat (⟨u1306.PID, u1306.PPID, u1306.UID, u1306.EUID, u1306.GID, u1306.EGID, u1306.AUID, y991.NextSession, u1306.Cwd, u1306.Comm, u1306.Exe, u1306.Open, u1306.Audited⟩ : api_Process)).length) c994]), (27, .func (.func 57) #[] #[.pointer (some ⟨g925, 0, none⟩)]), (28, .pointer (some ⟨g946, 2, none⟩)), (29, .slice p993 (((y991.Processes.set y966.1.toNat (⟨u1011.PID, u1011.PPID, u1011.UID, u1011.EUID, u1011.GID, u1011.EGID, a2, u1011.Session, u1011.Cwd, u1011.Comm, u1011.Exe, u1011.Open, u1011.Audited⟩ : api_Process)).set y966.1.toNat (⟨u1306.PID, u1306.PPID, u1306.UID, u1306.EUID, u1306.GID, u1306.EGID, u1306.AUID, y991.NextSession, u1306.Cwd, u1306.Comm, u1306.Exe, u1306.Open, u1306.Audited⟩ : api_Process)).length) c994), (30, .int .i64 y966.1), (31, .pointer (some q1013))] := by rw [hl1313]; exact E1017.pick ⟨rfl, rfl, rfl, rfl, rfl, rfl, rfl, rfl, rfl, rfl, rfl, rfl, rfl, rfl, rfl, rfl, rfl, rfl, rfl, rfl, rfl, rfl, rfl, rfl, rfl, trivial⟩
            clear hl1313
            refine then_normal (hK1271 _ _ ?_)
            refine wp_seq_k fun _ hK1314 => ?_
            refine wp_region_lit ?_
            refine wl_cons (wl_val E1311 rfl (rn_move E1311 rfl rfl) rfl fun a1315 E1316 => ?_)
            clear E1311
            refine wl_cons (wl_val E1316 rfl (rn_nilCheck E1316 rfl rfl) rfl fun a1317 E1318 => ?_)
            clear E1316
            refine wl_cons (wl_val E1318 rfl (rn_fieldAddr E1318 rfl Try.underlying28 rfl ti3 rfl rfl) rfl fun a1319 E1320 => ?_)
            clear E1318
            refine wl_cons (wl_val E1320 rfl (rn_ld1 (i := 6) E1320 H rfl Try.underlying3 rfl rfl rfl rfl) rfl fun a1321 E1322 => ?_)
            clear E1320
            refine wl_cons (wl_val E1322 rfl (rn_int E1322 rfl rfl rfl rfl) rfl fun a1323 E1324 => ?_)
            clear E1322
            refine wl_cons (wl_val E1324 rfl (rn_nilCheck E1324 rfl rfl) rfl fun a1325 E1326 => ?_)
            clear E1324
            refine wl_cons (wl_val E1326 rfl (rn_fieldAddr E1326 rfl Try.underlying28 rfl ti3 rfl rfl) rfl fun a1327 E1328 => ?_)
            clear E1326
            refine wl_cons (wl_store (i := 6) (vs := [.int .i64 (IntKind.wrap .i64 (y991.NextSession + 1))]) (cs' := [.int .i64 y991.Next, .int .i64 (IntKind.wrap .i64 (y991.NextSession + 1)), .slice p993 (((y991.Processes.set y966.1.toNat (⟨u1011.PID, u1011.PPID, u1011.UID, u1011.EUID, u1011.GID, u1011.EGID, a2, u1011.Session, u1011.Cwd, u1011.Comm, u1011.Exe, u1011.Open, u1011.Audited⟩ : api_Process)).set y966.1.toNat (⟨u1306.PID, u1306.PPID, u1306.UID, u1306.EUID, u1306.GID, u1306.EGID, u1306.AUID, y991.NextSession, u1306.Cwd, u1306.Comm, u1306.Exe, u1306.Open, u1306.Audited⟩ : api_Process)).length) c994]) E1328 H rfl rfl rfl rfl ti3 rfl rfl rfl rfl rfl rfl fun w1331 a1329 E1330 H' => ?_)
            clear H E1328; have H := H'; clear H'
            refine wl_nil ?_
            refine then_normal (hK1314 _ _ ?_)
            refine wp_seq_k fun _ hK1332 => ?_
            refine wp_region_lit ?_
            refine wl_cons (wl_val E1330 rfl (rn_assign E1330 rfl rfl) rfl fun a1333 E1334 => ?_)
            clear E1330
            refine wl_nil ?_
            refine then_normal (hK1332 _ _ ?_)
            refine wp_ret ?_
            refine ?_
            refine wb_ret1 E1334 rfl (rv_tmp E1334 rfl) ⟨_, rfl, ?_⟩
            have E1335 := Env.put E1032 (d := 10) rfl (.int .i64 0)
            generalize hae : Act.put _ (some 10) _ = a1336 at E1335 ⊢; clear hae
            refine wl_cons (wl_val E1335 rfl (rn_assign E1335 rfl rfl) rfl fun a1337 E1338 => ?_)
            clear E1335
            refine wl_cons (wl_val E1338 rfl (rn_assign E1338 rfl rfl) rfl fun a1339 E1340 => ?_)
            clear E1338
            refine wl_nil ?_
            refine then_normal (hK1026 _ _ ?_)
            refine wp_ret ?_
            refine ?_
            refine wb_ret2 E1340 rfl (rv_tmp E1340 rfl) (rv_tmp E1340 rfl) ⟨_, rfl, ?_⟩
            have E1341 := Env.put E1017 (d := 32) rfl (.tuple #[.bool true, .int .i64 0])
            generalize hae : Act.put _ (some 32) _ = a1342 at E1341 ⊢; clear hae
            refine wl_cons (wl_val E1341 rfl (rn_move E1341 rfl rfl) rfl fun a1343 E1344 => ?_)
            clear E1341
            refine wl_cons (wl_val E1344 rfl (rn_extract E1344 rfl rfl rfl) rfl fun a1345 E1346 => ?_)
            clear E1344
            refine wl_cons (wl_val E1346 rfl (rn_extract E1346 rfl rfl rfl) rfl fun a1347 E1348 => ?_)
            clear E1346
            refine wl_cons (wl_val E1348 rfl (rn_assign E1348 rfl rfl) rfl fun a1349 E1350 => ?_)
            clear E1348
            refine wl_cons (wl_val E1350 rfl (rn_assign E1350 rfl rfl) rfl fun a1351 E1352 => ?_)
            clear E1350
            refine wl_nil ?_
            refine then_normal (hK1002 _ _ ?_)
            refine wp_seq_k fun _ hK1353 => ?_
            refine wp_seq_k fun _ hK1354 => ?_
            refine wp_region_lit ?_
            refine wl_cons (wl_val E1352 rfl (rn_move E1352 rfl rfl) rfl fun a1355 E1356 => ?_)
            clear E1352
            refine wl_cons (wl_val E1356 rfl (rn_int E1356 rfl rfl rfl rfl) rfl fun a1357 E1358 => ?_)
            clear E1356
            refine wl_nil ?_
            refine then_normal (hK1354 _ _ ?_)
            refine wc_F E1358 rfl rfl ?_
            refine wp_skip ?_
            refine then_normal (hK1353 _ _ ?_)
            refine wp_seq_k fun _ hK1359 => ?_
            refine wp_region_lit ?_
            refine wl_cons (wl_val E1358 rfl (rn_ldN (i := 6) [.int .i64 y991.Next, .int .i64 (IntKind.wrap .i64 (y991.NextSession + 1)), .slice p993 (((y991.Processes.set y966.1.toNat (⟨u1011.PID, u1011.PPID, u1011.UID, u1011.EUID, u1011.GID, u1011.EGID, a2, u1011.Session, u1011.Cwd, u1011.Comm, u1011.Exe, u1011.Open, u1011.Audited⟩ : api_Process)).set y966.1.toNat (⟨u1306.PID, u1306.PPID, u1306.UID, u1306.EUID, u1306.GID, u1306.EGID, u1306.AUID, y991.NextSession, u1306.Cwd, u1306.Comm, u1306.Exe, u1306.Open, u1306.Audited⟩ : api_Process)).length) c994] E1358 H rfl Try.underlying28 rfl ti28 rfl rfl rfl rfl) rfl fun a1360 E1361 => ?_)
            clear E1358
            refine wl_cons (wl_val E1361 rfl (rn_move E1361 rfl rfl) rfl fun a1362 E1363 => ?_)
            clear E1361
            refine wl_cons (wl_store (i := 7) (vs := [.int .i64 y991.Next, .int .i64 (IntKind.wrap .i64 (y991.NextSession + 1)), .slice p993 (((y991.Processes.set y966.1.toNat (⟨u1011.PID, u1011.PPID, u1011.UID, u1011.EUID, u1011.GID, u1011.EGID, a2, u1011.Session, u1011.Cwd, u1011.Comm, u1011.Exe, u1011.Open, u1011.Audited⟩ : api_Process)).set y966.1.toNat (⟨u1306.PID, u1306.PPID, u1306.UID, u1306.EUID, u1306.GID, u1306.EGID, u1306.AUID, y991.NextSession, u1306.Cwd, u1306.Comm, u1306.Exe, u1306.Open, u1306.Audited⟩ : api_Process)).length) c994]) (cs' := [.int .i64 y991.Next, .int .i64 (IntKind.wrap .i64 (y991.NextSession + 1)), .slice p993 (((y991.Processes.set y966.1.toNat (⟨u1011.PID, u1011.PPID, u1011.UID, u1011.EUID, u1011.GID, u1011.EGID, a2, u1011.Session, u1011.Cwd, u1011.Comm, u1011.Exe, u1011.Open, u1011.Audited⟩ : api_Process)).set y966.1.toNat (⟨u1306.PID, u1306.PPID, u1306.UID, u1306.EUID, u1306.GID, u1306.EGID, u1306.AUID, y991.NextSession, u1306.Cwd, u1306.Comm, u1306.Exe, u1306.Open, u1306.Audited⟩ : api_Process)).length) c994]) E1363 H rfl rfl rfl rfl ti28 rfl rfl rfl rfl rfl rfl fun w1366 a1364 E1365 H' => ?_)
            clear H E1363; have H := H'; clear H'
            replace H : St w Nil Z w1366 [vw (kSlice 38 k_api_Process) a0.Processes [.slice p891 a0.Processes.length c892], vw (kSlice 81 k_api_Descriptor) u1011.Open [.slice p1069 u1011.Open.length c1070], vw (kSlice 81 k_api_Descriptor) u1011.Open [.slice p1088 u1011.Open.length c1089]] [[blk g896 [.int .i64 a0.Next, .int .i64 a0.NextSession, .slice p891 a0.Processes.length c892] 28], [blk g900 [.int .i64 a2] 3], [blk g904 [.int .i64 0, .int .i64 0, .slice none 0 0] 28], [blk g921 [.int .i64 a0.Next, .int .i64 a0.NextSession, .slice p891 a0.Processes.length c892] 28], [blk g925 [.func (.func 38) #[] #[.pointer (some ⟨g900, 0, none⟩)]] 68], [blk g929 [.int .i64 0, .int .i64 0, .slice none 0 0] 28], [blk g946 [.int .i64 y991.Next, .int .i64 (IntKind.wrap .i64 (y991.NextSession + 1)), .slice p993 (((y991.Processes.set y966.1.toNat (⟨u1011.PID, u1011.PPID, u1011.UID, u1011.EUID, u1011.GID, u1011.EGID, a2, u1011.Session, u1011.Cwd, u1011.Comm, u1011.Exe, u1011.Open, u1011.Audited⟩ : api_Process)).set y966.1.toNat (⟨u1306.PID, u1306.PPID, u1306.UID, u1306.EUID, u1306.GID, u1306.EGID, u1306.AUID, y991.NextSession, u1306.Cwd, u1306.Comm, u1306.Exe, u1306.Open, u1306.Audited⟩ : api_Process)).length) c994] 28], [blk g950 [.int .i64 y991.Next, .int .i64 (IntKind.wrap .i64 (y991.NextSession + 1)), .slice p993 (((y991.Processes.set y966.1.toNat (⟨u1011.PID, u1011.PPID, u1011.UID, u1011.EUID, u1011.GID, u1011.EGID, a2, u1011.Session, u1011.Cwd, u1011.Comm, u1011.Exe, u1011.Open, u1011.Audited⟩ : api_Process)).set y966.1.toNat (⟨u1306.PID, u1306.PPID, u1306.UID, u1306.EUID, u1306.GID, u1306.EGID, u1306.AUID, y991.NextSession, u1306.Cwd, u1306.Comm, u1306.Exe, u1306.Open, u1306.Audited⟩ : api_Process)).length) c994] 28], [row 38 k_api_Process ((y991.Processes.set y966.1.toNat (⟨u1011.PID, u1011.PPID, u1011.UID, u1011.EUID, u1011.GID, u1011.EGID, a2, u1011.Session, u1011.Cwd, u1011.Comm, u1011.Exe, u1011.Open, u1011.Audited⟩ : api_Process)).set y966.1.toNat (⟨u1306.PID, u1306.PPID, u1306.UID, u1306.EUID, u1306.GID, u1306.EGID, u1306.AUID, y991.NextSession, u1306.Cwd, u1306.Comm, u1306.Exe, u1306.Open, u1306.Audited⟩ : api_Process)) (.slice p993 (((y991.Processes.set y966.1.toNat (⟨u1011.PID, u1011.PPID, u1011.UID, u1011.EUID, u1011.GID, u1011.EGID, a2, u1011.Session, u1011.Cwd, u1011.Comm, u1011.Exe, u1011.Open, u1011.Audited⟩ : api_Process)).set y966.1.toNat (⟨u1306.PID, u1306.PPID, u1306.UID, u1306.EUID, u1306.GID, u1306.EGID, u1306.AUID, y991.NextSession, u1306.Cwd, u1306.Comm, u1306.Exe, u1306.Open, u1306.Audited⟩ : api_Process)).length) c994)], [row 3 (kInt .i64) [a2] (.slice (some ⟨g1043, 0, none⟩) 1 1)]] := H
            refine wl_cons (wl_val E1365 rfl (rn_assign E1365 rfl rfl) rfl fun a1367 E1368 => ?_)
            clear E1365
            refine wl_cons (wl_val E1368 rfl (rn_assign E1368 rfl rfl) rfl fun a1369 E1370 => ?_)
            clear E1368
            refine wl_nil ?_
            refine then_normal (hK1359 _ _ ?_)
            refine wp_ret ?_
            refine ?_
            refine wb_ret3 E1370 rfl (rv_cellN (cs := [.int .i64 y991.Next, .int .i64 (IntKind.wrap .i64 (y991.NextSession + 1)), .slice p993 (((y991.Processes.set y966.1.toNat (⟨u1011.PID, u1011.PPID, u1011.UID, u1011.EUID, u1011.GID, u1011.EGID, a2, u1011.Session, u1011.Cwd, u1011.Comm, u1011.Exe, u1011.Open, u1011.Audited⟩ : api_Process)).set y966.1.toNat (⟨u1306.PID, u1306.PPID, u1306.UID, u1306.EUID, u1306.GID, u1306.EGID, u1306.AUID, y991.NextSession, u1306.Cwd, u1306.Comm, u1306.Exe, u1306.Open, u1306.Audited⟩ : api_Process)).length) c994]) E1370 rfl Try.underlying28 rfl ti28 (H.get (i := 7) (k := 0) rfl rfl) rfl) (rv_tmp E1370 rfl) (rv_tmp E1370 rfl) ⟨_, rfl, ?_⟩
            have E1371 := Env.put E941 (d := 14) rfl (.tuple #[.agg #[.int .i64 y991.Next, .int .i64 (IntKind.wrap .i64 (y991.NextSession + 1)), .slice p993 (((y991.Processes.set y966.1.toNat (⟨u1011.PID, u1011.PPID, u1011.UID, u1011.EUID, u1011.GID, u1011.EGID, a2, u1011.Session, u1011.Cwd, u1011.Comm, u1011.Exe, u1011.Open, u1011.Audited⟩ : api_Process)).set y966.1.toNat (⟨u1306.PID, u1306.PPID, u1306.UID, u1306.EUID, u1306.GID, u1306.EGID, u1306.AUID, y991.NextSession, u1306.Cwd, u1306.Comm, u1306.Exe, u1306.Open, u1306.Audited⟩ : api_Process)).length) c994], .bool true, .int .i64 0])
            generalize hae : Act.put _ (some 14) _ = a1372 at E1371 ⊢; clear hae
            refine wl_cons (wl_val E1371 rfl (rn_move E1371 rfl rfl) rfl fun a1373 E1374 => ?_)
            clear E1371
            refine wl_cons (wl_val E1374 rfl (rn_extract E1374 rfl rfl rfl) rfl fun a1375 E1376 => ?_)
            clear E1374
            refine wl_cons (wl_val E1376 rfl (rn_extract E1376 rfl rfl rfl) rfl fun a1377 E1378 => ?_)
            clear E1376
            refine wl_cons (wl_val E1378 rfl (rn_extract E1378 rfl rfl rfl) rfl fun a1379 E1380 => ?_)
            clear E1378
            refine wl_cons (wl_store (i := 3) (vs := [.int .i64 y991.Next, .int .i64 (IntKind.wrap .i64 (y991.NextSession + 1)), .slice p993 (((y991.Processes.set y966.1.toNat (⟨u1011.PID, u1011.PPID, u1011.UID, u1011.EUID, u1011.GID, u1011.EGID, a2, u1011.Session, u1011.Cwd, u1011.Comm, u1011.Exe, u1011.Open, u1011.Audited⟩ : api_Process)).set y966.1.toNat (⟨u1306.PID, u1306.PPID, u1306.UID, u1306.EUID, u1306.GID, u1306.EGID, u1306.AUID, y991.NextSession, u1306.Cwd, u1306.Comm, u1306.Exe, u1306.Open, u1306.Audited⟩ : api_Process)).length) c994]) (cs' := [.int .i64 y991.Next, .int .i64 (IntKind.wrap .i64 (y991.NextSession + 1)), .slice p993 (((y991.Processes.set y966.1.toNat (⟨u1011.PID, u1011.PPID, u1011.UID, u1011.EUID, u1011.GID, u1011.EGID, a2, u1011.Session, u1011.Cwd, u1011.Comm, u1011.Exe, u1011.Open, u1011.Audited⟩ : api_Process)).set y966.1.toNat (⟨u1306.PID, u1306.PPID, u1306.UID, u1306.EUID, u1306.GID, u1306.EGID, u1306.AUID, y991.NextSession, u1306.Cwd, u1306.Comm, u1306.Exe, u1306.Open, u1306.Audited⟩ : api_Process)).length) c994]) E1380 H rfl rfl rfl rfl ti28 rfl rfl rfl rfl rfl rfl fun w1383 a1381 E1382 H' => ?_)
            clear H E1380; have H := H'; clear H'
            refine wl_cons (wl_val E1382 rfl (rn_assign E1382 rfl rfl) rfl fun a1384 E1385 => ?_)
            clear E1382
            refine wl_cons (wl_val E1385 rfl (rn_assign E1385 rfl rfl) rfl fun a1386 E1387 => ?_)
            clear E1385
            refine wl_nil ?_
            refine then_normal (hK935 _ _ ?_)
            refine wp_seq_k fun _ hK1388 => ?_
            refine wp_region_lit ?_
            refine wl_cons (wl_val E1387 rfl (rn_ldN (i := 3) [.int .i64 y991.Next, .int .i64 (IntKind.wrap .i64 (y991.NextSession + 1)), .slice p993 (((y991.Processes.set y966.1.toNat (⟨u1011.PID, u1011.PPID, u1011.UID, u1011.EUID, u1011.GID, u1011.EGID, a2, u1011.Session, u1011.Cwd, u1011.Comm, u1011.Exe, u1011.Open, u1011.Audited⟩ : api_Process)).set y966.1.toNat (⟨u1306.PID, u1306.PPID, u1306.UID, u1306.EUID, u1306.GID, u1306.EGID, u1306.AUID, y991.NextSession, u1306.Cwd, u1306.Comm, u1306.Exe, u1306.Open, u1306.Audited⟩ : api_Process)).length) c994] E1387 H rfl Try.underlying28 rfl ti28 rfl rfl rfl rfl) rfl fun a1389 E1390 => ?_)
            clear E1387
            refine wl_cons (wl_val E1390 rfl (rn_move E1390 rfl rfl) rfl fun a1391 E1392 => ?_)
            clear E1390
            refine wl_cons (wl_store (i := 5) (vs := [.int .i64 y991.Next, .int .i64 (IntKind.wrap .i64 (y991.NextSession + 1)), .slice p993 (((y991.Processes.set y966.1.toNat (⟨u1011.PID, u1011.PPID, u1011.UID, u1011.EUID, u1011.GID, u1011.EGID, a2, u1011.Session, u1011.Cwd, u1011.Comm, u1011.Exe, u1011.Open, u1011.Audited⟩ : api_Process)).set y966.1.toNat (⟨u1306.PID, u1306.PPID, u1306.UID, u1306.EUID, u1306.GID, u1306.EGID, u1306.AUID, y991.NextSession, u1306.Cwd, u1306.Comm, u1306.Exe, u1306.Open, u1306.Audited⟩ : api_Process)).length) c994]) (cs' := [.int .i64 y991.Next, .int .i64 (IntKind.wrap .i64 (y991.NextSession + 1)), .slice p993 (((y991.Processes.set y966.1.toNat (⟨u1011.PID, u1011.PPID, u1011.UID, u1011.EUID, u1011.GID, u1011.EGID, a2, u1011.Session, u1011.Cwd, u1011.Comm, u1011.Exe, u1011.Open, u1011.Audited⟩ : api_Process)).set y966.1.toNat (⟨u1306.PID, u1306.PPID, u1306.UID, u1306.EUID, u1306.GID, u1306.EGID, u1306.AUID, y991.NextSession, u1306.Cwd, u1306.Comm, u1306.Exe, u1306.Open, u1306.Audited⟩ : api_Process)).length) c994]) E1392 H rfl rfl rfl rfl ti28 rfl rfl rfl rfl rfl rfl fun w1395 a1393 E1394 H' => ?_)
            clear H E1392; have H := H'; clear H'
            refine wl_cons (wl_val E1394 rfl (rn_assign E1394 rfl rfl) rfl fun a1396 E1397 => ?_)
            clear E1394
            refine wl_nil ?_
            refine then_normal (hK1388 _ _ ?_)
            refine wp_ret ?_
            refine ?_
            refine wb_ret2 E1397 rfl (rv_cellN (cs := [.int .i64 y991.Next, .int .i64 (IntKind.wrap .i64 (y991.NextSession + 1)), .slice p993 (((y991.Processes.set y966.1.toNat (⟨u1011.PID, u1011.PPID, u1011.UID, u1011.EUID, u1011.GID, u1011.EGID, a2, u1011.Session, u1011.Cwd, u1011.Comm, u1011.Exe, u1011.Open, u1011.Audited⟩ : api_Process)).set y966.1.toNat (⟨u1306.PID, u1306.PPID, u1306.UID, u1306.EUID, u1306.GID, u1306.EGID, u1306.AUID, y991.NextSession, u1306.Cwd, u1306.Comm, u1306.Exe, u1306.Open, u1306.Audited⟩ : api_Process)).length) c994]) E1397 rfl Try.underlying28 rfl ti28 (H.get (i := 5) (k := 0) rfl rfl) rfl) (rv_tmp E1397 rfl) ⟨_, rfl, ?_⟩
            have E1398 := Env.put E916 (d := 11) rfl (.tuple #[.agg #[.int .i64 y991.Next, .int .i64 (IntKind.wrap .i64 (y991.NextSession + 1)), .slice p993 (((y991.Processes.set y966.1.toNat (⟨u1011.PID, u1011.PPID, u1011.UID, u1011.EUID, u1011.GID, u1011.EGID, a2, u1011.Session, u1011.Cwd, u1011.Comm, u1011.Exe, u1011.Open, u1011.Audited⟩ : api_Process)).set y966.1.toNat (⟨u1306.PID, u1306.PPID, u1306.UID, u1306.EUID, u1306.GID, u1306.EGID, u1306.AUID, y991.NextSession, u1306.Cwd, u1306.Comm, u1306.Exe, u1306.Open, u1306.Audited⟩ : api_Process)).length) c994], .int .i64 0])
            generalize hae : Act.put _ (some 11) _ = a1399 at E1398 ⊢; clear hae
            refine wl_cons (wl_val E1398 rfl (rn_extract E1398 rfl rfl rfl) rfl fun a1400 E1401 => ?_)
            clear E1398
            refine wl_cons (wl_val E1401 rfl (rn_extract E1401 rfl rfl rfl) rfl fun a1402 E1403 => ?_)
            clear E1401
            refine wl_cons (wl_store (i := 2) (vs := [.int .i64 y991.Next, .int .i64 (IntKind.wrap .i64 (y991.NextSession + 1)), .slice p993 (((y991.Processes.set y966.1.toNat (⟨u1011.PID, u1011.PPID, u1011.UID, u1011.EUID, u1011.GID, u1011.EGID, a2, u1011.Session, u1011.Cwd, u1011.Comm, u1011.Exe, u1011.Open, u1011.Audited⟩ : api_Process)).set y966.1.toNat (⟨u1306.PID, u1306.PPID, u1306.UID, u1306.EUID, u1306.GID, u1306.EGID, u1306.AUID, y991.NextSession, u1306.Cwd, u1306.Comm, u1306.Exe, u1306.Open, u1306.Audited⟩ : api_Process)).length) c994]) (cs' := [.int .i64 y991.Next, .int .i64 (IntKind.wrap .i64 (y991.NextSession + 1)), .slice p993 (((y991.Processes.set y966.1.toNat (⟨u1011.PID, u1011.PPID, u1011.UID, u1011.EUID, u1011.GID, u1011.EGID, a2, u1011.Session, u1011.Cwd, u1011.Comm, u1011.Exe, u1011.Open, u1011.Audited⟩ : api_Process)).set y966.1.toNat (⟨u1306.PID, u1306.PPID, u1306.UID, u1306.EUID, u1306.GID, u1306.EGID, u1306.AUID, y991.NextSession, u1306.Cwd, u1306.Comm, u1306.Exe, u1306.Open, u1306.Audited⟩ : api_Process)).length) c994]) E1403 H rfl rfl rfl rfl ti28 rfl rfl rfl rfl rfl rfl fun w1406 a1404 E1405 H' => ?_)
            clear H E1403; have H := H'; clear H'
            replace H : St w Nil Z w1406 [vw (kSlice 38 k_api_Process) a0.Processes [.slice p891 a0.Processes.length c892], vw (kSlice 81 k_api_Descriptor) u1011.Open [.slice p1069 u1011.Open.length c1070], vw (kSlice 81 k_api_Descriptor) u1011.Open [.slice p1088 u1011.Open.length c1089]] [[blk g896 [.int .i64 a0.Next, .int .i64 a0.NextSession, .slice p891 a0.Processes.length c892] 28], [blk g900 [.int .i64 a2] 3], [blk g904 [.int .i64 y991.Next, .int .i64 (IntKind.wrap .i64 (y991.NextSession + 1)), .slice p993 (((y991.Processes.set y966.1.toNat (⟨u1011.PID, u1011.PPID, u1011.UID, u1011.EUID, u1011.GID, u1011.EGID, a2, u1011.Session, u1011.Cwd, u1011.Comm, u1011.Exe, u1011.Open, u1011.Audited⟩ : api_Process)).set y966.1.toNat (⟨u1306.PID, u1306.PPID, u1306.UID, u1306.EUID, u1306.GID, u1306.EGID, u1306.AUID, y991.NextSession, u1306.Cwd, u1306.Comm, u1306.Exe, u1306.Open, u1306.Audited⟩ : api_Process)).length) c994] 28], [blk g921 [.int .i64 y991.Next, .int .i64 (IntKind.wrap .i64 (y991.NextSession + 1)), .slice p993 (((y991.Processes.set y966.1.toNat (⟨u1011.PID, u1011.PPID, u1011.UID, u1011.EUID, u1011.GID, u1011.EGID, a2, u1011.Session, u1011.Cwd, u1011.Comm, u1011.Exe, u1011.Open, u1011.Audited⟩ : api_Process)).set y966.1.toNat (⟨u1306.PID, u1306.PPID, u1306.UID, u1306.EUID, u1306.GID, u1306.EGID, u1306.AUID, y991.NextSession, u1306.Cwd, u1306.Comm, u1306.Exe, u1306.Open, u1306.Audited⟩ : api_Process)).length) c994] 28], [blk g925 [.func (.func 38) #[] #[.pointer (some ⟨g900, 0, none⟩)]] 68], [blk g929 [.int .i64 y991.Next, .int .i64 (IntKind.wrap .i64 (y991.NextSession + 1)), .slice p993 (((y991.Processes.set y966.1.toNat (⟨u1011.PID, u1011.PPID, u1011.UID, u1011.EUID, u1011.GID, u1011.EGID, a2, u1011.Session, u1011.Cwd, u1011.Comm, u1011.Exe, u1011.Open, u1011.Audited⟩ : api_Process)).set y966.1.toNat (⟨u1306.PID, u1306.PPID, u1306.UID, u1306.EUID, u1306.GID, u1306.EGID, u1306.AUID, y991.NextSession, u1306.Cwd, u1306.Comm, u1306.Exe, u1306.Open, u1306.Audited⟩ : api_Process)).length) c994] 28], [blk g946 [.int .i64 y991.Next, .int .i64 (IntKind.wrap .i64 (y991.NextSession + 1)), .slice p993 (((y991.Processes.set y966.1.toNat (⟨u1011.PID, u1011.PPID, u1011.UID, u1011.EUID, u1011.GID, u1011.EGID, a2, u1011.Session, u1011.Cwd, u1011.Comm, u1011.Exe, u1011.Open, u1011.Audited⟩ : api_Process)).set y966.1.toNat (⟨u1306.PID, u1306.PPID, u1306.UID, u1306.EUID, u1306.GID, u1306.EGID, u1306.AUID, y991.NextSession, u1306.Cwd, u1306.Comm, u1306.Exe, u1306.Open, u1306.Audited⟩ : api_Process)).length) c994] 28], [blk g950 [.int .i64 y991.Next, .int .i64 (IntKind.wrap .i64 (y991.NextSession + 1)), .slice p993 (((y991.Processes.set y966.1.toNat (⟨u1011.PID, u1011.PPID, u1011.UID, u1011.EUID, u1011.GID, u1011.EGID, a2, u1011.Session, u1011.Cwd, u1011.Comm, u1011.Exe, u1011.Open, u1011.Audited⟩ : api_Process)).set y966.1.toNat (⟨u1306.PID, u1306.PPID, u1306.UID, u1306.EUID, u1306.GID, u1306.EGID, u1306.AUID, y991.NextSession, u1306.Cwd, u1306.Comm, u1306.Exe, u1306.Open, u1306.Audited⟩ : api_Process)).length) c994] 28], [row 38 k_api_Process ((y991.Processes.set y966.1.toNat (⟨u1011.PID, u1011.PPID, u1011.UID, u1011.EUID, u1011.GID, u1011.EGID, a2, u1011.Session, u1011.Cwd, u1011.Comm, u1011.Exe, u1011.Open, u1011.Audited⟩ : api_Process)).set y966.1.toNat (⟨u1306.PID, u1306.PPID, u1306.UID, u1306.EUID, u1306.GID, u1306.EGID, u1306.AUID, y991.NextSession, u1306.Cwd, u1306.Comm, u1306.Exe, u1306.Open, u1306.Audited⟩ : api_Process)) (.slice p993 (((y991.Processes.set y966.1.toNat (⟨u1011.PID, u1011.PPID, u1011.UID, u1011.EUID, u1011.GID, u1011.EGID, a2, u1011.Session, u1011.Cwd, u1011.Comm, u1011.Exe, u1011.Open, u1011.Audited⟩ : api_Process)).set y966.1.toNat (⟨u1306.PID, u1306.PPID, u1306.UID, u1306.EUID, u1306.GID, u1306.EGID, u1306.AUID, y991.NextSession, u1306.Cwd, u1306.Comm, u1306.Exe, u1306.Open, u1306.Audited⟩ : api_Process)).length) c994)], [row 3 (kInt .i64) [a2] (.slice (some ⟨g1043, 0, none⟩) 1 1)]] := H
            refine wl_cons (wl_val E1405 rfl (rn_assign E1405 rfl rfl) rfl fun a1407 E1408 => ?_)
            clear E1405
            refine wl_nil ?_
            refine then_normal (hK910 _ _ ?_)
            refine wp_ret ?_
            refine ?_
            obtain rfl := Option.some.inj h
            replace H : St w Nil Z w1406 [vw (kSlice 38 k_api_Process) a0.Processes [.slice p891 a0.Processes.length c892], vw (kSlice 81 k_api_Descriptor) u1011.Open [.slice p1069 u1011.Open.length c1070], vw (kSlice 81 k_api_Descriptor) u1011.Open [.slice p1088 u1011.Open.length c1089]] [[blk g896 [.int .i64 a0.Next, .int .i64 a0.NextSession, .slice p891 a0.Processes.length c892] 28], [blk g900 [.int .i64 a2] 3], [blk g904 [.int .i64 y991.Next, .int .i64 (IntKind.wrap .i64 (y991.NextSession + 1)), .slice p993 (((y991.Processes.set y966.1.toNat (⟨u1011.PID, u1011.PPID, u1011.UID, u1011.EUID, u1011.GID, u1011.EGID, a2, u1011.Session, u1011.Cwd, u1011.Comm, u1011.Exe, u1011.Open, u1011.Audited⟩ : api_Process)).set y966.1.toNat (⟨u1306.PID, u1306.PPID, u1306.UID, u1306.EUID, u1306.GID, u1306.EGID, u1306.AUID, y991.NextSession, u1306.Cwd, u1306.Comm, u1306.Exe, u1306.Open, u1306.Audited⟩ : api_Process)).length) c994] 28], [blk g921 [.int .i64 y991.Next, .int .i64 (IntKind.wrap .i64 (y991.NextSession + 1)), .slice p993 (((y991.Processes.set y966.1.toNat (⟨u1011.PID, u1011.PPID, u1011.UID, u1011.EUID, u1011.GID, u1011.EGID, a2, u1011.Session, u1011.Cwd, u1011.Comm, u1011.Exe, u1011.Open, u1011.Audited⟩ : api_Process)).set y966.1.toNat (⟨u1306.PID, u1306.PPID, u1306.UID, u1306.EUID, u1306.GID, u1306.EGID, u1306.AUID, y991.NextSession, u1306.Cwd, u1306.Comm, u1306.Exe, u1306.Open, u1306.Audited⟩ : api_Process)).length) c994] 28], [blk g925 [.func (.func 38) #[] #[.pointer (some ⟨g900, 0, none⟩)]] 68], [blk g929 [.int .i64 y991.Next, .int .i64 (IntKind.wrap .i64 (y991.NextSession + 1)), .slice p993 (((y991.Processes.set y966.1.toNat (⟨u1011.PID, u1011.PPID, u1011.UID, u1011.EUID, u1011.GID, u1011.EGID, a2, u1011.Session, u1011.Cwd, u1011.Comm, u1011.Exe, u1011.Open, u1011.Audited⟩ : api_Process)).set y966.1.toNat (⟨u1306.PID, u1306.PPID, u1306.UID, u1306.EUID, u1306.GID, u1306.EGID, u1306.AUID, y991.NextSession, u1306.Cwd, u1306.Comm, u1306.Exe, u1306.Open, u1306.Audited⟩ : api_Process)).length) c994] 28], [blk g946 [.int .i64 y991.Next, .int .i64 (IntKind.wrap .i64 (y991.NextSession + 1)), .slice p993 (((y991.Processes.set y966.1.toNat (⟨u1011.PID, u1011.PPID, u1011.UID, u1011.EUID, u1011.GID, u1011.EGID, a2, u1011.Session, u1011.Cwd, u1011.Comm, u1011.Exe, u1011.Open, u1011.Audited⟩ : api_Process)).set y966.1.toNat (⟨u1306.PID, u1306.PPID, u1306.UID, u1306.EUID, u1306.GID, u1306.EGID, u1306.AUID, y991.NextSession, u1306.Cwd, u1306.Comm, u1306.Exe, u1306.Open, u1306.Audited⟩ : api_Process)).length) c994] 28], [blk g950 [.int .i64 y991.Next, .int .i64 (IntKind.wrap .i64 (y991.NextSession + 1)), .slice p993 (((y991.Processes.set y966.1.toNat (⟨u1011.PID, u1011.PPID, u1011.UID, u1011.EUID, u1011.GID, u1011.EGID, a2, u1011.Session, u1011.Cwd, u1011.Comm, u1011.Exe, u1011.Open, u1011.Audited⟩ : api_Process)).set y966.1.toNat (⟨u1306.PID, u1306.PPID, u1306.UID, u1306.EUID, u1306.GID, u1306.EGID, u1306.AUID, y991.NextSession, u1306.Cwd, u1306.Comm, u1306.Exe, u1306.Open, u1306.Audited⟩ : api_Process)).length) c994] 28], [row 38 k_api_Process ((y991.Processes.set y966.1.toNat (⟨u1011.PID, u1011.PPID, u1011.UID, u1011.EUID, u1011.GID, u1011.EGID, a2, u1011.Session, u1011.Cwd, u1011.Comm, u1011.Exe, u1011.Open, u1011.Audited⟩ : api_Process)).set y966.1.toNat (⟨u1306.PID, u1306.PPID, u1306.UID, u1306.EUID, u1306.GID, u1306.EGID, u1306.AUID, y991.NextSession, u1306.Cwd, u1306.Comm, u1306.Exe, u1306.Open, u1306.Audited⟩ : api_Process)) (.slice p993 (((y991.Processes.set y966.1.toNat (⟨u1011.PID, u1011.PPID, u1011.UID, u1011.EUID, u1011.GID, u1011.EGID, a2, u1011.Session, u1011.Cwd, u1011.Comm, u1011.Exe, u1011.Open, u1011.Audited⟩ : api_Process)).set y966.1.toNat (⟨u1306.PID, u1306.PPID, u1306.UID, u1306.EUID, u1306.GID, u1306.EGID, u1306.AUID, y991.NextSession, u1306.Cwd, u1306.Comm, u1306.Exe, u1306.Open, u1306.Audited⟩ : api_Process)).length) c994)], [row 3 (kInt .i64) [a2] (.slice (some ⟨g1043, 0, none⟩) 1 1)]] := H
            refine wb_ret2 E1408 rfl (rv_cellN (cs := [.int .i64 y991.Next, .int .i64 (IntKind.wrap .i64 (y991.NextSession + 1)), .slice p993 (((y991.Processes.set y966.1.toNat (⟨u1011.PID, u1011.PPID, u1011.UID, u1011.EUID, u1011.GID, u1011.EGID, a2, u1011.Session, u1011.Cwd, u1011.Comm, u1011.Exe, u1011.Open, u1011.Audited⟩ : api_Process)).set y966.1.toNat (⟨u1306.PID, u1306.PPID, u1306.UID, u1306.EUID, u1306.GID, u1306.EGID, u1306.AUID, y991.NextSession, u1306.Cwd, u1306.Comm, u1306.Exe, u1306.Open, u1306.Audited⟩ : api_Process)).length) c994]) E1408 rfl Try.underlying28 rfl ti28 (H.get (i := 2) (k := 0) rfl rfl) rfl) (rv_tmp E1408 rfl) ?_
            exact ⟨_, rfl, [], [[row 38 k_api_Process ((y991.Processes.set y966.1.toNat (⟨u1011.PID, u1011.PPID, u1011.UID, u1011.EUID, u1011.GID, u1011.EGID, a2, u1011.Session, u1011.Cwd, u1011.Comm, u1011.Exe, u1011.Open, u1011.Audited⟩ : api_Process)).set y966.1.toNat (⟨u1306.PID, u1306.PPID, u1306.UID, u1306.EUID, u1306.GID, u1306.EGID, u1306.AUID, y991.NextSession, u1306.Cwd, u1306.Comm, u1306.Exe, u1306.Open, u1306.Audited⟩ : api_Process)) (.slice p993 (((y991.Processes.set y966.1.toNat (⟨u1011.PID, u1011.PPID, u1011.UID, u1011.EUID, u1011.GID, u1011.EGID, a2, u1011.Session, u1011.Cwd, u1011.Comm, u1011.Exe, u1011.Open, u1011.Audited⟩ : api_Process)).set y966.1.toNat (⟨u1306.PID, u1306.PPID, u1306.UID, u1306.EUID, u1306.GID, u1306.EGID, u1306.AUID, y991.NextSession, u1306.Cwd, u1306.Comm, u1306.Exe, u1306.Open, u1306.Audited⟩ : api_Process)).length) c994)]], ⟨_, _, rfl, rfl, rfl⟩, H.leave (fun Z hA => trivial) (fun Z S hA hL => Holds_sub (.cons _ (.cons _ (.cons _ (.cons _ (.cons _ (.cons _ (.cons _ (.cons _ (.cons_cons _ (.cons _ .slnil)))))))))) hL)⟩
      · replace h := itF hb1077 h
        refine wl_cons (wl_pass E1076 (E1076.unwanted rfl rfl rfl hb1077) rfl fun a1409 E1410 => ?_)
        clear E1076
        refine wl_cons (wl_pass E1410 (E1410.unwanted rfl rfl rfl hb1077) rfl fun a1411 E1412 => ?_)
        clear E1410
        refine wl_cons (wl_pass E1412 (E1412.unwanted rfl rfl rfl hb1077) rfl fun a1413 E1414 => ?_)
        clear E1412
        refine wl_cons (wl_pass E1414 (E1414.unwanted rfl rfl rfl hb1077) rfl fun a1415 E1416 => ?_)
        clear E1414
        refine wl_cons (wl_pass E1416 (E1416.unwanted rfl rfl rfl hb1077) rfl fun a1417 E1418 => ?_)
        clear E1416
        refine wl_cons (wl_val E1418 rfl (rn_pickF E1418 rfl rfl hb1077 rfl) rfl fun a1419 E1420 => ?_)
        clear E1418
        refine wl_cons (wl_val E1420 rfl (rn_assign E1420 rfl rfl) rfl fun a1421 E1422 => ?_)
        clear E1420
        refine wl_nil ?_
        refine then_normal (hK1058 _ _ ?_)
        refine wc_F E1422 rfl rfl ?_
        refine wp_seq_k fun _ hK1423 => ?_
        refine wp_region_lit ?_
        refine wl_cons (wl_val E1422 rfl (rn_move E1422 rfl rfl) rfl fun a1424 E1425 => ?_)
        clear E1422
        refine wl_cons (wl_val E1425 rfl (rn_nilCheck E1425 rfl rfl) rfl fun a1426 E1427 => ?_)
        clear E1425
        refine wl_cons (wl_val E1427 rfl (rn_fieldAddr E1427 rfl Try.underlying28 rfl ti3 rfl rfl) rfl fun a1428 E1429 => ?_)
        clear E1427
        refine wl_cons (wl_val E1429 rfl (rn_ld1 (i := 6) E1429 H rfl Try.underlying3 rfl rfl rfl rfl) rfl fun a1430 E1431 => ?_)
        clear E1429
        refine wl_cons (wl_val E1431 rfl (rn_int E1431 rfl rfl rfl rfl) rfl fun a1432 E1433 => ?_)
        clear E1431
        refine wl_cons (wl_val E1433 rfl (rn_assign E1433 rfl rfl) rfl fun a1434 E1435 => ?_)
        clear E1433
        refine wl_nil ?_
        refine then_normal (hK1423 _ _ ?_)
        rcases Bool.eq_false_or_eq_true (decide (y991.NextSession ≥ 1073741824)) with hb1436 | hb1436
        · replace h := itT hb1436 h
          refine wc_T E1435 rfl hb1436 ?_
          refine wp_seq_k fun _ hK1437 => ?_
          refine wp_region_lit ?_
          refine wl_cons (wl_val E1435 rfl (rn_assign E1435 rfl rfl) rfl fun a1438 E1439 => ?_)
          clear E1435
          refine wl_nil ?_
          refine then_normal (hK1437 _ _ ?_)
          refine wp_ret ?_
          refine block_ret (then_ret (?_))
          refine wb_ret1 E1439 rfl (rv_tmp E1439 rfl) ⟨_, rfl, ?_⟩
          have E1440 := Env.put E1032 (d := 10) rfl (.int .i64 11)
          generalize hae : Act.put _ (some 10) _ = a1441 at E1440 ⊢; clear hae
          refine wl_cons (wl_val E1440 rfl (rn_assign E1440 rfl rfl) rfl fun a1442 E1443 => ?_)
          clear E1440
          refine wl_cons (wl_val E1443 rfl (rn_assign E1443 rfl rfl) rfl fun a1444 E1445 => ?_)
          clear E1443
          refine wl_nil ?_
          refine then_normal (hK1026 _ _ ?_)
          refine wp_ret ?_
          refine ?_
          refine wb_ret2 E1445 rfl (rv_tmp E1445 rfl) (rv_tmp E1445 rfl) ⟨_, rfl, ?_⟩
          have E1446 := Env.put E1017 (d := 32) rfl (.tuple #[.bool true, .int .i64 11])
          generalize hae : Act.put _ (some 32) _ = a1447 at E1446 ⊢; clear hae
          refine wl_cons (wl_val E1446 rfl (rn_move E1446 rfl rfl) rfl fun a1448 E1449 => ?_)
          clear E1446
          refine wl_cons (wl_val E1449 rfl (rn_extract E1449 rfl rfl rfl) rfl fun a1450 E1451 => ?_)
          clear E1449
          refine wl_cons (wl_val E1451 rfl (rn_extract E1451 rfl rfl rfl) rfl fun a1452 E1453 => ?_)
          clear E1451
          refine wl_cons (wl_val E1453 rfl (rn_assign E1453 rfl rfl) rfl fun a1454 E1455 => ?_)
          clear E1453
          refine wl_cons (wl_val E1455 rfl (rn_assign E1455 rfl rfl) rfl fun a1456 E1457 => ?_)
          clear E1455
          refine wl_nil ?_
          refine then_normal (hK1002 _ _ ?_)
          refine wp_seq_k fun _ hK1458 => ?_
          refine wp_seq_k fun _ hK1459 => ?_
          refine wp_region_lit ?_
          refine wl_cons (wl_val E1457 rfl (rn_move E1457 rfl rfl) rfl fun a1460 E1461 => ?_)
          clear E1457
          refine wl_cons (wl_val E1461 rfl (rn_int E1461 rfl rfl rfl rfl) rfl fun a1462 E1463 => ?_)
          clear E1461
          refine wl_nil ?_
          refine then_normal (hK1459 _ _ ?_)
          refine wc_T E1463 rfl rfl ?_
          refine wp_seq_k fun _ hK1464 => ?_
          refine wp_region_lit ?_
          refine wl_cons (wl_val E1463 rfl (rn_build (ps := []) (cs := [.int .i64 0, .int .i64 0, .slice none 0 0]) E1463 rfl rfl (by kernel_rfl)) rfl fun a1465 E1466 => ?_)
          clear E1463
          refine wl_cons (wl_val E1466 rfl (rn_move E1466 rfl rfl) rfl fun a1467 E1468 => ?_)
          clear E1466
          refine wl_cons (wl_val E1468 rfl (rn_move E1468 rfl rfl) rfl fun a1469 E1470 => ?_)
          clear E1468
          refine wl_cons (wl_store (i := 7) (vs := [.int .i64 0, .int .i64 0, .slice none 0 0]) (cs' := [.int .i64 0, .int .i64 0, .slice none 0 0]) E1470 H rfl rfl rfl rfl ti28 rfl rfl rfl rfl rfl rfl fun w1473 a1471 E1472 H' => ?_)
          clear H E1470; have H := H'; clear H'
          refine wl_cons (wl_val E1472 rfl (rn_assign E1472 rfl rfl) rfl fun a1474 E1475 => ?_)
          clear E1472
          refine wl_cons (wl_val E1475 rfl (rn_assign E1475 rfl rfl) rfl fun a1476 E1477 => ?_)
          clear E1475
          refine wl_nil ?_
          refine then_normal (hK1464 _ _ ?_)
          refine wp_ret ?_
          refine then_ret (?_)
          refine wb_ret3 E1477 rfl (rv_cellN (cs := [.int .i64 0, .int .i64 0, .slice none 0 0]) E1477 rfl Try.underlying28 rfl ti28 (H.get (i := 7) (k := 0) rfl rfl) rfl) (rv_tmp E1477 rfl) (rv_tmp E1477 rfl) ⟨_, rfl, ?_⟩
          have E1478 := Env.put E941 (d := 14) rfl (.tuple #[.agg #[.int .i64 0, .int .i64 0, .slice none 0 0], .bool false, .int .i64 11])
          generalize hae : Act.put _ (some 14) _ = a1479 at E1478 ⊢; clear hae
          refine wl_cons (wl_val E1478 rfl (rn_move E1478 rfl rfl) rfl fun a1480 E1481 => ?_)
          clear E1478
          refine wl_cons (wl_val E1481 rfl (rn_extract E1481 rfl rfl rfl) rfl fun a1482 E1483 => ?_)
          clear E1481
          refine wl_cons (wl_val E1483 rfl (rn_extract E1483 rfl rfl rfl) rfl fun a1484 E1485 => ?_)
          clear E1483
          refine wl_cons (wl_val E1485 rfl (rn_extract E1485 rfl rfl rfl) rfl fun a1486 E1487 => ?_)
          clear E1485
          refine wl_cons (wl_store (i := 3) (vs := [.int .i64 0, .int .i64 0, .slice none 0 0]) (cs' := [.int .i64 0, .int .i64 0, .slice none 0 0]) E1487 H rfl rfl rfl rfl ti28 rfl rfl rfl rfl rfl rfl fun w1490 a1488 E1489 H' => ?_)
          clear H E1487; have H := H'; clear H'
          replace H : St w Nil Z w1490 [vw (kSlice 38 k_api_Process) a0.Processes [.slice p891 a0.Processes.length c892], vw (kSlice 81 k_api_Descriptor) u1011.Open [.slice p1069 u1011.Open.length c1070]] [[blk g896 [.int .i64 a0.Next, .int .i64 a0.NextSession, .slice p891 a0.Processes.length c892] 28], [blk g900 [.int .i64 a2] 3], [blk g904 [.int .i64 0, .int .i64 0, .slice none 0 0] 28], [blk g921 [.int .i64 0, .int .i64 0, .slice none 0 0] 28], [blk g925 [.func (.func 38) #[] #[.pointer (some ⟨g900, 0, none⟩)]] 68], [blk g929 [.int .i64 0, .int .i64 0, .slice none 0 0] 28], [blk g946 [.int .i64 y991.Next, .int .i64 y991.NextSession, .slice p993 y991.Processes.length c994] 28], [blk g950 [.int .i64 0, .int .i64 0, .slice none 0 0] 28], [row 38 k_api_Process y991.Processes (.slice p993 y991.Processes.length c994)], [row 3 (kInt .i64) [a2] (.slice (some ⟨g1043, 0, none⟩) 1 1)]] := H
          refine wl_cons (wl_val E1489 rfl (rn_assign E1489 rfl rfl) rfl fun a1491 E1492 => ?_)
          clear E1489
          refine wl_cons (wl_val E1492 rfl (rn_assign E1492 rfl rfl) rfl fun a1493 E1494 => ?_)
          clear E1492
          refine wl_nil ?_
          refine then_normal (hK935 _ _ ?_)
          refine wp_seq_k fun _ hK1495 => ?_
          refine wp_region_lit ?_
          refine wl_cons (wl_val E1494 rfl (rn_ldN (i := 3) [.int .i64 0, .int .i64 0, .slice none 0 0] E1494 H rfl Try.underlying28 rfl ti28 rfl rfl rfl rfl) rfl fun a1496 E1497 => ?_)
          clear E1494
          refine wl_cons (wl_val E1497 rfl (rn_move E1497 rfl rfl) rfl fun a1498 E1499 => ?_)
          clear E1497
          refine wl_cons (wl_store (i := 5) (vs := [.int .i64 0, .int .i64 0, .slice none 0 0]) (cs' := [.int .i64 0, .int .i64 0, .slice none 0 0]) E1499 H rfl rfl rfl rfl ti28 rfl rfl rfl rfl rfl rfl fun w1502 a1500 E1501 H' => ?_)
          clear H E1499; have H := H'; clear H'
          refine wl_cons (wl_val E1501 rfl (rn_assign E1501 rfl rfl) rfl fun a1503 E1504 => ?_)
          clear E1501
          refine wl_nil ?_
          refine then_normal (hK1495 _ _ ?_)
          refine wp_ret ?_
          refine ?_
          refine wb_ret2 E1504 rfl (rv_cellN (cs := [.int .i64 0, .int .i64 0, .slice none 0 0]) E1504 rfl Try.underlying28 rfl ti28 (H.get (i := 5) (k := 0) rfl rfl) rfl) (rv_tmp E1504 rfl) ⟨_, rfl, ?_⟩
          have E1505 := Env.put E916 (d := 11) rfl (.tuple #[.agg #[.int .i64 0, .int .i64 0, .slice none 0 0], .int .i64 11])
          generalize hae : Act.put _ (some 11) _ = a1506 at E1505 ⊢; clear hae
          refine wl_cons (wl_val E1505 rfl (rn_extract E1505 rfl rfl rfl) rfl fun a1507 E1508 => ?_)
          clear E1505
          refine wl_cons (wl_val E1508 rfl (rn_extract E1508 rfl rfl rfl) rfl fun a1509 E1510 => ?_)
          clear E1508
          refine wl_cons (wl_store (i := 2) (vs := [.int .i64 0, .int .i64 0, .slice none 0 0]) (cs' := [.int .i64 0, .int .i64 0, .slice none 0 0]) E1510 H rfl rfl rfl rfl ti28 rfl rfl rfl rfl rfl rfl fun w1513 a1511 E1512 H' => ?_)
          clear H E1510; have H := H'; clear H'
          refine wl_cons (wl_val E1512 rfl (rn_assign E1512 rfl rfl) rfl fun a1514 E1515 => ?_)
          clear E1512
          refine wl_nil ?_
          refine then_normal (hK910 _ _ ?_)
          refine wp_ret ?_
          refine ?_
          obtain rfl := Option.some.inj h
          replace H := H.nilRow 38 k_api_Process
          replace H : St w Nil Z w1513 [vw (kSlice 38 k_api_Process) a0.Processes [.slice p891 a0.Processes.length c892], vw (kSlice 81 k_api_Descriptor) u1011.Open [.slice p1069 u1011.Open.length c1070]] [[blk g896 [.int .i64 a0.Next, .int .i64 a0.NextSession, .slice p891 a0.Processes.length c892] 28], [blk g900 [.int .i64 a2] 3], [blk g904 [.int .i64 0, .int .i64 0, .slice none 0 0] 28], [blk g921 [.int .i64 0, .int .i64 0, .slice none 0 0] 28], [blk g925 [.func (.func 38) #[] #[.pointer (some ⟨g900, 0, none⟩)]] 68], [blk g929 [.int .i64 0, .int .i64 0, .slice none 0 0] 28], [blk g946 [.int .i64 y991.Next, .int .i64 y991.NextSession, .slice p993 y991.Processes.length c994] 28], [blk g950 [.int .i64 0, .int .i64 0, .slice none 0 0] 28], [row 38 k_api_Process y991.Processes (.slice p993 y991.Processes.length c994)], [row 3 (kInt .i64) [a2] (.slice (some ⟨g1043, 0, none⟩) 1 1)], [row 38 k_api_Process ([] : List api_Process) (.slice none 0 0)]] := H
          refine wb_ret2 E1515 rfl (rv_cellN (cs := [.int .i64 0, .int .i64 0, .slice none 0 0]) E1515 rfl Try.underlying28 rfl ti28 (H.get (i := 2) (k := 0) rfl rfl) rfl) (rv_tmp E1515 rfl) ?_
          exact ⟨_, rfl, [], [[row 38 k_api_Process ([] : List api_Process) (.slice none 0 0)]], ⟨_, _, rfl, rfl, rfl⟩, H.leave (fun Z hA => trivial) (fun Z S hA hL => Holds_sub (.cons _ (.cons _ (.cons _ (.cons _ (.cons _ (.cons _ (.cons _ (.cons _ (.cons _ (.cons _ (.cons_cons _ .slnil))))))))))) hL)⟩
        · replace h := itF hb1436 h
          refine wc_F E1435 rfl hb1436 ?_
          refine wp_skip ?_
          refine block_normal ?_
          refine then_normal (hK1039 _ _ ?_)
          refine wp_seq_k fun _ hK1516 => ?_
          refine wa_begin mixed (fun w_ => True) [] [9, 12] H rfl fun w1517 H' => ?_
          clear H; have H := H'; clear H'
          refine wa_take (i := 0) E1435 rfl (by kernel_rfl) (panic_then panic_body) rfl (fun w_ => rn_move E1435 rfl rfl) rfl fun a1518 E1519 => ?_
          clear E1435
          refine wa_take (i := 1) E1519 rfl (by kernel_rfl) (panic_then panic_body) rfl (fun w_ => rn_move E1519 rfl rfl) rfl fun a1520 E1521 => ?_
          clear E1519
          refine wa_takeU (i := 2) E1521 rfl (by kernel_rfl) (by kernel_rfl) (panic_then panic_body) rfl (rn_ld1 (i := 1) E1521 H rfl Try.underlying3 rfl rfl rfl rfl) rfl fun a1522 E1523 => ?_
          clear E1521
          refine wa_take (i := 3) E1523 rfl (by kernel_rfl) (panic_then panic_body) rfl (fun w_ => rn_move E1523 rfl rfl) rfl fun a1524 E1525 => ?_
          clear E1523
          refine wa_take (i := 4) E1525 rfl (by kernel_rfl) (panic_then panic_body) rfl (fun w_ => rn_nilCheck E1525 rfl rfl) rfl fun a1526 E1527 => ?_
          clear E1525
          refine wa_take (i := 5) E1527 rfl (by kernel_rfl) (panic_then panic_body) rfl (fun w_ => rn_fieldAddr E1527 rfl Try.underlying28 rfl ti3 rfl rfl) rfl fun a1528 E1529 => ?_
          clear E1527
          refine wa_takeU (i := 6) E1529 rfl (by kernel_rfl) (by kernel_rfl) (panic_then panic_body) rfl (rn_ld1 (i := 6) E1529 H rfl Try.underlying3 rfl rfl rfl rfl) rfl fun a1530 E1531 => ?_
          clear E1529
          refine wa_take (i := 7) E1531 rfl (by kernel_rfl) (panic_then panic_body) rfl (fun w_ => rn_nilCheck E1531 rfl rfl) rfl fun a1532 E1533 => ?_
          clear E1531
          obtain ⟨q1534, hq1535, hr1536⟩ := rn_fieldAddrI (P := Try.prog) (o := ⟨some 38, .fieldAddr 38 (.tmp 37) 6, 0, "", #[], none⟩) E1533 rfl Try.underlying38 rfl ti3 rfl hq1014 (off' := 6) rfl
          refine wa_take (i := 8) E1533 rfl (by kernel_rfl) (panic_then panic_body) rfl (fun w_ => (hr1536 _)) rfl fun a1537 E1538 => ?_
          clear E1533
          refine wa_only (i := 9) rfl (by kernel_rfl) (by kernel_rfl) (wl_storeI (k := 8) (vs := [.int .i64 a2]) (u' := (⟨u1011.PID, u1011.PPID, u1011.UID, u1011.EUID, u1011.GID, u1011.EGID, a2, u1011.Session, u1011.Cwd, u1011.Comm, u1011.Exe, u1011.Open, u1011.Audited⟩ : api_Process)) E1538 H rfl rfl rfl rfl hq1535 hy1012 ti3 rfl rfl rfl (by decide) (fun Z cs hA hR => by obtain ⟨⟨p1539, c1540⟩, rfl, hB⟩ := k_api_Process_opens hR; exact k_api_Process_shuts (x := (⟨u1011.PID, u1011.PPID, u1011.UID, u1011.EUID, u1011.GID, u1011.EGID, a2, u1011.Session, u1011.Cwd, u1011.Comm, u1011.Exe, u1011.Open, u1011.Audited⟩ : api_Process)) (t := (p1539, c1540)) ⟨(argHolds_get hB (k := 0) rfl), trivial⟩) rfl fun w1543 a1541 E1542 H' => ?_)
          clear H E1538; have H := H'; clear H'
          replace H : St w Nil Z w1543 [vw (kSlice 38 k_api_Process) a0.Processes [.slice p891 a0.Processes.length c892], vw (kSlice 81 k_api_Descriptor) u1011.Open [.slice p1069 u1011.Open.length c1070]] [[blk g896 [.int .i64 a0.Next, .int .i64 a0.NextSession, .slice p891 a0.Processes.length c892] 28], [blk g900 [.int .i64 a2] 3], [blk g904 [.int .i64 0, .int .i64 0, .slice none 0 0] 28], [blk g921 [.int .i64 a0.Next, .int .i64 a0.NextSession, .slice p891 a0.Processes.length c892] 28], [blk g925 [.func (.func 38) #[] #[.pointer (some ⟨g900, 0, none⟩)]] 68], [blk g929 [.int .i64 0, .int .i64 0, .slice none 0 0] 28], [blk g946 [.int .i64 y991.Next, .int .i64 y991.NextSession, .slice p993 y991.Processes.length c994] 28], [blk g950 [.int .i64 0, .int .i64 0, .slice none 0 0] 28], [row 38 k_api_Process (y991.Processes.set y966.1.toNat (⟨u1011.PID, u1011.PPID, u1011.UID, u1011.EUID, u1011.GID, u1011.EGID, a2, u1011.Session, u1011.Cwd, u1011.Comm, u1011.Exe, u1011.Open, u1011.Audited⟩ : api_Process)) (.slice p993 y991.Processes.length c994)], [row 3 (kInt .i64) [a2] (.slice (some ⟨g1043, 0, none⟩) 1 1)]] := H
          refine ⟨fun h_ => (needs_no (by kernel_rfl) h_).elim, ?_⟩
          refine wa_take (i := 10) E1542 rfl (by kernel_rfl) (panic_then panic_body) rfl (fun w_ => rn_nilCheck E1542 rfl rfl) rfl fun a1544 E1545 => ?_
          clear E1542
          obtain ⟨q1546, hq1547, hr1548⟩ := rn_fieldAddrI (P := Try.prog) (o := ⟨some 40, .fieldAddr 38 (.tmp 39) 7, 0, "", #[], none⟩) E1545 rfl Try.underlying38 rfl ti3 rfl hq1014 (off' := 7) rfl
          refine wa_take (i := 11) E1545 rfl (by kernel_rfl) (panic_then panic_body) rfl (fun w_ => (hr1548 _)) rfl fun a1549 E1550 => ?_
          clear E1545
          obtain ⟨u1551, hy1552, h⟩ := bs h
          refine wa_only (i := 12) rfl (by kernel_rfl) (by kernel_rfl) (wl_storeI (k := 8) (vs := [.int .i64 y991.NextSession]) (u' := (⟨u1551.PID, u1551.PPID, u1551.UID, u1551.EUID, u1551.GID, u1551.EGID, u1551.AUID, y991.NextSession, u1551.Cwd, u1551.Comm, u1551.Exe, u1551.Open, u1551.Audited⟩ : api_Process)) E1550 H rfl rfl rfl rfl hq1547 hy1552 ti3 rfl rfl rfl (by decide) (fun Z cs hA hR => by obtain ⟨⟨p1553, c1554⟩, rfl, hB⟩ := k_api_Process_opens hR; exact k_api_Process_shuts (x := (⟨u1551.PID, u1551.PPID, u1551.UID, u1551.EUID, u1551.GID, u1551.EGID, u1551.AUID, y991.NextSession, u1551.Cwd, u1551.Comm, u1551.Exe, u1551.Open, u1551.Audited⟩ : api_Process)) (t := (p1553, c1554)) ⟨(argHolds_get hB (k := 0) rfl), trivial⟩) rfl fun w1557 a1555 E1556 H' => ?_)
          clear H E1550; have H := H'; clear H'
          refine ⟨fun h_ => (needs_no (by kernel_rfl) h_).elim, ?_⟩
          refine wa_done (by kernel_rfl) ?_
          have hl1558 : ((y991.Processes.set y966.1.toNat (⟨u1011.PID, u1011.PPID, u1011.UID, u1011.EUID, u1011.GID, u1011.EGID, a2, u1011.Session, u1011.Cwd, u1011.Comm, u1011.Exe, u1011.Open, u1011.Audited⟩ : api_Process)).set y966.1.toNat (⟨u1551.PID, u1551.PPID, u1551.UID, u1551.EUID, u1551.GID, u1551.EGID, u1551.AUID, y991.NextSession, u1551.Cwd, u1551.Comm, u1551.Exe, u1551.Open, u1551.Audited⟩ : api_Process)).length = y991.Processes.length := by first | exact List.length_set | (simp only [List.length_set])
          replace H : St w Nil Z w1557 [vw (kSlice 38 k_api_Process) a0.Processes [.slice p891 a0.Processes.length c892], vw (kSlice 81 k_api_Descriptor) u1011.Open [.slice p1069 u1011.Open.length c1070]] [[blk g896 [.int .i64 a0.Next, .int .i64 a0.NextSession, .slice p891 a0.Processes.length c892] 28], [blk g900 [.int .i64 a2] 3], [blk g904 [.int .i64 0, .int .i64 0, .slice none 0 0] 28], [blk g921 [.int .i64 a0.Next, .int .i64 a0.NextSession, .slice p891 a0.Processes.length c892] 28], [blk g925 [.func (.func 38) #[] #[.pointer (some ⟨g900, 0, none⟩)]] 68], [blk g929 [.int .i64 0, .int .i64 0, .slice none 0 0] 28], [blk g946 [.int .i64 y991.Next, .int .i64 y991.NextSession, .slice p993 (((y991.Processes.set y966.1.toNat (⟨u1011.PID, u1011.PPID, u1011.UID, u1011.EUID, u1011.GID, u1011.EGID, a2, u1011.Session, u1011.Cwd, u1011.Comm, u1011.Exe, u1011.Open, u1011.Audited⟩ : api_Process)).set y966.1.toNat (⟨u1551.PID, u1551.PPID, u1551.UID, u1551.EUID, u1551.GID, u1551.EGID, u1551.AUID, y991.NextSession, u1551.Cwd, u1551.Comm, u1551.Exe, u1551.Open, u1551.Audited⟩ : api_Process)).length) c994] 28], [blk g950 [.int .i64 0, .int .i64 0, .slice none 0 0] 28], [row 38 k_api_Process ((y991.Processes.set y966.1.toNat (⟨u1011.PID, u1011.PPID, u1011.UID, u1011.EUID, u1011.GID, u1011.EGID, a2, u1011.Session, u1011.Cwd, u1011.Comm, u1011.Exe, u1011.Open, u1011.Audited⟩ : api_Process)).set y966.1.toNat (⟨u1551.PID, u1551.PPID, u1551.UID, u1551.EUID, u1551.GID, u1551.EGID, u1551.AUID, y991.NextSession, u1551.Cwd, u1551.Comm, u1551.Exe, u1551.Open, u1551.Audited⟩ : api_Process)) (.slice p993 (((y991.Processes.set y966.1.toNat (⟨u1011.PID, u1011.PPID, u1011.UID, u1011.EUID, u1011.GID, u1011.EGID, a2, u1011.Session, u1011.Cwd, u1011.Comm, u1011.Exe, u1011.Open, u1011.Audited⟩ : api_Process)).set y966.1.toNat (⟨u1551.PID, u1551.PPID, u1551.UID, u1551.EUID, u1551.GID, u1551.EGID, u1551.AUID, y991.NextSession, u1551.Cwd, u1551.Comm, u1551.Exe, u1551.Open, u1551.Audited⟩ : api_Process)).length) c994)], [row 3 (kInt .i64) [a2] (.slice (some ⟨g1043, 0, none⟩) 1 1)]] := by rw [hl1558]; exact H
          replace E1017 : Env 42 a1016 [(0, .agg #[.int .i64 a0.Next, .int .i64 a0.NextSession, .slice p891 a0.Processes.length c892]), (1, .int .i64 a1), (2, .func (.func 57) #[] #[.pointer (some ⟨g925, 0, none⟩)]), (3, .pointer (some ⟨g946, 0, none⟩)), (6, .pointer (some ⟨g950, 0, none⟩)), (7, .bool false), (8, .int .i64 0), (9, .bool false), (15, .agg #[.int .i64 a0.Next, .int .i64 a0.NextSession, .slice p891 a0.Processes.length c892]), (16, .int .i64 a1), (17, .tuple #[.int .i64 y966.1, .bool y966.2]), (14, .tuple #[.int .i64 y966.1, .bool y966.2]), (18, .int .i64 y966.1), (19, .bool y966.2), (10, .int .i64 y966.1), (11, .bool y966.2), (20, .bool y966.2), (21, .bool (!y966.2)), (24, .agg #[.int .i64 a0.Next, .int .i64 a0.NextSession, .slice p891 a0.Processes.length c892]), (25, .agg #[.int .i64 y991.Next, .int .i64 y991.NextSession, .slice p993 (((y991.Processes.set y966.1.toNat (⟨u1011.PID, u1011.PPID, u1011.UID, u1011.EUID, u1011.GID, u1011.EGID, a2, u1011.Session, u1011.Cwd, u1011.Comm, u1011.Exe, u1011.Open, u1011.Audited⟩ : api_Process)).set y966.1.toNat (⟨u1551.PID, u1551.PPID, u1551.UID, u1551.EUID, u1551.GID, u1551.EGID, u1551.AUID, y991.NextSession, u1551.Cwd, u1551.Comm, u1551.Exe, u1551.Open, u1551.Audited⟩ : api_Process)).length) c994]), (27, .func (.func 57) #[] #[.pointer (some ⟨g925, 0, none⟩)]), (28, .pointer (some ⟨g946, 2, none⟩)), (29, .slice p993 (((y991.Processes.set y966.1.toNat (⟨u1011.PID, u1011.PPID, u1011.UID, u1011.EUID, u1011.GID, u1011.EGID, a2, u1011.Session, u1011.Cwd, u1011.Comm, u1011.Exe, u1011.Open, u1011.Audited⟩ : api_Process)).set y966.1.toNat (⟨u1551.PID, u1551.PPID, u1551.UID, u1551.EUID, u1551.GID, u1551.EGID, u1551.AUID, y991.NextSession, u1551.Cwd, u1551.Comm, u1551.Exe, u1551.Open, u1551.Audited⟩ : api_Process)).length) c994), (30, .int .i64 y966.1), (31, .pointer (some q1013))] := by rw [hl1558]; exact E1017.pick ⟨rfl, rfl, rfl, rfl, rfl, rfl, rfl, rfl, rfl, rfl, rfl, rfl, rfl, rfl, rfl, rfl, rfl, rfl, rfl, rfl, rfl, rfl, rfl, rfl, rfl, trivial⟩
          clear hl1558
          refine then_normal (hK1516 _ _ ?_)
          refine wp_seq_k fun _ hK1559 => ?_
          refine wp_region_lit ?_
          refine wl_cons (wl_val E1556 rfl (rn_move E1556 rfl rfl) rfl fun a1560 E1561 => ?_)
          clear E1556
          refine wl_cons (wl_val E1561 rfl (rn_nilCheck E1561 rfl rfl) rfl fun a1562 E1563 => ?_)
          clear E1561
          refine wl_cons (wl_val E1563 rfl (rn_fieldAddr E1563 rfl Try.underlying28 rfl ti3 rfl rfl) rfl fun a1564 E1565 => ?_)
          clear E1563
          refine wl_cons (wl_val E1565 rfl (rn_ld1 (i := 6) E1565 H rfl Try.underlying3 rfl rfl rfl rfl) rfl fun a1566 E1567 => ?_)
          clear E1565
          refine wl_cons (wl_val E1567 rfl (rn_int E1567 rfl rfl rfl rfl) rfl fun a1568 E1569 => ?_)
          clear E1567
          refine wl_cons (wl_val E1569 rfl (rn_nilCheck E1569 rfl rfl) rfl fun a1570 E1571 => ?_)
          clear E1569
          refine wl_cons (wl_val E1571 rfl (rn_fieldAddr E1571 rfl Try.underlying28 rfl ti3 rfl rfl) rfl fun a1572 E1573 => ?_)
          clear E1571
          refine wl_cons (wl_store (i := 6) (vs := [.int .i64 (IntKind.wrap .i64 (y991.NextSession + 1))]) (cs' := [.int .i64 y991.Next, .int .i64 (IntKind.wrap .i64 (y991.NextSession + 1)), .slice p993 (((y991.Processes.set y966.1.toNat (⟨u1011.PID, u1011.PPID, u1011.UID, u1011.EUID, u1011.GID, u1011.EGID, a2, u1011.Session, u1011.Cwd, u1011.Comm, u1011.Exe, u1011.Open, u1011.Audited⟩ : api_Process)).set y966.1.toNat (⟨u1551.PID, u1551.PPID, u1551.UID, u1551.EUID, u1551.GID, u1551.EGID, u1551.AUID, y991.NextSession, u1551.Cwd, u1551.Comm, u1551.Exe, u1551.Open, u1551.Audited⟩ : api_Process)).length) c994]) E1573 H rfl rfl rfl rfl ti3 rfl rfl rfl rfl rfl rfl fun w1576 a1574 E1575 H' => ?_)
          clear H E1573; have H := H'; clear H'
          refine wl_nil ?_
          refine then_normal (hK1559 _ _ ?_)
          refine wp_seq_k fun _ hK1577 => ?_
          refine wp_region_lit ?_
          refine wl_cons (wl_val E1575 rfl (rn_assign E1575 rfl rfl) rfl fun a1578 E1579 => ?_)
          clear E1575
          refine wl_nil ?_
          refine then_normal (hK1577 _ _ ?_)
          refine wp_ret ?_
          refine ?_
          refine wb_ret1 E1579 rfl (rv_tmp E1579 rfl) ⟨_, rfl, ?_⟩
          have E1580 := Env.put E1032 (d := 10) rfl (.int .i64 0)
          generalize hae : Act.put _ (some 10) _ = a1581 at E1580 ⊢; clear hae
          refine wl_cons (wl_val E1580 rfl (rn_assign E1580 rfl rfl) rfl fun a1582 E1583 => ?_)
          clear E1580
          refine wl_cons (wl_val E1583 rfl (rn_assign E1583 rfl rfl) rfl fun a1584 E1585 => ?_)
          clear E1583
          refine wl_nil ?_
          refine then_normal (hK1026 _ _ ?_)
          refine wp_ret ?_
          refine ?_
          refine wb_ret2 E1585 rfl (rv_tmp E1585 rfl) (rv_tmp E1585 rfl) ⟨_, rfl, ?_⟩
          have E1586 := Env.put E1017 (d := 32) rfl (.tuple #[.bool true, .int .i64 0])
          generalize hae : Act.put _ (some 32) _ = a1587 at E1586 ⊢; clear hae
          refine wl_cons (wl_val E1586 rfl (rn_move E1586 rfl rfl) rfl fun a1588 E1589 => ?_)
          clear E1586
          refine wl_cons (wl_val E1589 rfl (rn_extract E1589 rfl rfl rfl) rfl fun a1590 E1591 => ?_)
          clear E1589
          refine wl_cons (wl_val E1591 rfl (rn_extract E1591 rfl rfl rfl) rfl fun a1592 E1593 => ?_)
          clear E1591
          refine wl_cons (wl_val E1593 rfl (rn_assign E1593 rfl rfl) rfl fun a1594 E1595 => ?_)
          clear E1593
          refine wl_cons (wl_val E1595 rfl (rn_assign E1595 rfl rfl) rfl fun a1596 E1597 => ?_)
          clear E1595
          refine wl_nil ?_
          refine then_normal (hK1002 _ _ ?_)
          refine wp_seq_k fun _ hK1598 => ?_
          refine wp_seq_k fun _ hK1599 => ?_
          refine wp_region_lit ?_
          refine wl_cons (wl_val E1597 rfl (rn_move E1597 rfl rfl) rfl fun a1600 E1601 => ?_)
          clear E1597
          refine wl_cons (wl_val E1601 rfl (rn_int E1601 rfl rfl rfl rfl) rfl fun a1602 E1603 => ?_)
          clear E1601
          refine wl_nil ?_
          refine then_normal (hK1599 _ _ ?_)
          refine wc_F E1603 rfl rfl ?_
          refine wp_skip ?_
          refine then_normal (hK1598 _ _ ?_)
          refine wp_seq_k fun _ hK1604 => ?_
          refine wp_region_lit ?_
          refine wl_cons (wl_val E1603 rfl (rn_ldN (i := 6) [.int .i64 y991.Next, .int .i64 (IntKind.wrap .i64 (y991.NextSession + 1)), .slice p993 (((y991.Processes.set y966.1.toNat (⟨u1011.PID, u1011.PPID, u1011.UID, u1011.EUID, u1011.GID, u1011.EGID, a2, u1011.Session, u1011.Cwd, u1011.Comm, u1011.Exe, u1011.Open, u1011.Audited⟩ : api_Process)).set y966.1.toNat (⟨u1551.PID, u1551.PPID, u1551.UID, u1551.EUID, u1551.GID, u1551.EGID, u1551.AUID, y991.NextSession, u1551.Cwd, u1551.Comm, u1551.Exe, u1551.Open, u1551.Audited⟩ : api_Process)).length) c994] E1603 H rfl Try.underlying28 rfl ti28 rfl rfl rfl rfl) rfl fun a1605 E1606 => ?_)
          clear E1603
          refine wl_cons (wl_val E1606 rfl (rn_move E1606 rfl rfl) rfl fun a1607 E1608 => ?_)
          clear E1606
          refine wl_cons (wl_store (i := 7) (vs := [.int .i64 y991.Next, .int .i64 (IntKind.wrap .i64 (y991.NextSession + 1)), .slice p993 (((y991.Processes.set y966.1.toNat (⟨u1011.PID, u1011.PPID, u1011.UID, u1011.EUID, u1011.GID, u1011.EGID, a2, u1011.Session, u1011.Cwd, u1011.Comm, u1011.Exe, u1011.Open, u1011.Audited⟩ : api_Process)).set y966.1.toNat (⟨u1551.PID, u1551.PPID, u1551.UID, u1551.EUID, u1551.GID, u1551.EGID, u1551.AUID, y991.NextSession, u1551.Cwd, u1551.Comm, u1551.Exe, u1551.Open, u1551.Audited⟩ : api_Process)).length) c994]) (cs' := [.int .i64 y991.Next, .int .i64 (IntKind.wrap .i64 (y991.NextSession + 1)), .slice p993 (((y991.Processes.set y966.1.toNat (⟨u1011.PID, u1011.PPID, u1011.UID, u1011.EUID, u1011.GID, u1011.EGID, a2, u1011.Session, u1011.Cwd, u1011.Comm, u1011.Exe, u1011.Open, u1011.Audited⟩ : api_Process)).set y966.1.toNat (⟨u1551.PID, u1551.PPID, u1551.UID, u1551.EUID, u1551.GID, u1551.EGID, u1551.AUID, y991.NextSession, u1551.Cwd, u1551.Comm, u1551.Exe, u1551.Open, u1551.Audited⟩ : api_Process)).length) c994]) E1608 H rfl rfl rfl rfl ti28 rfl rfl rfl rfl rfl rfl fun w1611 a1609 E1610 H' => ?_)
          clear H E1608; have H := H'; clear H'
          replace H : St w Nil Z w1611 [vw (kSlice 38 k_api_Process) a0.Processes [.slice p891 a0.Processes.length c892], vw (kSlice 81 k_api_Descriptor) u1011.Open [.slice p1069 u1011.Open.length c1070]] [[blk g896 [.int .i64 a0.Next, .int .i64 a0.NextSession, .slice p891 a0.Processes.length c892] 28], [blk g900 [.int .i64 a2] 3], [blk g904 [.int .i64 0, .int .i64 0, .slice none 0 0] 28], [blk g921 [.int .i64 a0.Next, .int .i64 a0.NextSession, .slice p891 a0.Processes.length c892] 28], [blk g925 [.func (.func 38) #[] #[.pointer (some ⟨g900, 0, none⟩)]] 68], [blk g929 [.int .i64 0, .int .i64 0, .slice none 0 0] 28], [blk g946 [.int .i64 y991.Next, .int .i64 (IntKind.wrap .i64 (y991.NextSession + 1)), .slice p993 (((y991.Processes.set y966.1.toNat (⟨u1011.PID, u1011.PPID, u1011.UID, u1011.EUID, u1011.GID, u1011.EGID, a2, u1011.Session, u1011.Cwd, u1011.Comm, u1011.Exe, u1011.Open, u1011.Audited⟩ : api_Process)).set y966.1.toNat (⟨u1551.PID, u1551.PPID, u1551.UID, u1551.EUID, u1551.GID, u1551.EGID, u1551.AUID, y991.NextSession, u1551.Cwd, u1551.Comm, u1551.Exe, u1551.Open, u1551.Audited⟩ : api_Process)).length) c994] 28], [blk g950 [.int .i64 y991.Next, .int .i64 (IntKind.wrap .i64 (y991.NextSession + 1)), .slice p993 (((y991.Processes.set y966.1.toNat (⟨u1011.PID, u1011.PPID, u1011.UID, u1011.EUID, u1011.GID, u1011.EGID, a2, u1011.Session, u1011.Cwd, u1011.Comm, u1011.Exe, u1011.Open, u1011.Audited⟩ : api_Process)).set y966.1.toNat (⟨u1551.PID, u1551.PPID, u1551.UID, u1551.EUID, u1551.GID, u1551.EGID, u1551.AUID, y991.NextSession, u1551.Cwd, u1551.Comm, u1551.Exe, u1551.Open, u1551.Audited⟩ : api_Process)).length) c994] 28], [row 38 k_api_Process ((y991.Processes.set y966.1.toNat (⟨u1011.PID, u1011.PPID, u1011.UID, u1011.EUID, u1011.GID, u1011.EGID, a2, u1011.Session, u1011.Cwd, u1011.Comm, u1011.Exe, u1011.Open, u1011.Audited⟩ : api_Process)).set y966.1.toNat (⟨u1551.PID, u1551.PPID, u1551.UID, u1551.EUID, u1551.GID, u1551.EGID, u1551.AUID, y991.NextSession, u1551.Cwd, u1551.Comm, u1551.Exe, u1551.Open, u1551.Audited⟩ : api_Process)) (.slice p993 (((y991.Processes.set y966.1.toNat (⟨u1011.PID, u1011.PPID, u1011.UID, u1011.EUID, u1011.GID, u1011.EGID, a2, u1011.Session, u1011.Cwd, u1011.Comm, u1011.Exe, u1011.Open, u1011.Audited⟩ : api_Process)).set y966.1.toNat (⟨u1551.PID, u1551.PPID, u1551.UID, u1551.EUID, u1551.GID, u1551.EGID, u1551.AUID, y991.NextSession, u1551.Cwd, u1551.Comm, u1551.Exe, u1551.Open, u1551.Audited⟩ : api_Process)).length) c994)], [row 3 (kInt .i64) [a2] (.slice (some ⟨g1043, 0, none⟩) 1 1)]] := H
          refine wl_cons (wl_val E1610 rfl (rn_assign E1610 rfl rfl) rfl fun a1612 E1613 => ?_)
          clear E1610
          refine wl_cons (wl_val E1613 rfl (rn_assign E1613 rfl rfl) rfl fun a1614 E1615 => ?_)
          clear E1613
          refine wl_nil ?_
          refine then_normal (hK1604 _ _ ?_)
          refine wp_ret ?_
          refine ?_
          refine wb_ret3 E1615 rfl (rv_cellN (cs := [.int .i64 y991.Next, .int .i64 (IntKind.wrap .i64 (y991.NextSession + 1)), .slice p993 (((y991.Processes.set y966.1.toNat (⟨u1011.PID, u1011.PPID, u1011.UID, u1011.EUID, u1011.GID, u1011.EGID, a2, u1011.Session, u1011.Cwd, u1011.Comm, u1011.Exe, u1011.Open, u1011.Audited⟩ : api_Process)).set y966.1.toNat (⟨u1551.PID, u1551.PPID, u1551.UID, u1551.EUID, u1551.GID, u1551.EGID, u1551.AUID, y991.NextSession, u1551.Cwd, u1551.Comm, u1551.Exe, u1551.Open, u1551.Audited⟩ : api_Process)).length) c994]) E1615 rfl Try.underlying28 rfl ti28 (H.get (i := 7) (k := 0) rfl rfl) rfl) (rv_tmp E1615 rfl) (rv_tmp E1615 rfl) ⟨_, rfl, ?_⟩
          have E1616 := Env.put E941 (d := 14) rfl (.tuple #[.agg #[.int .i64 y991.Next, .int .i64 (IntKind.wrap .i64 (y991.NextSession + 1)), .slice p993 (((y991.Processes.set y966.1.toNat (⟨u1011.PID, u1011.PPID, u1011.UID, u1011.EUID, u1011.GID, u1011.EGID, a2, u1011.Session, u1011.Cwd, u1011.Comm, u1011.Exe, u1011.Open, u1011.Audited⟩ : api_Process)).set y966.1.toNat (⟨u1551.PID, u1551.PPID, u1551.UID, u1551.EUID, u1551.GID, u1551.EGID, u1551.AUID, y991.NextSession, u1551.Cwd, u1551.Comm, u1551.Exe, u1551.Open, u1551.Audited⟩ : api_Process)).length) c994], .bool true, .int .i64 0])
          generalize hae : Act.put _ (some 14) _ = a1617 at E1616 ⊢; clear hae
          refine wl_cons (wl_val E1616 rfl (rn_move E1616 rfl rfl) rfl fun a1618 E1619 => ?_)
          clear E1616
          refine wl_cons (wl_val E1619 rfl (rn_extract E1619 rfl rfl rfl) rfl fun a1620 E1621 => ?_)
          clear E1619
          refine wl_cons (wl_val E1621 rfl (rn_extract E1621 rfl rfl rfl) rfl fun a1622 E1623 => ?_)
          clear E1621
          refine wl_cons (wl_val E1623 rfl (rn_extract E1623 rfl rfl rfl) rfl fun a1624 E1625 => ?_)
          clear E1623
          refine wl_cons (wl_store (i := 3) (vs := [.int .i64 y991.Next, .int .i64 (IntKind.wrap .i64 (y991.NextSession + 1)), .slice p993 (((y991.Processes.set y966.1.toNat (⟨u1011.PID, u1011.PPID, u1011.UID, u1011.EUID, u1011.GID, u1011.EGID, a2, u1011.Session, u1011.Cwd, u1011.Comm, u1011.Exe, u1011.Open, u1011.Audited⟩ : api_Process)).set y966.1.toNat (⟨u1551.PID, u1551.PPID, u1551.UID, u1551.EUID, u1551.GID, u1551.EGID, u1551.AUID, y991.NextSession, u1551.Cwd, u1551.Comm, u1551.Exe, u1551.Open, u1551.Audited⟩ : api_Process)).length) c994]) (cs' := [.int .i64 y991.Next, .int .i64 (IntKind.wrap .i64 (y991.NextSession + 1)), .slice p993 (((y991.Processes.set y966.1.toNat (⟨u1011.PID, u1011.PPID, u1011.UID, u1011.EUID, u1011.GID, u1011.EGID, a2, u1011.Session, u1011.Cwd, u1011.Comm, u1011.Exe, u1011.Open, u1011.Audited⟩ : api_Process)).set y966.1.toNat (⟨u1551.PID, u1551.PPID, u1551.UID, u1551.EUID, u1551.GID, u1551.EGID, u1551.AUID, y991.NextSession, u1551.Cwd, u1551.Comm, u1551.Exe, u1551.Open, u1551.Audited⟩ : api_Process)).length) c994]) E1625 H rfl rfl rfl rfl ti28 rfl rfl rfl rfl rfl rfl fun w1628 a1626 E1627 H' => ?_)
          clear H E1625; have H := H'; clear H'
          refine wl_cons (wl_val E1627 rfl (rn_assign E1627 rfl rfl) rfl fun a1629 E1630 => ?_)
          clear E1627
          refine wl_cons (wl_val E1630 rfl (rn_assign E1630 rfl rfl) rfl fun a1631 E1632 => ?_)
          clear E1630
          refine wl_nil ?_
          refine then_normal (hK935 _ _ ?_)
          refine wp_seq_k fun _ hK1633 => ?_
          refine wp_region_lit ?_
          refine wl_cons (wl_val E1632 rfl (rn_ldN (i := 3) [.int .i64 y991.Next, .int .i64 (IntKind.wrap .i64 (y991.NextSession + 1)), .slice p993 (((y991.Processes.set y966.1.toNat (⟨u1011.PID, u1011.PPID, u1011.UID, u1011.EUID, u1011.GID, u1011.EGID, a2, u1011.Session, u1011.Cwd, u1011.Comm, u1011.Exe, u1011.Open, u1011.Audited⟩ : api_Process)).set y966.1.toNat (⟨u1551.PID, u1551.PPID, u1551.UID, u1551.EUID, u1551.GID, u1551.EGID, u1551.AUID, y991.NextSession, u1551.Cwd, u1551.Comm, u1551.Exe, u1551.Open, u1551.Audited⟩ : api_Process)).length) c994] E1632 H rfl Try.underlying28 rfl ti28 rfl rfl rfl rfl) rfl fun a1634 E1635 => ?_)
          clear E1632
          refine wl_cons (wl_val E1635 rfl (rn_move E1635 rfl rfl) rfl fun a1636 E1637 => ?_)
          clear E1635
          refine wl_cons (wl_store (i := 5) (vs := [.int .i64 y991.Next, .int .i64 (IntKind.wrap .i64 (y991.NextSession + 1)), .slice p993 (((y991.Processes.set y966.1.toNat (⟨u1011.PID, u1011.PPID, u1011.UID, u1011.EUID, u1011.GID, u1011.EGID, a2, u1011.Session, u1011.Cwd, u1011.Comm, u1011.Exe, u1011.Open, u1011.Audited⟩ : api_Process)).set y966.1.toNat (⟨u1551.PID, u1551.PPID, u1551.UID, u1551.EUID, u1551.GID, u1551.EGID, u1551.AUID, y991.NextSession, u1551.Cwd, u1551.Comm, u1551.Exe, u1551.Open, u1551.Audited⟩ : api_Process)).length) c994]) (cs' := [.int .i64 y991.Next, .int .i64 (IntKind.wrap .i64 (y991.NextSession + 1)), .slice p993 (((y991.Processes.set y966.1.toNat (⟨u1011.PID, u1011.PPID, u1011.UID, u1011.EUID, u1011.GID, u1011.EGID, a2, u1011.Session, u1011.Cwd, u1011.Comm, u1011.Exe, u1011.Open, u1011.Audited⟩ : api_Process)).set y966.1.toNat (⟨u1551.PID, u1551.PPID, u1551.UID, u1551.EUID, u1551.GID, u1551.EGID, u1551.AUID, y991.NextSession, u1551.Cwd, u1551.Comm, u1551.Exe, u1551.Open, u1551.Audited⟩ : api_Process)).length) c994]) E1637 H rfl rfl rfl rfl ti28 rfl rfl rfl rfl rfl rfl fun w1640 a1638 E1639 H' => ?_)
          clear H E1637; have H := H'; clear H'
          refine wl_cons (wl_val E1639 rfl (rn_assign E1639 rfl rfl) rfl fun a1641 E1642 => ?_)
          clear E1639
          refine wl_nil ?_
          refine then_normal (hK1633 _ _ ?_)
          refine wp_ret ?_
          refine ?_
          refine wb_ret2 E1642 rfl (rv_cellN (cs := [.int .i64 y991.Next, .int .i64 (IntKind.wrap .i64 (y991.NextSession + 1)), .slice p993 (((y991.Processes.set y966.1.toNat (⟨u1011.PID, u1011.PPID, u1011.UID, u1011.EUID, u1011.GID, u1011.EGID, a2, u1011.Session, u1011.Cwd, u1011.Comm, u1011.Exe, u1011.Open, u1011.Audited⟩ : api_Process)).set y966.1.toNat (⟨u1551.PID, u1551.PPID, u1551.UID, u1551.EUID, u1551.GID, u1551.EGID, u1551.AUID, y991.NextSession, u1551.Cwd, u1551.Comm, u1551.Exe, u1551.Open, u1551.Audited⟩ : api_Process)).length) c994]) E1642 rfl Try.underlying28 rfl ti28 (H.get (i := 5) (k := 0) rfl rfl) rfl) (rv_tmp E1642 rfl) ⟨_, rfl, ?_⟩
          have E1643 := Env.put E916 (d := 11) rfl (.tuple #[.agg #[.int .i64 y991.Next, .int .i64 (IntKind.wrap .i64 (y991.NextSession + 1)), .slice p993 (((y991.Processes.set y966.1.toNat (⟨u1011.PID, u1011.PPID, u1011.UID, u1011.EUID, u1011.GID, u1011.EGID, a2, u1011.Session, u1011.Cwd, u1011.Comm, u1011.Exe, u1011.Open, u1011.Audited⟩ : api_Process)).set y966.1.toNat (⟨u1551.PID, u1551.PPID, u1551.UID, u1551.EUID, u1551.GID, u1551.EGID, u1551.AUID, y991.NextSession, u1551.Cwd, u1551.Comm, u1551.Exe, u1551.Open, u1551.Audited⟩ : api_Process)).length) c994], .int .i64 0])
          generalize hae : Act.put _ (some 11) _ = a1644 at E1643 ⊢; clear hae
          refine wl_cons (wl_val E1643 rfl (rn_extract E1643 rfl rfl rfl) rfl fun a1645 E1646 => ?_)
          clear E1643
          refine wl_cons (wl_val E1646 rfl (rn_extract E1646 rfl rfl rfl) rfl fun a1647 E1648 => ?_)
          clear E1646
          refine wl_cons (wl_store (i := 2) (vs := [.int .i64 y991.Next, .int .i64 (IntKind.wrap .i64 (y991.NextSession + 1)), .slice p993 (((y991.Processes.set y966.1.toNat (⟨u1011.PID, u1011.PPID, u1011.UID, u1011.EUID, u1011.GID, u1011.EGID, a2, u1011.Session, u1011.Cwd, u1011.Comm, u1011.Exe, u1011.Open, u1011.Audited⟩ : api_Process)).set y966.1.toNat (⟨u1551.PID, u1551.PPID, u1551.UID, u1551.EUID, u1551.GID, u1551.EGID, u1551.AUID, y991.NextSession, u1551.Cwd, u1551.Comm, u1551.Exe, u1551.Open, u1551.Audited⟩ : api_Process)).length) c994]) (cs' := [.int .i64 y991.Next, .int .i64 (IntKind.wrap .i64 (y991.NextSession + 1)), .slice p993 (((y991.Processes.set y966.1.toNat (⟨u1011.PID, u1011.PPID, u1011.UID, u1011.EUID, u1011.GID, u1011.EGID, a2, u1011.Session, u1011.Cwd, u1011.Comm, u1011.Exe, u1011.Open, u1011.Audited⟩ : api_Process)).set y966.1.toNat (⟨u1551.PID, u1551.PPID, u1551.UID, u1551.EUID, u1551.GID, u1551.EGID, u1551.AUID, y991.NextSession, u1551.Cwd, u1551.Comm, u1551.Exe, u1551.Open, u1551.Audited⟩ : api_Process)).length) c994]) E1648 H rfl rfl rfl rfl ti28 rfl rfl rfl rfl rfl rfl fun w1651 a1649 E1650 H' => ?_)
          clear H E1648; have H := H'; clear H'
          replace H : St w Nil Z w1651 [vw (kSlice 38 k_api_Process) a0.Processes [.slice p891 a0.Processes.length c892], vw (kSlice 81 k_api_Descriptor) u1011.Open [.slice p1069 u1011.Open.length c1070]] [[blk g896 [.int .i64 a0.Next, .int .i64 a0.NextSession, .slice p891 a0.Processes.length c892] 28], [blk g900 [.int .i64 a2] 3], [blk g904 [.int .i64 y991.Next, .int .i64 (IntKind.wrap .i64 (y991.NextSession + 1)), .slice p993 (((y991.Processes.set y966.1.toNat (⟨u1011.PID, u1011.PPID, u1011.UID, u1011.EUID, u1011.GID, u1011.EGID, a2, u1011.Session, u1011.Cwd, u1011.Comm, u1011.Exe, u1011.Open, u1011.Audited⟩ : api_Process)).set y966.1.toNat (⟨u1551.PID, u1551.PPID, u1551.UID, u1551.EUID, u1551.GID, u1551.EGID, u1551.AUID, y991.NextSession, u1551.Cwd, u1551.Comm, u1551.Exe, u1551.Open, u1551.Audited⟩ : api_Process)).length) c994] 28], [blk g921 [.int .i64 y991.Next, .int .i64 (IntKind.wrap .i64 (y991.NextSession + 1)), .slice p993 (((y991.Processes.set y966.1.toNat (⟨u1011.PID, u1011.PPID, u1011.UID, u1011.EUID, u1011.GID, u1011.EGID, a2, u1011.Session, u1011.Cwd, u1011.Comm, u1011.Exe, u1011.Open, u1011.Audited⟩ : api_Process)).set y966.1.toNat (⟨u1551.PID, u1551.PPID, u1551.UID, u1551.EUID, u1551.GID, u1551.EGID, u1551.AUID, y991.NextSession, u1551.Cwd, u1551.Comm, u1551.Exe, u1551.Open, u1551.Audited⟩ : api_Process)).length) c994] 28], [blk g925 [.func (.func 38) #[] #[.pointer (some ⟨g900, 0, none⟩)]] 68], [blk g929 [.int .i64 y991.Next, .int .i64 (IntKind.wrap .i64 (y991.NextSession + 1)), .slice p993 (((y991.Processes.set y966.1.toNat (⟨u1011.PID, u1011.PPID, u1011.UID, u1011.EUID, u1011.GID, u1011.EGID, a2, u1011.Session, u1011.Cwd, u1011.Comm, u1011.Exe, u1011.Open, u1011.Audited⟩ : api_Process)).set y966.1.toNat (⟨u1551.PID, u1551.PPID, u1551.UID, u1551.EUID, u1551.GID, u1551.EGID, u1551.AUID, y991.NextSession, u1551.Cwd, u1551.Comm, u1551.Exe, u1551.Open, u1551.Audited⟩ : api_Process)).length) c994] 28], [blk g946 [.int .i64 y991.Next, .int .i64 (IntKind.wrap .i64 (y991.NextSession + 1)), .slice p993 (((y991.Processes.set y966.1.toNat (⟨u1011.PID, u1011.PPID, u1011.UID, u1011.EUID, u1011.GID, u1011.EGID, a2, u1011.Session, u1011.Cwd, u1011.Comm, u1011.Exe, u1011.Open, u1011.Audited⟩ : api_Process)).set y966.1.toNat (⟨u1551.PID, u1551.PPID, u1551.UID, u1551.EUID, u1551.GID, u1551.EGID, u1551.AUID, y991.NextSession, u1551.Cwd, u1551.Comm, u1551.Exe, u1551.Open, u1551.Audited⟩ : api_Process)).length) c994] 28], [blk g950 [.int .i64 y991.Next, .int .i64 (IntKind.wrap .i64 (y991.NextSession + 1)), .slice p993 (((y991.Processes.set y966.1.toNat (⟨u1011.PID, u1011.PPID, u1011.UID, u1011.EUID, u1011.GID, u1011.EGID, a2, u1011.Session, u1011.Cwd, u1011.Comm, u1011.Exe, u1011.Open, u1011.Audited⟩ : api_Process)).set y966.1.toNat (⟨u1551.PID, u1551.PPID, u1551.UID, u1551.EUID, u1551.GID, u1551.EGID, u1551.AUID, y991.NextSession, u1551.Cwd, u1551.Comm, u1551.Exe, u1551.Open, u1551.Audited⟩ : api_Process)).length) c994] 28], [row 38 k_api_Process ((y991.Processes.set y966.1.toNat (⟨u1011.PID, u1011.PPID, u1011.UID, u1011.EUID, u1011.GID, u1011.EGID, a2, u1011.Session, u1011.Cwd, u1011.Comm, u1011.Exe, u1011.Open, u1011.Audited⟩ : api_Process)).set y966.1.toNat (⟨u1551.PID, u1551.PPID, u1551.UID, u1551.EUID, u1551.GID, u1551.EGID, u1551.AUID, y991.NextSession, u1551.Cwd, u1551.Comm, u1551.Exe, u1551.Open, u1551.Audited⟩ : api_Process)) (.slice p993 (((y991.Processes.set y966.1.toNat (⟨u1011.PID, u1011.PPID, u1011.UID, u1011.EUID, u1011.GID, u1011.EGID, a2, u1011.Session, u1011.Cwd, u1011.Comm, u1011.Exe, u1011.Open, u1011.Audited⟩ : api_Process)).set y966.1.toNat (⟨u1551.PID, u1551.PPID, u1551.UID, u1551.EUID, u1551.GID, u1551.EGID, u1551.AUID, y991.NextSession, u1551.Cwd, u1551.Comm, u1551.Exe, u1551.Open, u1551.Audited⟩ : api_Process)).length) c994)], [row 3 (kInt .i64) [a2] (.slice (some ⟨g1043, 0, none⟩) 1 1)]] := H
          refine wl_cons (wl_val E1650 rfl (rn_assign E1650 rfl rfl) rfl fun a1652 E1653 => ?_)
          clear E1650
          refine wl_nil ?_
          refine then_normal (hK910 _ _ ?_)
          refine wp_ret ?_
          refine ?_
          obtain rfl := Option.some.inj h
          replace H : St w Nil Z w1651 [vw (kSlice 38 k_api_Process) a0.Processes [.slice p891 a0.Processes.length c892], vw (kSlice 81 k_api_Descriptor) u1011.Open [.slice p1069 u1011.Open.length c1070]] [[blk g896 [.int .i64 a0.Next, .int .i64 a0.NextSession, .slice p891 a0.Processes.length c892] 28], [blk g900 [.int .i64 a2] 3], [blk g904 [.int .i64 y991.Next, .int .i64 (IntKind.wrap .i64 (y991.NextSession + 1)), .slice p993 (((y991.Processes.set y966.1.toNat (⟨u1011.PID, u1011.PPID, u1011.UID, u1011.EUID, u1011.GID, u1011.EGID, a2, u1011.Session, u1011.Cwd, u1011.Comm, u1011.Exe, u1011.Open, u1011.Audited⟩ : api_Process)).set y966.1.toNat (⟨u1551.PID, u1551.PPID, u1551.UID, u1551.EUID, u1551.GID, u1551.EGID, u1551.AUID, y991.NextSession, u1551.Cwd, u1551.Comm, u1551.Exe, u1551.Open, u1551.Audited⟩ : api_Process)).length) c994] 28], [blk g921 [.int .i64 y991.Next, .int .i64 (IntKind.wrap .i64 (y991.NextSession + 1)), .slice p993 (((y991.Processes.set y966.1.toNat (⟨u1011.PID, u1011.PPID, u1011.UID, u1011.EUID, u1011.GID, u1011.EGID, a2, u1011.Session, u1011.Cwd, u1011.Comm, u1011.Exe, u1011.Open, u1011.Audited⟩ : api_Process)).set y966.1.toNat (⟨u1551.PID, u1551.PPID, u1551.UID, u1551.EUID, u1551.GID, u1551.EGID, u1551.AUID, y991.NextSession, u1551.Cwd, u1551.Comm, u1551.Exe, u1551.Open, u1551.Audited⟩ : api_Process)).length) c994] 28], [blk g925 [.func (.func 38) #[] #[.pointer (some ⟨g900, 0, none⟩)]] 68], [blk g929 [.int .i64 y991.Next, .int .i64 (IntKind.wrap .i64 (y991.NextSession + 1)), .slice p993 (((y991.Processes.set y966.1.toNat (⟨u1011.PID, u1011.PPID, u1011.UID, u1011.EUID, u1011.GID, u1011.EGID, a2, u1011.Session, u1011.Cwd, u1011.Comm, u1011.Exe, u1011.Open, u1011.Audited⟩ : api_Process)).set y966.1.toNat (⟨u1551.PID, u1551.PPID, u1551.UID, u1551.EUID, u1551.GID, u1551.EGID, u1551.AUID, y991.NextSession, u1551.Cwd, u1551.Comm, u1551.Exe, u1551.Open, u1551.Audited⟩ : api_Process)).length) c994] 28], [blk g946 [.int .i64 y991.Next, .int .i64 (IntKind.wrap .i64 (y991.NextSession + 1)), .slice p993 (((y991.Processes.set y966.1.toNat (⟨u1011.PID, u1011.PPID, u1011.UID, u1011.EUID, u1011.GID, u1011.EGID, a2, u1011.Session, u1011.Cwd, u1011.Comm, u1011.Exe, u1011.Open, u1011.Audited⟩ : api_Process)).set y966.1.toNat (⟨u1551.PID, u1551.PPID, u1551.UID, u1551.EUID, u1551.GID, u1551.EGID, u1551.AUID, y991.NextSession, u1551.Cwd, u1551.Comm, u1551.Exe, u1551.Open, u1551.Audited⟩ : api_Process)).length) c994] 28], [blk g950 [.int .i64 y991.Next, .int .i64 (IntKind.wrap .i64 (y991.NextSession + 1)), .slice p993 (((y991.Processes.set y966.1.toNat (⟨u1011.PID, u1011.PPID, u1011.UID, u1011.EUID, u1011.GID, u1011.EGID, a2, u1011.Session, u1011.Cwd, u1011.Comm, u1011.Exe, u1011.Open, u1011.Audited⟩ : api_Process)).set y966.1.toNat (⟨u1551.PID, u1551.PPID, u1551.UID, u1551.EUID, u1551.GID, u1551.EGID, u1551.AUID, y991.NextSession, u1551.Cwd, u1551.Comm, u1551.Exe, u1551.Open, u1551.Audited⟩ : api_Process)).length) c994] 28], [row 38 k_api_Process ((y991.Processes.set y966.1.toNat (⟨u1011.PID, u1011.PPID, u1011.UID, u1011.EUID, u1011.GID, u1011.EGID, a2, u1011.Session, u1011.Cwd, u1011.Comm, u1011.Exe, u1011.Open, u1011.Audited⟩ : api_Process)).set y966.1.toNat (⟨u1551.PID, u1551.PPID, u1551.UID, u1551.EUID, u1551.GID, u1551.EGID, u1551.AUID, y991.NextSession, u1551.Cwd, u1551.Comm, u1551.Exe, u1551.Open, u1551.Audited⟩ : api_Process)) (.slice p993 (((y991.Processes.set y966.1.toNat (⟨u1011.PID, u1011.PPID, u1011.UID, u1011.EUID, u1011.GID, u1011.EGID, a2, u1011.Session, u1011.Cwd, u1011.Comm, u1011.Exe, u1011.Open, u1011.Audited⟩ : api_Process)).set y966.1.toNat (⟨u1551.PID, u1551.PPID, u1551.UID, u1551.EUID, u1551.GID, u1551.EGID, u1551.AUID, y991.NextSession, u1551.Cwd, u1551.Comm, u1551.Exe, u1551.Open, u1551.Audited⟩ : api_Process)).length) c994)], [row 3 (kInt .i64) [a2] (.slice (some ⟨g1043, 0, none⟩) 1 1)]] := H
          refine wb_ret2 E1653 rfl (rv_cellN (cs := [.int .i64 y991.Next, .int .i64 (IntKind.wrap .i64 (y991.NextSession + 1)), .slice p993 (((y991.Processes.set y966.1.toNat (⟨u1011.PID, u1011.PPID, u1011.UID, u1011.EUID, u1011.GID, u1011.EGID, a2, u1011.Session, u1011.Cwd, u1011.Comm, u1011.Exe, u1011.Open, u1011.Audited⟩ : api_Process)).set y966.1.toNat (⟨u1551.PID, u1551.PPID, u1551.UID, u1551.EUID, u1551.GID, u1551.EGID, u1551.AUID, y991.NextSession, u1551.Cwd, u1551.Comm, u1551.Exe, u1551.Open, u1551.Audited⟩ : api_Process)).length) c994]) E1653 rfl Try.underlying28 rfl ti28 (H.get (i := 2) (k := 0) rfl rfl) rfl) (rv_tmp E1653 rfl) ?_
          exact ⟨_, rfl, [], [[row 38 k_api_Process ((y991.Processes.set y966.1.toNat (⟨u1011.PID, u1011.PPID, u1011.UID, u1011.EUID, u1011.GID, u1011.EGID, a2, u1011.Session, u1011.Cwd, u1011.Comm, u1011.Exe, u1011.Open, u1011.Audited⟩ : api_Process)).set y966.1.toNat (⟨u1551.PID, u1551.PPID, u1551.UID, u1551.EUID, u1551.GID, u1551.EGID, u1551.AUID, y991.NextSession, u1551.Cwd, u1551.Comm, u1551.Exe, u1551.Open, u1551.Audited⟩ : api_Process)) (.slice p993 (((y991.Processes.set y966.1.toNat (⟨u1011.PID, u1011.PPID, u1011.UID, u1011.EUID, u1011.GID, u1011.EGID, a2, u1011.Session, u1011.Cwd, u1011.Comm, u1011.Exe, u1011.Open, u1011.Audited⟩ : api_Process)).set y966.1.toNat (⟨u1551.PID, u1551.PPID, u1551.UID, u1551.EUID, u1551.GID, u1551.EGID, u1551.AUID, y991.NextSession, u1551.Cwd, u1551.Comm, u1551.Exe, u1551.Open, u1551.Audited⟩ : api_Process)).length) c994)]], ⟨_, _, rfl, rfl, rfl⟩, H.leave (fun Z hA => trivial) (fun Z S hA hL => Holds_sub (.cons _ (.cons _ (.cons _ (.cons _ (.cons _ (.cons _ (.cons _ (.cons _ (.cons_cons _ (.cons _ .slnil)))))))))) hL)⟩
    · replace h := itF hb1057 h
      refine wc_T E1056 rfl (congrArg Bool.not hb1057) ?_
      refine wp_seq_k fun _ hK1654 => ?_
      refine wp_region_lit ?_
      refine wl_cons (wl_val E1056 rfl (rn_assign E1056 rfl rfl) rfl fun a1655 E1656 => ?_)
      clear E1056
      refine wl_nil ?_
      refine then_normal (hK1654 _ _ ?_)
      refine wp_ret ?_
      refine block_ret (then_ret (?_))
      refine wb_ret1 E1656 rfl (rv_tmp E1656 rfl) ⟨_, rfl, ?_⟩
      have E1657 := Env.put E1032 (d := 10) rfl (.int .i64 22)
      generalize hae : Act.put _ (some 10) _ = a1658 at E1657 ⊢; clear hae
      refine wl_cons (wl_val E1657 rfl (rn_assign E1657 rfl rfl) rfl fun a1659 E1660 => ?_)
      clear E1657
      refine wl_cons (wl_val E1660 rfl (rn_assign E1660 rfl rfl) rfl fun a1661 E1662 => ?_)
      clear E1660
      refine wl_nil ?_
      refine then_normal (hK1026 _ _ ?_)
      refine wp_ret ?_
      refine ?_
      refine wb_ret2 E1662 rfl (rv_tmp E1662 rfl) (rv_tmp E1662 rfl) ⟨_, rfl, ?_⟩
      have E1663 := Env.put E1017 (d := 32) rfl (.tuple #[.bool true, .int .i64 22])
      generalize hae : Act.put _ (some 32) _ = a1664 at E1663 ⊢; clear hae
      refine wl_cons (wl_val E1663 rfl (rn_move E1663 rfl rfl) rfl fun a1665 E1666 => ?_)
      clear E1663
      refine wl_cons (wl_val E1666 rfl (rn_extract E1666 rfl rfl rfl) rfl fun a1667 E1668 => ?_)
      clear E1666
      refine wl_cons (wl_val E1668 rfl (rn_extract E1668 rfl rfl rfl) rfl fun a1669 E1670 => ?_)
      clear E1668
      refine wl_cons (wl_val E1670 rfl (rn_assign E1670 rfl rfl) rfl fun a1671 E1672 => ?_)
      clear E1670
      refine wl_cons (wl_val E1672 rfl (rn_assign E1672 rfl rfl) rfl fun a1673 E1674 => ?_)
      clear E1672
      refine wl_nil ?_
      refine then_normal (hK1002 _ _ ?_)
      refine wp_seq_k fun _ hK1675 => ?_
      refine wp_seq_k fun _ hK1676 => ?_
      refine wp_region_lit ?_
      refine wl_cons (wl_val E1674 rfl (rn_move E1674 rfl rfl) rfl fun a1677 E1678 => ?_)
      clear E1674
      refine wl_cons (wl_val E1678 rfl (rn_int E1678 rfl rfl rfl rfl) rfl fun a1679 E1680 => ?_)
      clear E1678
      refine wl_nil ?_
      refine then_normal (hK1676 _ _ ?_)
      refine wc_T E1680 rfl rfl ?_
      refine wp_seq_k fun _ hK1681 => ?_
      refine wp_region_lit ?_
      refine wl_cons (wl_val E1680 rfl (rn_build (ps := []) (cs := [.int .i64 0, .int .i64 0, .slice none 0 0]) E1680 rfl rfl (by kernel_rfl)) rfl fun a1682 E1683 => ?_)
      clear E1680
      refine wl_cons (wl_val E1683 rfl (rn_move E1683 rfl rfl) rfl fun a1684 E1685 => ?_)
      clear E1683
      refine wl_cons (wl_val E1685 rfl (rn_move E1685 rfl rfl) rfl fun a1686 E1687 => ?_)
      clear E1685
      refine wl_cons (wl_store (i := 7) (vs := [.int .i64 0, .int .i64 0, .slice none 0 0]) (cs' := [.int .i64 0, .int .i64 0, .slice none 0 0]) E1687 H rfl rfl rfl rfl ti28 rfl rfl rfl rfl rfl rfl fun w1690 a1688 E1689 H' => ?_)
      clear H E1687; have H := H'; clear H'
      refine wl_cons (wl_val E1689 rfl (rn_assign E1689 rfl rfl) rfl fun a1691 E1692 => ?_)
      clear E1689
      refine wl_cons (wl_val E1692 rfl (rn_assign E1692 rfl rfl) rfl fun a1693 E1694 => ?_)
      clear E1692
      refine wl_nil ?_
      refine then_normal (hK1681 _ _ ?_)
      refine wp_ret ?_
      refine then_ret (?_)
      refine wb_ret3 E1694 rfl (rv_cellN (cs := [.int .i64 0, .int .i64 0, .slice none 0 0]) E1694 rfl Try.underlying28 rfl ti28 (H.get (i := 7) (k := 0) rfl rfl) rfl) (rv_tmp E1694 rfl) (rv_tmp E1694 rfl) ⟨_, rfl, ?_⟩
      have E1695 := Env.put E941 (d := 14) rfl (.tuple #[.agg #[.int .i64 0, .int .i64 0, .slice none 0 0], .bool false, .int .i64 22])
      generalize hae : Act.put _ (some 14) _ = a1696 at E1695 ⊢; clear hae
      refine wl_cons (wl_val E1695 rfl (rn_move E1695 rfl rfl) rfl fun a1697 E1698 => ?_)
      clear E1695
      refine wl_cons (wl_val E1698 rfl (rn_extract E1698 rfl rfl rfl) rfl fun a1699 E1700 => ?_)
      clear E1698
      refine wl_cons (wl_val E1700 rfl (rn_extract E1700 rfl rfl rfl) rfl fun a1701 E1702 => ?_)
      clear E1700
      refine wl_cons (wl_val E1702 rfl (rn_extract E1702 rfl rfl rfl) rfl fun a1703 E1704 => ?_)
      clear E1702
      refine wl_cons (wl_store (i := 3) (vs := [.int .i64 0, .int .i64 0, .slice none 0 0]) (cs' := [.int .i64 0, .int .i64 0, .slice none 0 0]) E1704 H rfl rfl rfl rfl ti28 rfl rfl rfl rfl rfl rfl fun w1707 a1705 E1706 H' => ?_)
      clear H E1704; have H := H'; clear H'
      replace H : St w Nil Z w1707 [vw (kSlice 38 k_api_Process) a0.Processes [.slice p891 a0.Processes.length c892]] [[blk g896 [.int .i64 a0.Next, .int .i64 a0.NextSession, .slice p891 a0.Processes.length c892] 28], [blk g900 [.int .i64 a2] 3], [blk g904 [.int .i64 0, .int .i64 0, .slice none 0 0] 28], [blk g921 [.int .i64 0, .int .i64 0, .slice none 0 0] 28], [blk g925 [.func (.func 38) #[] #[.pointer (some ⟨g900, 0, none⟩)]] 68], [blk g929 [.int .i64 0, .int .i64 0, .slice none 0 0] 28], [blk g946 [.int .i64 y991.Next, .int .i64 y991.NextSession, .slice p993 y991.Processes.length c994] 28], [blk g950 [.int .i64 0, .int .i64 0, .slice none 0 0] 28], [row 38 k_api_Process y991.Processes (.slice p993 y991.Processes.length c994)], [row 3 (kInt .i64) [a2] (.slice (some ⟨g1043, 0, none⟩) 1 1)]] := H
      refine wl_cons (wl_val E1706 rfl (rn_assign E1706 rfl rfl) rfl fun a1708 E1709 => ?_)
      clear E1706
      refine wl_cons (wl_val E1709 rfl (rn_assign E1709 rfl rfl) rfl fun a1710 E1711 => ?_)
      clear E1709
      refine wl_nil ?_
      refine then_normal (hK935 _ _ ?_)
      refine wp_seq_k fun _ hK1712 => ?_
      refine wp_region_lit ?_
      refine wl_cons (wl_val E1711 rfl (rn_ldN (i := 3) [.int .i64 0, .int .i64 0, .slice none 0 0] E1711 H rfl Try.underlying28 rfl ti28 rfl rfl rfl rfl) rfl fun a1713 E1714 => ?_)
      clear E1711
      refine wl_cons (wl_val E1714 rfl (rn_move E1714 rfl rfl) rfl fun a1715 E1716 => ?_)
      clear E1714
      refine wl_cons (wl_store (i := 5) (vs := [.int .i64 0, .int .i64 0, .slice none 0 0]) (cs' := [.int .i64 0, .int .i64 0, .slice none 0 0]) E1716 H rfl rfl rfl rfl ti28 rfl rfl rfl rfl rfl rfl fun w1719 a1717 E1718 H' => ?_)
      clear H E1716; have H := H'; clear H'
      refine wl_cons (wl_val E1718 rfl (rn_assign E1718 rfl rfl) rfl fun a1720 E1721 => ?_)
      clear E1718
      refine wl_nil ?_
      refine then_normal (hK1712 _ _ ?_)
      refine wp_ret ?_
      refine ?_
      refine wb_ret2 E1721 rfl (rv_cellN (cs := [.int .i64 0, .int .i64 0, .slice none 0 0]) E1721 rfl Try.underlying28 rfl ti28 (H.get (i := 5) (k := 0) rfl rfl) rfl) (rv_tmp E1721 rfl) ⟨_, rfl, ?_⟩
      have E1722 := Env.put E916 (d := 11) rfl (.tuple #[.agg #[.int .i64 0, .int .i64 0, .slice none 0 0], .int .i64 22])
      generalize hae : Act.put _ (some 11) _ = a1723 at E1722 ⊢; clear hae
      refine wl_cons (wl_val E1722 rfl (rn_extract E1722 rfl rfl rfl) rfl fun a1724 E1725 => ?_)
      clear E1722
      refine wl_cons (wl_val E1725 rfl (rn_extract E1725 rfl rfl rfl) rfl fun a1726 E1727 => ?_)
      clear E1725
      refine wl_cons (wl_store (i := 2) (vs := [.int .i64 0, .int .i64 0, .slice none 0 0]) (cs' := [.int .i64 0, .int .i64 0, .slice none 0 0]) E1727 H rfl rfl rfl rfl ti28 rfl rfl rfl rfl rfl rfl fun w1730 a1728 E1729 H' => ?_)
      clear H E1727; have H := H'; clear H'
      refine wl_cons (wl_val E1729 rfl (rn_assign E1729 rfl rfl) rfl fun a1731 E1732 => ?_)
      clear E1729
      refine wl_nil ?_
      refine then_normal (hK910 _ _ ?_)
      refine wp_ret ?_
      refine ?_
      obtain rfl := Option.some.inj h
      replace H := H.nilRow 38 k_api_Process
      replace H : St w Nil Z w1730 [vw (kSlice 38 k_api_Process) a0.Processes [.slice p891 a0.Processes.length c892]] [[blk g896 [.int .i64 a0.Next, .int .i64 a0.NextSession, .slice p891 a0.Processes.length c892] 28], [blk g900 [.int .i64 a2] 3], [blk g904 [.int .i64 0, .int .i64 0, .slice none 0 0] 28], [blk g921 [.int .i64 0, .int .i64 0, .slice none 0 0] 28], [blk g925 [.func (.func 38) #[] #[.pointer (some ⟨g900, 0, none⟩)]] 68], [blk g929 [.int .i64 0, .int .i64 0, .slice none 0 0] 28], [blk g946 [.int .i64 y991.Next, .int .i64 y991.NextSession, .slice p993 y991.Processes.length c994] 28], [blk g950 [.int .i64 0, .int .i64 0, .slice none 0 0] 28], [row 38 k_api_Process y991.Processes (.slice p993 y991.Processes.length c994)], [row 3 (kInt .i64) [a2] (.slice (some ⟨g1043, 0, none⟩) 1 1)], [row 38 k_api_Process ([] : List api_Process) (.slice none 0 0)]] := H
      refine wb_ret2 E1732 rfl (rv_cellN (cs := [.int .i64 0, .int .i64 0, .slice none 0 0]) E1732 rfl Try.underlying28 rfl ti28 (H.get (i := 2) (k := 0) rfl rfl) rfl) (rv_tmp E1732 rfl) ?_
      exact ⟨_, rfl, [], [[row 38 k_api_Process ([] : List api_Process) (.slice none 0 0)]], ⟨_, _, rfl, rfl, rfl⟩, H.leave (fun Z hA => trivial) (fun Z S hA hL => Holds_sub (.cons _ (.cons _ (.cons _ (.cons _ (.cons _ (.cons _ (.cons _ (.cons _ (.cons _ (.cons _ (.cons_cons _ .slnil))))))))))) hL)⟩
  · replace h := itF hb987 h
    refine wc_T E986 rfl (congrArg Bool.not hb987) ?_
    refine wp_seq_k fun _ hK1733 => ?_
    refine wp_region_lit ?_
    refine wl_cons (wl_val E986 rfl (rn_build (ps := []) (cs := [.int .i64 0, .int .i64 0, .slice none 0 0]) E986 rfl rfl (by kernel_rfl)) rfl fun a1734 E1735 => ?_)
    clear E986
    refine wl_cons (wl_val E1735 rfl (rn_move E1735 rfl rfl) rfl fun a1736 E1737 => ?_)
    clear E1735
    refine wl_cons (wl_store (i := 7) (vs := [.int .i64 0, .int .i64 0, .slice none 0 0]) (cs' := [.int .i64 0, .int .i64 0, .slice none 0 0]) E1737 H rfl rfl rfl rfl ti28 rfl rfl rfl rfl rfl rfl fun w1740 a1738 E1739 H' => ?_)
    clear H E1737; have H := H'; clear H'
    refine wl_cons (wl_val E1739 rfl (rn_assign E1739 rfl rfl) rfl fun a1741 E1742 => ?_)
    clear E1739
    refine wl_cons (wl_val E1742 rfl (rn_assign E1742 rfl rfl) rfl fun a1743 E1744 => ?_)
    clear E1742
    refine wl_nil ?_
    refine then_normal (hK1733 _ _ ?_)
    refine wp_ret ?_
    refine then_ret (?_)
    refine wb_ret3 E1744 rfl (rv_cellN (cs := [.int .i64 0, .int .i64 0, .slice none 0 0]) E1744 rfl Try.underlying28 rfl ti28 (H.get (i := 7) (k := 0) rfl rfl) rfl) (rv_tmp E1744 rfl) (rv_tmp E1744 rfl) ⟨_, rfl, ?_⟩
    have E1745 := Env.put E941 (d := 14) rfl (.tuple #[.agg #[.int .i64 0, .int .i64 0, .slice none 0 0], .bool false, .int .i64 3])
    generalize hae : Act.put _ (some 14) _ = a1746 at E1745 ⊢; clear hae
    refine wl_cons (wl_val E1745 rfl (rn_move E1745 rfl rfl) rfl fun a1747 E1748 => ?_)
    clear E1745
    refine wl_cons (wl_val E1748 rfl (rn_extract E1748 rfl rfl rfl) rfl fun a1749 E1750 => ?_)
    clear E1748
    refine wl_cons (wl_val E1750 rfl (rn_extract E1750 rfl rfl rfl) rfl fun a1751 E1752 => ?_)
    clear E1750
    refine wl_cons (wl_val E1752 rfl (rn_extract E1752 rfl rfl rfl) rfl fun a1753 E1754 => ?_)
    clear E1752
    refine wl_cons (wl_store (i := 3) (vs := [.int .i64 0, .int .i64 0, .slice none 0 0]) (cs' := [.int .i64 0, .int .i64 0, .slice none 0 0]) E1754 H rfl rfl rfl rfl ti28 rfl rfl rfl rfl rfl rfl fun w1757 a1755 E1756 H' => ?_)
    clear H E1754; have H := H'; clear H'
    refine wl_cons (wl_val E1756 rfl (rn_assign E1756 rfl rfl) rfl fun a1758 E1759 => ?_)
    clear E1756
    refine wl_cons (wl_val E1759 rfl (rn_assign E1759 rfl rfl) rfl fun a1760 E1761 => ?_)
    clear E1759
    refine wl_nil ?_
    refine then_normal (hK935 _ _ ?_)
    refine wp_seq_k fun _ hK1762 => ?_
    refine wp_region_lit ?_
    refine wl_cons (wl_val E1761 rfl (rn_ldN (i := 3) [.int .i64 0, .int .i64 0, .slice none 0 0] E1761 H rfl Try.underlying28 rfl ti28 rfl rfl rfl rfl) rfl fun a1763 E1764 => ?_)
    clear E1761
    refine wl_cons (wl_val E1764 rfl (rn_move E1764 rfl rfl) rfl fun a1765 E1766 => ?_)
    clear E1764
    refine wl_cons (wl_store (i := 5) (vs := [.int .i64 0, .int .i64 0, .slice none 0 0]) (cs' := [.int .i64 0, .int .i64 0, .slice none 0 0]) E1766 H rfl rfl rfl rfl ti28 rfl rfl rfl rfl rfl rfl fun w1769 a1767 E1768 H' => ?_)
    clear H E1766; have H := H'; clear H'
    replace H : St w Nil Z w1769 [vw (kSlice 38 k_api_Process) a0.Processes [.slice p891 a0.Processes.length c892]] [[blk g896 [.int .i64 a0.Next, .int .i64 a0.NextSession, .slice p891 a0.Processes.length c892] 28], [blk g900 [.int .i64 a2] 3], [blk g904 [.int .i64 0, .int .i64 0, .slice none 0 0] 28], [blk g921 [.int .i64 0, .int .i64 0, .slice none 0 0] 28], [blk g925 [.func (.func 38) #[] #[.pointer (some ⟨g900, 0, none⟩)]] 68], [blk g929 [.int .i64 0, .int .i64 0, .slice none 0 0] 28], [blk g946 [.int .i64 a0.Next, .int .i64 a0.NextSession, .slice p891 a0.Processes.length c892] 28], [blk g950 [.int .i64 0, .int .i64 0, .slice none 0 0] 28]] := H
    refine wl_cons (wl_val E1768 rfl (rn_assign E1768 rfl rfl) rfl fun a1770 E1771 => ?_)
    clear E1768
    refine wl_nil ?_
    refine then_normal (hK1762 _ _ ?_)
    refine wp_ret ?_
    refine ?_
    refine wb_ret2 E1771 rfl (rv_cellN (cs := [.int .i64 0, .int .i64 0, .slice none 0 0]) E1771 rfl Try.underlying28 rfl ti28 (H.get (i := 5) (k := 0) rfl rfl) rfl) (rv_tmp E1771 rfl) ⟨_, rfl, ?_⟩
    have E1772 := Env.put E916 (d := 11) rfl (.tuple #[.agg #[.int .i64 0, .int .i64 0, .slice none 0 0], .int .i64 3])
    generalize hae : Act.put _ (some 11) _ = a1773 at E1772 ⊢; clear hae
    refine wl_cons (wl_val E1772 rfl (rn_extract E1772 rfl rfl rfl) rfl fun a1774 E1775 => ?_)
    clear E1772
    refine wl_cons (wl_val E1775 rfl (rn_extract E1775 rfl rfl rfl) rfl fun a1776 E1777 => ?_)
    clear E1775
    refine wl_cons (wl_store (i := 2) (vs := [.int .i64 0, .int .i64 0, .slice none 0 0]) (cs' := [.int .i64 0, .int .i64 0, .slice none 0 0]) E1777 H rfl rfl rfl rfl ti28 rfl rfl rfl rfl rfl rfl fun w1780 a1778 E1779 H' => ?_)
    clear H E1777; have H := H'; clear H'
    refine wl_cons (wl_val E1779 rfl (rn_assign E1779 rfl rfl) rfl fun a1781 E1782 => ?_)
    clear E1779
    refine wl_nil ?_
    refine then_normal (hK910 _ _ ?_)
    refine wp_ret ?_
    refine ?_
    obtain rfl := Option.some.inj h
    replace H := H.nilRow 38 k_api_Process
    replace H : St w Nil Z w1780 [vw (kSlice 38 k_api_Process) a0.Processes [.slice p891 a0.Processes.length c892]] [[blk g896 [.int .i64 a0.Next, .int .i64 a0.NextSession, .slice p891 a0.Processes.length c892] 28], [blk g900 [.int .i64 a2] 3], [blk g904 [.int .i64 0, .int .i64 0, .slice none 0 0] 28], [blk g921 [.int .i64 0, .int .i64 0, .slice none 0 0] 28], [blk g925 [.func (.func 38) #[] #[.pointer (some ⟨g900, 0, none⟩)]] 68], [blk g929 [.int .i64 0, .int .i64 0, .slice none 0 0] 28], [blk g946 [.int .i64 a0.Next, .int .i64 a0.NextSession, .slice p891 a0.Processes.length c892] 28], [blk g950 [.int .i64 0, .int .i64 0, .slice none 0 0] 28], [row 38 k_api_Process ([] : List api_Process) (.slice none 0 0)]] := H
    refine wb_ret2 E1782 rfl (rv_cellN (cs := [.int .i64 0, .int .i64 0, .slice none 0 0]) E1782 rfl Try.underlying28 rfl ti28 (H.get (i := 2) (k := 0) rfl rfl) rfl) (rv_tmp E1782 rfl) ?_
    exact ⟨_, rfl, [], [[row 38 k_api_Process ([] : List api_Process) (.slice none 0 0)]], ⟨_, _, rfl, rfl, rfl⟩, H.leave (fun Z hA => trivial) (fun Z S hA hL => Holds_sub (.cons _ (.cons _ (.cons _ (.cons _ (.cons _ (.cons _ (.cons _ (.cons _ (.cons_cons _ .slnil))))))))) hL)⟩
end Go.Proofs.Ytanimjbmkhpnaaa.Gx
